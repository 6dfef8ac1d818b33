/- a part of the proof -/
import Derived.Test.YtafdcbmgdfliiaaGreatH4
set_option linter.all false
set_option maxRecDepth 100000
set_option maxHeartbeats 3000000
namespace Go.Proofs.YtafdcbmgdfliiaaGreat
open Go.RowKit Go.Sort Go.Proofs.Tryz
mutual
theorem zwu{q c:LI}(d:∀i,i≠1->Am q i=Am c i):∀(f:zE),Pm 1 f=false->Aw q f=Aw c f
 | .mk o n l,h=>by
  rw[Pm]at h;rw[Aw,Aw];by_cases b:o=1
  . rw[iP b,iP b]
  rw[iN b,iN b];by_cases a:o=6
  . grind
  rw[iN a]at h;rw[iN a,iN a,zwy d l h]
theorem zwy{q a:LI}(b:∀i,i≠1->Am q i=Am a i):∀(l:List zE),Qo 1 l=false->Dz q l=Dz a l
 |[],_=>rfl
 |x::l,h=>by
  rw[Qo,Bool.or_eq_false_iff]at h;rw[Dz,Dz,zwu b x h.1,zwy b l h.2]
end
def ZZ(t:At)(c:Ad)(s:BA)(x y:Ai):LI:=Wh t c s x y (Bo t c x) (Bo t c y) (qE c)
theorem zwF(t:At)(c:Ad)(s:BA)(x y:Ai):∀i,i≠1->Am (ZZ t c s x y) i=Am (Pp t c s x y) i
 |0,_=>rfl
 |1,h=>aB rfl h
 |i+2,_=>rfl
theorem zxm(t:At)(c:Ad)(s:BA)(x y:Ai):Wy c 2 (ZZ t c s x y)=Wy c 2 (Pp t c s x y):=by
 cases a:qE c;have d:∀i,i<(Sg c 2).length->Pm 1 (Eh (Sg c 2) i).2=false:=λi hi=>by
  grind[Sq,qE,Eh]
 have f:∀k,k<=(Sg c 2).length->Ik (ZZ t c s x y) (Sg c 2) k=Ik (Pp t c s x y) (Sg c 2) k:=by
  intro k;induction k with
  |zero=>intro _;rfl
  |succ k ih=>
   grind[Ik,zwu,zwF]
 show Ik (Rt ((2:Nat):Int) (ZZ t c s x y)) _ _=Ik (Rt ((2:Nat):Int) (Pp t c s x y)) _ _;all_goals grind[ZZ,I_,Pp]
theorem zxc(t:At)(c:Ad)(s:BA)(x y:Ai):zoy c 2 (ZZ t c s x y)=zoy c 2 (Pp t c s x y):=by
 cases a:qE c;have d:∀i,i<(Ra c 2).length->Pm 1 (Ci (Ra c 2) i)=false:=λi hi=>by
  grind[Wc,qE,Ci]
 have f:∀k,k<=(Ra c 2).length->Jx (ZZ t c s x y) (Ra c 2) k=Jx (Pp t c s x y) (Ra c 2) k:=by
  intro k;induction k with
  |zero=>intro _;rfl
  |succ k ih=>
   grind[Jx,zwu,zwF]
 show Jx (Rt ((2:Nat):Int) (ZZ t c s x y)) _ _=Jx (Rt ((2:Nat):Int) (Pp t c s x y)) _ _;all_goals grind[ZZ,I_,Pp]
