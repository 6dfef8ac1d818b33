/- a part of the proof -/
import Derived.ProofKit
import Derived.OpenShut
import Derived.ShutString
import Derived.ChangeOld
import Derived.Deep.Slices
import Derived.Deep.Fields
import Derived.ChangeSame
import Derived.Lib.SmallJoins
import Derived.SizedLaws
import Derived.Test.YtafdcbmgdfliiaaGreatG5
import Derived.Test.YtafdcbmgdfliiaaGreatG8
set_option linter.all false
set_option maxRecDepth 100000
set_option maxHeartbeats 3000000
namespace Go.Proofs.YtafdcbmgdfliiaaGreat
open Go.RowKit Go.Sort Go.Proofs.Tryz


end Go.Proofs.YtafdcbmgdfliiaaGreat
namespace Go.Proofs.YtafdcbmgdfliiaaGreat
open Go.ChangeShapes Go.WideShapes Go.ChangeAt Go.RowKit Go.Deep Go.Joins
variable {e t:TypeId}
open Go.ChangeMaps (open_string shut_string)
open Go.Proofs.Tryz
def own:ownKnob prog.godebug=none:=by kernel_rfl
def tV:laidOutB prog=true:=by kernel_rfl
def fX{A:Type}(t:TypeId)(r:RT A):Prop:=∀{H:Type} {enc:TypeId×Value->H} {W:Wd} {fuel:Nat} {cs:LV} {x:DataW H×List MemPlace},DataW.trod enc prog W 0 (λ_=>true) true fuel t cs=some x->(∀n∈DataW.weights prog t x.1,n<=reachBytes)->∃a:A,r.rep W cs a
def FF(b:prog.underlying t=some (.int .i64)):fX t RT.int:=by
 intro H c W a f x h _;have⟨n,e,_,d⟩:=DataW.trod_int b h;exact⟨n,e,d⟩
def sX{H:Type}:∀{l:List (DataW H)} {d:DataW H},d∈l->∀n∈d.weights prog e,n∈DataW.weightsAll prog e l
 |x::l,d,a,n,hn=>by
  simp only[DataW.weightsAll,List.mem_append];rcases List.mem_cons.1 a with rfl|a
  . exact .inl hn
  exact .inr (sX a n hn)
theorem GD{A:Type}(n:Nat)(R:Nat->A->Prop)(h:∀i,i<n->∃x,R i x):∃l:List A,l.length=n/\∀i (hi:i<l.length),R i l[i]:=by
 induction n with
 |zero=>simp_all
 |succ n ih=>
  have⟨l,b,c⟩:=ih (λi hi=>h i (by omega));have⟨x,d⟩:=h n (by omega);refine⟨l++ [x],by simp[b],λi hi=>?_⟩;grind
theorem FC{A:Type}{r:RT A}(E:prog.underlying t=some (.slice e))(hc:prog.cellsOf e=r.n)(hn:0<r.n)(hb:1<=prog.bytesOf e)(h:fX e r):fX t (RT.sl r):=by
 intro H a0 W X cs x hx Y;rcases open_slice E hx with⟨F,_⟩|⟨a,d,f,m,n,D,Pl,F,_,hl,_,G,u,Z⟩;exact⟨[],none,0,F,Bv _,by omega,.inl rfl⟩;simp only[if_true]at G;rw[G]at Z u;subst u;have K:=Y ((((List.range d).map D).length+((List.range (f-d)).map λj=>D (d+j)).length)*prog.bytesOf e) (by simp only[DataW.weights,E];exact List.mem_cons_self ..);have v:((List.range d).map D).length+((List.range (f-d)).map λj=>D (d+j)).length=f:=by simp;omega
 rw[v]at K;have w:f<=2^47:=by
  have:=reachBytes_lt;have p:f*1<=f*prog.bytesOf e:=Nat.mul_le_mul_left _ hb;omega
 have L:∀i,i<d->∃y:A,∃c,W.cells? 0 (a.add (i*prog.cellsOf e)) (prog.cellsOf e)=some c/\r.rep W c y:=by
  intro i s;obtain⟨c,p,z⟩:=Z i (by omega);obtain⟨y,hy⟩:=h z (λk hk=>Y k (by
   simp only[DataW.weights,E];refine List.mem_cons_of_mem _ (List.mem_append_left _ ?_);exact sX (List.mem_map.2 ⟨i,List.mem_range.2 s,rfl⟩) k hk))
  exact⟨y,c,p,hy⟩
 obtain⟨l,M,N⟩:=GD d (λi y=>∃c,W.cells? 0 (a.add (i*prog.cellsOf e)) (prog.cellsOf e)=some c/\r.rep W c y) L;subst M;refine⟨l,some a,f,F,hl,w,?_⟩;by_cases e0:l.length=0;exact .inl (List.length_eq_zero_iff.1 e0);have o:∀i (s:i<l.length),∃c,(∀j (hj:j<c.length),W.cell? (a.add (i*r.n+j))=some c[j])/\r.rep W c l[i]:=by
  intro i s;obtain⟨c,p,z⟩:=N i s;rw[hc]at p;obtain⟨_,P,Q⟩:=World.cells?_some p;refine⟨c,λj hj=>?_,z⟩;have g:=Q j (by omega);rw[add_add]at g;rw[g];exact Cz hj
 obtain⟨b,R,B⟩:=a;obtain⟨S,T,U⟩:=o 0 (by omega);have V:0<S.length:=by rw[r.len U];exact hn
 have g0:=T 0 V;have q:B=none:=by simpa[Addr.add] using World.cell?_spot g0
 subst q;have C:b<W.heap.size:=by simpa[Addr.add] using block_lt_of_cell g0
 refine .inr ⟨b,R,rfl,C,λi s=>?_⟩;obtain⟨c,p,z⟩:=o i s;refine⟨c,λj hj=>?_,z⟩;have g:=p j hj;rw[Addr.add_lit]at g;rw[Nat.add_assoc];exact g
