/- a part of the proof -/
import Derived.Test.YtelojoopofolpaaGreatH4
import Derived.Test.YtelojoopofolpaaGreatH1
set_option linter.all false
set_option maxRecDepth 100000
set_option maxHeartbeats 3000000
namespace Go.Proofs.YtelojoopofolpaaGreat
open Go.RowKit Go.Sort Go.Proofs.Tryz
mutual
theorem zwu{q c:LI}(d:∀i,i≠1->Am q i=Am c i):∀(f:zE),Pm 1 f=false->Aw q f=Aw c f
 | .mk o n l,h=>by
  rw[Pm]at h;rw[Aw,Aw];by_cases b:o=1
  . rw[iP b,iP b]
  rw[iN b,iN b];by_cases a:o=6
  . rw[iP a]at h;rw[iP a,iP a];have e:n≠1:=by simpa using h
    exact d _ (by omega)
  rw[iN a]at h;rw[iN a,iN a,zwy d l h]
theorem zwy{q a:LI}(b:∀i,i≠1->Am q i=Am a i):∀(l:List zE),Qo 1 l=false->Dz q l=Dz a l
 |[],_=>rfl
 |x::l,h=>by
  rw[Qo,Bool.or_eq_false_iff]at h;rw[Dz,Dz,zwu b x h.1,zwy b l h.2]
end
def ZZ(t:At)(c:Ad)(s:BA)(x y:Ai):LI:=Wh t c s x y (Bo t c x) (Bo t c y) (qE c)
theorem u_(t:At)(c:Ad)(s:BA)(x y:Ai):(ZZ t c s x y).length=25:=rfl
theorem zwF(t:At)(c:Ad)(s:BA)(x y:Ai):∀i,i≠1->Am (ZZ t c s x y) i=Am (Pp t c s x y) i
 |0,_=>rfl
 |1,h=>aB rfl h
 |i+2,_=>rfl
theorem zxm(t:At)(c:Ad)(s:BA)(x y:Ai):Wy c 2 (ZZ t c s x y)=Wy c 2 (Pp t c s x y):=by
 cases a:qE c;have d:∀i,i<(Sg c 2).length->Pm 1 (Eh (Sg c 2) i).2=false:=λi hi=>by
  have b:Sq (Sg c 2)=false:=by unfold qE at a;exact(Bool.or_eq_false_iff.1 a).1
  unfold Sq at b;have e:=List.any_eq_false.1 b (Sg c 2)[i] (gM hi);rw[Eh,Cr,Cz hi];simpa using e
 have f:∀k,k<=(Sg c 2).length->Ik (ZZ t c s x y) (Sg c 2) k=Ik (Pp t c s x y) (Sg c 2) k:=by
  intro k;induction k with
  |zero=>intro _;rfl
  |succ k ih=>
   intro g;rw[Ik,Ik,ih (by omega),zwu (zwF t c s x y) _ (d k (by omega))]
 show Ik (Rt ((2:Nat):Int) (ZZ t c s x y)) _ _=Ik (Rt ((2:Nat):Int) (Pp t c s x y)) _ _;rw[show Rt ((2:Nat):Int) (ZZ t c s x y)=ZZ t c s x y from I_ _,show Rt ((2:Nat):Int) (Pp t c s x y)=Pp t c s x y from I_ _];exact f _ (Bv _);unfold ZZ Pp;rw[a]
theorem zxc(t:At)(c:Ad)(s:BA)(x y:Ai):qQ c 2 (ZZ t c s x y)=qQ c 2 (Pp t c s x y):=by
 cases a:qE c;have d:∀i,i<(Ra c 2).length->Pm 1 (Ci (Ra c 2) i)=false:=λi hi=>by
  have b:Wc (Ra c 2)=false:=by unfold qE at a;exact(Bool.or_eq_false_iff.1 a).2
  unfold Wc at b;have e:=List.any_eq_false.1 b (Ra c 2)[i] (gM hi);rw[Ci,Cr,Cz hi];simpa using e
 have f:∀k,k<=(Ra c 2).length->Jx (ZZ t c s x y) (Ra c 2) k=Jx (Pp t c s x y) (Ra c 2) k:=by
  intro k;induction k with
  |zero=>intro _;rfl
  |succ k ih=>
   intro g;rw[Jx,Jx,ih (by omega),zwu (zwF t c s x y) _ (d k (by omega))]
 show Jx (Rt ((2:Nat):Int) (ZZ t c s x y)) _ _=Jx (Rt ((2:Nat):Int) (Pp t c s x y)) _ _;rw[show Rt ((2:Nat):Int) (ZZ t c s x y)=ZZ t c s x y from I_ _,show Rt ((2:Nat):Int) (Pp t c s x y)=Pp t c s x y from I_ _];exact f _ (Bv _);unfold ZZ Pp;rw[a]
theorem zwZ{t:At}{c:Ad}{s:BA}{x y:Ai}(f:zY t=0)(g:Ax c=0)(j:Cc t c x=0/\Cc t c y=0):Ob 2 (ZZ t c s x y) where
 len:=rfl
 val:=λi hi=>by
  have d:=(P_ (s:=s) f g j).val i hi;by_cases e:i=1
  . subst e;have a:=List.all_eq_true.1 zvI 1 (List.mem_range.2 (by decide));simp only[Em,bne_iff_ne,Bool.or_eq_true,decide_eq_true_eq]at a;refine⟨?_,λh=>aB h (by rcases a.2 with h|h;exact h;omega),λh=>aB h (by rcases a.1 with h|h;exact h;omega)⟩;have b:jU (kV t c x y):=d.1;show jU (if qE c=true then kV t c x y else 0)
    split
    . exact b
    unfold jU;omega
  rw[zwF t c s x y i e];exact d
theorem zwN(w:Wd)(sb:Nat)(t:At)(c:Ad)(P:Dh)(hS:Hl w sb t c P)(s:BA)(x y:Ai)(xa ya:Ae)(xc yc:Nat)(hx:Cc t c x=0)(hy:Cc t c y=0)(a4:Al Ei w xa x)(a5:Al Ei w ya y)(q r:LI)(qa ra:Ae)(qc rc:Nat)(a6:q.length=11)(a7:r.length=11)(a8:zW w qa q)(a9:zW w ra r):
 Calls prog 94 #[.pointer (some (aD sb 0)),.string s,.slice xa x.length xc,.slice ya y.length yc,.slice qa 11 qc,.slice ra 11 rc,.bool false] w λe w'=>∃v,e=.returned v/\w'.ownsRow w.heap.size 3 1 v 25 ((Wh t c s x y q r false).map (Value.int .i64))/\Bw w w':=by
 have b9:∀w:Wd,(Instr.makeSlice 22 (.int .i64 0) (.int .i64 25)).run prog w=.ok (.slice (some (aD w.heap.size 0)) 0 25) (w.alloc jA):=λ_=>by kernel_rfl
 obtain⟨i0,F,A,B,C⟩:=info_parts bV;obtain⟨qb,T,rfl,c0,b0⟩:=a8.cells (by omega);obtain⟨rb,U,rfl,c1,b1⟩:=a9.cells (by omega);have b2:=I (λW (h:Bw w W)=>λi F=>zj (b0 i F) c0 h);have b3:=I (λW (h:Bw w W)=>λi F=>zj (b1 i F) c1 h);have G:=I (aI a6 a7);clear a6 a7;have HS:=I hS;have HX:=I hx;have HY:=I hy;have b4:=I a4;have c2:=I a5;obtain⟨c3,b5,b6,c4⟩:fstN x<t.fs.length/\lstN x<t.fs.length/\fstN y<t.fs.length/\lstN y<t.fs.length:=⟨(Jl hx).2.1,(Jl hx).2.2.2,(Jl hy).2.1,(Jl hy).2.2.2⟩;have tx:=Lu hS.okT b5;have ty:=Lu hS.okT b6;have cr:=Ul hS.okC;have e1:(Bm t c y).1=(Aa t.fs (fstN y)).dp-c.rp:=rfl;have e2:(Bm t c x).2=(Aa t.fs (lstN x)).ar+c.rl:=rfl;obtain⟨l,H⟩:=aT ((Bm t c y).1);obtain⟨m,K⟩:=aT ((Bm t c x).2);have hw:IntKind.i64.wrap (l-m)=l-m:=by rw[wI,H,K,e1,e2];omega
 have V:=I (aI H K);obtain⟨pl,Y⟩:=aT ((Aa t.fs (lstN x)).to);have c5:=I Y;have L:=I (show Wh t c s x y q r false=(l-m)::(if false=true then kV t c x y else 0)::(if(pl.toList==s.toList)=true then 1 else 0)::(q++r) by rw[Wh,rK,H,K,Y]);have FD:=I (aI (λ(a b:Int) (w:Wd)=>(by kernel_rfl:(Instr.field 183 (.agg #[a,b]) 1).run prog w=.ok (.int .i64 b) w)) (λ(a b:Int) (w:Wd)=>(by kernel_rfl:(Instr.field 183 (.agg #[a,b]) 0).run prog w=.ok (.int .i64 a) w)));clear hS hx hy a4 a5 a8 a9 b0 b1 tx ty cr e1 e2 H K Y c3 b5 b6 c4;go_in;go_wp2_with fail;have M:=I (J w jA);have b7:=I (show World.ownsRow (w.alloc jA) w.heap.size 3 1 (.slice (some (aD w.heap.size 0)) 0 25) 0 [] from⟨rfl,.inr ⟨w.heap.size,25,_,rfl,Bv _,zh w jA,by omega,by unfold maxLen;omega,rfl,rfl⟩⟩);generalize w.alloc jA=W1 at*;refine ca (To W1 sb t c P (HS.1.below M.1) x xa xc HX.1 (b4.1.below M.1)) λw2 Z=>?_;have N:=jS M Z;have b8:=I (Sk b7.1 Z);clear Z M b7 b9;have f1:=FD.1.1 (Bm t c x).1 (Bm t c x).2;go_wp2_with fail;clear f1;refine ca (To w2 sb t c P (HS.1.below N.1) y ya yc HY.1 (c2.1.below N.1)) λw3 a0=>?_;have c6:=jS N a0;have c7:=I (Sk b8.1 a0);clear a0 N b8;rw[<-V.1.2];have f0:=FD.1.2 (Bm t c y).1 (Bm t c y).2;go_wp2_with fail;rw[<-V.1.1];clear f0;have D:=jS c6 (J w3 (oQ m l));have Q:=I (Sk c7.1 (J w3 (oQ m l)));have QP:=I (zh w3 (oQ m l));obtain⟨X,a1⟩:=aT w3.heap.size;rw[<-a1]at QP;simp only[<-a1];clear a1;generalize w3.alloc (oQ m l)=E at*;refine cb (Jy E sb t c P (HS.1.below D.1) x xa xc HX.1 (b4.1.below D.1)) ?_;rw[<-c5.1];have hn:=I (show Wh t c s x y q r false=(l-m)::0::(if(pl.toList==s.toList)=true then 1 else 0)::(q++r) from L.1);replace L:=hn;have z:=aI (show E.cell? (aD X 0)=some (.int .i64 m) from zm (j:=0) QP.1 rfl) (show E.cell? (aD X 1)=some (.int .i64 l) from zm (j:=1) QP.1 rfl);have c9:=Ag QP.1;by_cases hh:(pl.toList==s.toList)=true
 . have c8:=hh;have hj:=I (L.1.trans (by rw[iP hh]):Wh t c s x y q r false=(l-m)::0::1::(q++r));clear hh;have p0:E.cell? (aD X 0)=some (.int .i64 m):=z.1;have p1:E.cell? (aD X 1)=some (.int .i64 l):=z.2;go_wp2_with (at_builtin;refine wpList_append_own _ rfl _ _ 22 rfl w.heap.size 3 i0 (.int .i64 0) 1 8 underlying22 F A B C rfl (by decide) _ _ _ rfl (Q.1.alloc _) (aD E.heap.size 0) 3 3 [.int .i64 (l-m),.int .i64 0,.int .i64 1] rfl ?c0a ?c1a ?c2a ?c3a ?c4a ?c5a ?_)
   case c0a=>rfl
   case c1a=>exact Hh E [.int .i64 (l-m),.int .i64 0,.int .i64 1] 3
   case c2a=>intro u hu;simp at hu;rcases hu with rfl|rfl|rfl <;> rfl
   case c3a=>unfold maxLen;omega
   case c4a=>omega
   case c5a=>have:=D.1.size;simp;omega
   intro v1 x1 d n _;have R:=I (Ld (e':=3) D.1 rfl Q.1 n);have O1:=I d;have a2:=I (b2.1 _ R.1);clear d n p0 p1;go_wp2_with (at_builtin;refine wpList_append_own _ rfl _ _ 22 rfl w.heap.size 3 i0 (.int .i64 0) 1 8 underlying22 F A B C rfl (by decide) _ _ _ rfl O1.1 (aD qb T) 11 qc (q.map (Value.int .i64)) rfl ?c0b ?c1b ?c2b ?c3b ?c4b ?c5b ?_)
   case c0b=>rw[List.length_map,G.1.1]
   case c1b=>exact kZ a2.1
   case c2b=>exact kY q
   case c3b=>unfold maxLen;omega
   case c4b=>omega
   case c5b=>exact R.1.size
   intro v2 x2 f o _;have S:=I (R.1.grown o R.1.size (λk hk=>Lt O1.1 k hk));have O2:=I f;have a3:=I (b3.1 _ S.1);clear f o;go_wp2_with (at_builtin;refine wpList_append_own _ rfl _ _ 22 rfl w.heap.size 3 i0 (.int .i64 0) 1 8 underlying22 F A B C rfl (by decide) _ _ _ rfl O2.1 (aD rb U) 11 rc (r.map (Value.int .i64)) rfl ?c0c ?c1c ?c2c ?c3c ?c4c ?c5c ?_)
   case c0c=>rw[List.length_map,G.1.2]
   case c1c=>exact kZ a3.1
   case c2c=>exact kY r
   case c3c=>unfold maxLen;omega
   case c4c=>omega
   case c5c=>exact S.1.size
   intro v3 x3 g p _;have B3:=I (S.1.grown p S.1.size (λk hk=>Lt O2.1 k hk));have O3:=I g;clear g p;go_wp2;go_ret;exact⟨v3,rfl,by rw[hj.1];simpa using O3.1,B3.1⟩
 have c8:(pl.toList==s.toList)=false:=by simpa using hh
 have hj:=I (L.1.trans (by rw[iN hh]):Wh t c s x y q r false=(l-m)::0::0::(q++r));clear hh;have p0:E.cell? (aD X 0)=some (.int .i64 m):=z.1;have p1:E.cell? (aD X 1)=some (.int .i64 l):=z.2;go_wp2_with (at_builtin;refine wpList_append_own _ rfl _ _ 22 rfl w.heap.size 3 i0 (.int .i64 0) 1 8 underlying22 F A B C rfl (by decide) _ _ _ rfl (Q.1.alloc _) (aD E.heap.size 0) 3 3 [.int .i64 (l-m),.int .i64 0,.int .i64 0] rfl ?c0a ?c1a ?c2a ?c3a ?c4a ?c5a ?_)
 case c0a=>rfl
 case c1a=>exact Hh E [.int .i64 (l-m),.int .i64 0,.int .i64 0] 3
 case c2a=>intro u hu;simp at hu;rcases hu with rfl|rfl|rfl <;> rfl
 case c3a=>unfold maxLen;omega
 case c4a=>omega
 case c5a=>have:=D.1.size;simp;omega
 intro v1 x1 d n _;have R:=I (Ld (e':=3) D.1 rfl Q.1 n);have O1:=I d;have a2:=I (b2.1 _ R.1);clear d n p0 p1;go_wp2_with (at_builtin;refine wpList_append_own _ rfl _ _ 22 rfl w.heap.size 3 i0 (.int .i64 0) 1 8 underlying22 F A B C rfl (by decide) _ _ _ rfl O1.1 (aD qb T) 11 qc (q.map (Value.int .i64)) rfl ?c0b ?c1b ?c2b ?c3b ?c4b ?c5b ?_)
 case c0b=>rw[List.length_map,G.1.1]
 case c1b=>exact kZ a2.1
 case c2b=>exact kY q
 case c3b=>unfold maxLen;omega
 case c4b=>omega
 case c5b=>exact R.1.size
 intro v2 x2 f o _;have S:=I (R.1.grown o R.1.size (λk hk=>Lt O1.1 k hk));have O2:=I f;have a3:=I (b3.1 _ S.1);clear f o;go_wp2_with (at_builtin;refine wpList_append_own _ rfl _ _ 22 rfl w.heap.size 3 i0 (.int .i64 0) 1 8 underlying22 F A B C rfl (by decide) _ _ _ rfl O2.1 (aD rb U) 11 rc (r.map (Value.int .i64)) rfl ?c0c ?c1c ?c2c ?c3c ?c4c ?c5c ?_)
 case c0c=>rw[List.length_map,G.1.2]
 case c1c=>exact kZ a3.1
 case c2c=>exact kY r
 case c3c=>unfold maxLen;omega
 case c4c=>omega
 case c5c=>exact S.1.size
 intro v3 x3 g p _;have B3:=I (S.1.grown p S.1.size (λk hk=>Lt O2.1 k hk));have O3:=I g;clear g p;go_wp2;go_ret;exact⟨v3,rfl,by rw[hj.1];simpa using O3.1,B3.1⟩
theorem zwO(w:Wd)(sb:Nat)(t:At)(c:Ad)(P:Dh)(B:Hl w sb t c P)(E:P.nights=qE c)(s:BA)(x y:Ai)(j k:Ae)(p q:Nat)(C:Cc t c x=0)(D:Cc t c y=0)(f:Al Ei w j x)(g:Al Ei w k y)(m n:Ae)(r u:Nat)(h:zW w m (Bo t c x))(i:zW w n (Bo t c y)):
 Calls prog 94 #[hZ sb 0,.string s,.slice j x.length p,.slice k y.length q,.slice m 11 r,.slice n 11 u,.bool P.nights] w λe o=>∃a b,e=.returned (.slice a 25 b)/\zW o a (ZZ t c s x y)/\Bw w o:=by
 have F:ZZ t c s x y=Wh t c s x y (Bo t c x) (Bo t c y) P.nights:=by rw[ZZ,E]
 rw[F];cases G:P.nights;refine(zwN w sb t c P B s x y j k p q C D f g (Bo t c x) (Bo t c y) m n r u rfl rfl h i).mono ?_;rintro e o ⟨v,rfl,z,d⟩;obtain⟨a,b,rfl,A⟩:=zW.of_own (l:=Wh t c s x y (Bo t c x) (Bo t c y) false) z;exact⟨a,b,rfl,A,d⟩;refine(WK w sb t c P B s x y j k p q C D f g (Bo t c x) (Bo t c y) m n r u rfl rfl h i).mono ?_;rintro e o ⟨v,rfl,z,d⟩;obtain⟨a,b,rfl,A⟩:=zW.of_own (l:=Wh t c s x y (Bo t c x) (Bo t c y) true) z;exact⟨a,b,rfl,A,d⟩
end Go.Proofs.YtelojoopofolpaaGreat
