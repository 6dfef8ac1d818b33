/- a part of the proof -/
import Derived.Laws.AppendOwnNone
import Derived.Test.YtelojoopofolpaaGreatH4
import Derived.Test.YtelojoopofolpaaGreatH1
set_option linter.all false
set_option maxRecDepth 100000
set_option maxHeartbeats 3000000
namespace Go.Proofs.YtelojoopofolpaaGreat
open Go.RowKit Go.Sort Go.Proofs.Tryz
variable {q:LI}{s:BA}{w:Wd}
theorem zwN(w:Wd)(sb:Nat)(t:At)(c:Ad)(P:Dh)(hS:Hl w sb t c P)(s:BA)(x y:Ai)(xa ya:Ae)(xc yc:Nat)(hx:Cc t c x=0)(hy:Cc t c y=0)(a4:Al Ei w xa x)(a5:Al Ei w ya y)(q r:LI)(qa ra:Ae)(qc rc:Nat)(a6:q.length=11)(a7:r.length=11)(a8:zW w qa q)(a9:zW w ra r):
 Calls prog 94 #[.pointer (some (aD sb 0)),.string s,.slice xa x.length xc,.slice ya y.length yc,.slice qa 11 qc,.slice ra 11 rc,.bool false] w λe w'=>∃v,e=.returned v/\w'.ownsRow w.heap.size 3 1 v 25 ((Wh t c s x y q r false).map (Value.int .i64))/\Bw w w':=by
 have b9:∀w:Wd,(Instr.makeSlice 22 (.int .i64 0) (.int .i64 25)).run prog w=.ok (.slice (some (aD w.heap.size 0)) 0 25) (w.alloc jB):=λ_=>by kernel_rfl
 obtain⟨i0,F,A,B,C⟩:=info_parts bV;obtain⟨qb,T,rfl,c0,b0⟩:=a8.cells (by omega);obtain⟨rb,U,rfl,c1,b1⟩:=a9.cells (by omega);have b2:=I (λW (h:Bw w W)=>λi F=>zj (b0 i F) c0 h);have b3:=I (λW (h:Bw w W)=>λi F=>zj (b1 i F) c1 h);have G:=I (aI a6 a7);clear a6 a7;have HS:=I hS;have HX:=I hx;have HY:=I hy;have b4:=I a4;have c2:=I a5;obtain⟨c3,b5,b6,c4⟩:fstN x<t.fs.length/\lstN x<t.fs.length/\fstN y<t.fs.length/\lstN y<t.fs.length:=⟨(Jl hx).2.1,(Jl hx).2.2.2,(Jl hy).2.1,(Jl hy).2.2.2⟩;have tx:=Lu hS.okT b5;have ty:=Lu hS.okT b6;have cr:=Ul hS.okC;have e1:(Bm t c y).1=(Aa t.fs (fstN y)).dp-c.rp:=rfl;have e2:(Bm t c x).2=(Aa t.fs (lstN x)).ar+c.rl:=rfl;obtain⟨l,H⟩:=xSa ((Bm t c y).1);obtain⟨m,K⟩:=xSa ((Bm t c x).2);have hw:IntKind.i64.wrap (l-m)=l-m:=by rw[wI,H,K,e1,e2];omega
 have V:=I (aI H K);obtain⟨pl,Y⟩:=xSa ((Aa t.fs (lstN x)).to);have c5:=I Y;have L:=I (show Wh t c s x y q r false=(l-m)::(if false=true then kV t c x y else 0)::(if(pl.toList==s.toList)=true then 1 else 0)::(q++r) by rw[Wh,rK,H,K,Y]);have FD:=I (aI (λ(a b:Int) (w:Wd)=>(by kernel_rfl:(Instr.field 183 (.agg #[a,b]) 1).run prog w=.ok (.int .i64 b) w)) (λ(a b:Int) (w:Wd)=>(by kernel_rfl:(Instr.field 183 (.agg #[a,b]) 0).run prog w=.ok (.int .i64 a) w)));clear hS hx hy a4 a5 a8 a9 b0 b1 tx ty cr e1 e2 H K Y c3 b5 b6 c4;go_in;go_wp2_with fail;have M:=I (J w jB);have b7:=I (show World.ownsRow (w.alloc jB) w.heap.size 3 1 (.slice (some (aD w.heap.size 0)) 0 25) 0 [] from⟨rfl,.inr ⟨w.heap.size,25,_,rfl,Bv _,zh w jB,by omega,by unfold maxLen;omega,rfl,rfl⟩⟩);generalize w.alloc jB=W1 at*;refine ca (To W1 sb t c P (HS.1.below M.1) x xa xc HX.1 (b4.1.below M.1)) λw2 Z=>?_;have N:=jS M Z;have b8:=I (Sk b7.1 Z);clear Z M b7 b9;have f1:=FD.1.1 (Bm t c x).1 (Bm t c x).2;go_wp2_with fail;clear f1;refine ca (To w2 sb t c P (HS.1.below N.1) y ya yc HY.1 (c2.1.below N.1)) λw3 a0=>?_;have c6:=jS N a0;have c7:=I (Sk b8.1 a0);clear a0 N b8;rw[<-V.1.2];have f0:=FD.1.2 (Bm t c y).1 (Bm t c y).2;go_wp2_with fail;rw[<-V.1.1];clear f0;have D:=jS c6 (J w3 (oQ m l));have Q:=I (Sk c7.1 (J w3 (oQ m l)));have QP:=I (zh w3 (oQ m l));obtain⟨X,a1⟩:=xSa w3.heap.size;rw[<-a1]at QP;simp only[<-a1];clear a1;generalize w3.alloc (oQ m l)=E at*;refine cb (Jy E sb t c P (HS.1.below D.1) x xa xc HX.1 (b4.1.below D.1)) ?_;rw[<-c5.1];have hn:=I (show Wh t c s x y q r false=(l-m)::0::(if(pl.toList==s.toList)=true then 1 else 0)::(q++r) from L.1);replace L:=hn;have z:=aI (show E.cell? (aD X 0)=some (.int .i64 m) from zm (j:=0) QP.1 rfl) (show E.cell? (aD X 1)=some (.int .i64 l) from zm (j:=1) QP.1 rfl);have c9:=Ag QP.1;by_cases hh:(pl.toList==s.toList)=true
 . have c8:=hh;have hj:=I (L.1.trans (by rw[iP hh]):Wh t c s x y q r false=(l-m)::0::1::(q++r));clear hh;have p0:E.cell? (aD X 0)=some (.int .i64 m):=z.1;have p1:E.cell? (aD X 1)=some (.int .i64 l):=z.2;go_wp2_with (at_builtin;refine wpList_append_own _ rfl _ _ 22 rfl w.heap.size 3 i0 (.int .i64 0) 1 8 underlying22 F A B C rfl (by decide) _ _ _ rfl (Q.1.alloc _) (aD E.heap.size 0) 3 3 [.int .i64 (l-m),.int .i64 0,.int .i64 1] rfl ?c0a ?c1a ?c2a ?c3a ?c4a ?c5a ?_)
   case c0a=>rfl
   case c1a=>exact Hh E [.int .i64 (l-m),.int .i64 0,.int .i64 1] 3
   case c2a=>intro u hu;simp at hu;rcases hu with rfl|rfl|rfl <;> rfl
   case c3a=>unfold maxLen;omega
   case c4a=>omega
   case c5a=>have:=D.1.size;simp;omega
   intro v1 x1 d n _;have R:=I (Ld (e':=3) D.1 rfl Q.1 n);have O1:=I d;have a2:=I (b2.1 _ R.1);clear d n p0 p1;go_wp2_with (at_builtin;refine wpList_append_own _ rfl _ _ 22 rfl w.heap.size 3 i0 (.int .i64 0) 1 8 underlying22 F A B C rfl (by decide) _ _ _ rfl O1.1 (aD qb T) 11 qc (q.map (Value.int .i64)) rfl ?c0b ?c1b ?c2b ?c3b ?c4b ?c5b ?_)
   case c0b=>rw[List.length_map,G.1.1]
   case c1b=>exact kZ a2.1
   case c2b=>exact kY q
   case c3b=>unfold maxLen;omega
   case c4b=>omega
   case c5b=>exact R.1.size
   intro v2 x2 f o _;have S:=I (R.1.grown o R.1.size (λk hk=>Lt O1.1 k hk));have O2:=I f;have a3:=I (b3.1 _ S.1);clear f o;go_wp2_with (at_builtin;refine wpList_append_own _ rfl _ _ 22 rfl w.heap.size 3 i0 (.int .i64 0) 1 8 underlying22 F A B C rfl (by decide) _ _ _ rfl O2.1 (aD rb U) 11 rc (r.map (Value.int .i64)) rfl ?c0c ?c1c ?c2c ?c3c ?c4c ?c5c ?_)
   case c0c=>rw[List.length_map,G.1.2]
   case c1c=>exact kZ a3.1
   case c2c=>exact kY r
   case c3c=>unfold maxLen;omega
   case c4c=>omega
   case c5c=>exact S.1.size
   intro v3 x3 g p _;have B3:=I (S.1.grown p S.1.size (λk hk=>Lt O2.1 k hk));have O3:=I g;clear g p;go_wp2;go_ret;exact⟨v3,rfl,by rw[hj.1];simpa using O3.1,B3.1⟩
 have c8:(pl.toList==s.toList)=false:=by simpa using hh
 have hj:=I (L.1.trans (by rw[iN hh]):Wh t c s x y q r false=(l-m)::0::0::(q++r));clear hh;have p0:E.cell? (aD X 0)=some (.int .i64 m):=z.1;have p1:E.cell? (aD X 1)=some (.int .i64 l):=z.2;go_wp2_with (at_builtin;refine wpList_append_own _ rfl _ _ 22 rfl w.heap.size 3 i0 (.int .i64 0) 1 8 underlying22 F A B C rfl (by decide) _ _ _ rfl (Q.1.alloc _) (aD E.heap.size 0) 3 3 [.int .i64 (l-m),.int .i64 0,.int .i64 0] rfl ?c0a ?c1a ?c2a ?c3a ?c4a ?c5a ?_)
 case c0a=>rfl
 case c1a=>exact Hh E [.int .i64 (l-m),.int .i64 0,.int .i64 0] 3
 case c2a=>intro u hu;simp at hu;rcases hu with rfl|rfl|rfl <;> rfl
 case c3a=>unfold maxLen;omega
 case c4a=>omega
 case c5a=>have:=D.1.size;simp;omega
 intro v1 x1 d n _;have R:=I (Ld (e':=3) D.1 rfl Q.1 n);have O1:=I d;have a2:=I (b2.1 _ R.1);clear d n p0 p1;go_wp2_with (at_builtin;refine wpList_append_own _ rfl _ _ 22 rfl w.heap.size 3 i0 (.int .i64 0) 1 8 underlying22 F A B C rfl (by decide) _ _ _ rfl O1.1 (aD qb T) 11 qc (q.map (Value.int .i64)) rfl ?c0b ?c1b ?c2b ?c3b ?c4b ?c5b ?_)
 case c0b=>rw[List.length_map,G.1.1]
 case c1b=>exact kZ a2.1
 case c2b=>exact kY q
 case c3b=>unfold maxLen;omega
 case c4b=>omega
 case c5b=>exact R.1.size
 intro v2 x2 f o _;have S:=I (R.1.grown o R.1.size (λk hk=>Lt O1.1 k hk));have O2:=I f;have a3:=I (b3.1 _ S.1);clear f o;go_wp2_with (at_builtin;refine wpList_append_own _ rfl _ _ 22 rfl w.heap.size 3 i0 (.int .i64 0) 1 8 underlying22 F A B C rfl (by decide) _ _ _ rfl O2.1 (aD rb U) 11 rc (r.map (Value.int .i64)) rfl ?c0c ?c1c ?c2c ?c3c ?c4c ?c5c ?_)
 case c0c=>rw[List.length_map,G.1.2]
 case c1c=>exact kZ a3.1
 case c2c=>exact kY r
 case c3c=>unfold maxLen;omega
 case c4c=>omega
 case c5c=>exact S.1.size
 intro v3 x3 g p _;have B3:=I (S.1.grown p S.1.size (λk hk=>Lt O2.1 k hk));have O3:=I g;clear g p;go_wp2;go_ret;exact⟨v3,rfl,by rw[hj.1];simpa using O3.1,B3.1⟩
mutual
theorem zwu{c:LI}(d:∀i,i≠1->Am q i=Am c i):∀(f:zE),Pm 1 f=false->Aw q f=Aw c f
 | .mk o n l,h=>by
  rw[Pm]at h;rw[Aw,Aw];by_cases b:o=1
  . rw[iP b,iP b]
  rw[iN b,iN b];by_cases a:o=6
  . rw[iP a]at h;rw[iP a,iP a];have e:n≠1:=by simpa using h
    exact d _ (by omega)
  rw[iN a]at h;rw[iN a,iN a,zwy d l h]
theorem zwy{a:LI}(b:∀i,i≠1->Am q i=Am a i):∀(l:List zE),Qo 1 l=false->Dz q l=Dz a l
 |[],_=>rfl
 |x::l,h=>by
  rw[Qo,Bool.or_eq_false_iff]at h;rw[Dz,Dz,zwu b x h.1,zwy b l h.2]
end
def ZZ(t:At)(c:Ad)(s:BA)(x y:Ai):LI:=Wh t c s x y (Bo t c x) (Bo t c y) (qE c)
theorem u_(t:At)(c:Ad)(s:BA)(x y:Ai):(ZZ t c s x y).length=25:=rfl
theorem zwF(t:At)(c:Ad)(s:BA)(x y:Ai):∀i,i≠1->Am (ZZ t c s x y) i=Am (Pp t c s x y) i
 |0,_=>rfl
 |1,h=>aB rfl h
 |i+2,_=>rfl
theorem zxm(t:At)(c:Ad)(s:BA)(x y:Ai):Wy c 2 (ZZ t c s x y)=Wy c 2 (Pp t c s x y):=by
 cases a:qE c;have d:∀i,i<(Sg c 2).length->Pm 1 (Eh (Sg c 2) i).2=false:=λi hi=>by
  have b:Sq (Sg c 2)=false:=by unfold qE at a;exact(Bool.or_eq_false_iff.1 a).1
  unfold Sq at b;have e:=List.any_eq_false.1 b (Sg c 2)[i] (gM hi);rw[Eh,Cr,Cz hi];simpa using e
 have f:∀k,k<=(Sg c 2).length->Ik (ZZ t c s x y) (Sg c 2) k=Ik (Pp t c s x y) (Sg c 2) k:=by
  intro k;induction k with
  |zero=>intro _;rfl
  |succ k ih=>
   intro g;rw[Ik,Ik,ih (by omega),zwu (zwF t c s x y) _ (d k (by omega))]
 show Ik (Rt ((2:Nat):Int) (ZZ t c s x y)) _ _=Ik (Rt ((2:Nat):Int) (Pp t c s x y)) _ _;rw[show Rt ((2:Nat):Int) (ZZ t c s x y)=ZZ t c s x y from I_ _,show Rt ((2:Nat):Int) (Pp t c s x y)=Pp t c s x y from I_ _];exact f _ (Bv _);unfold ZZ Pp;rw[a]
theorem zxc(t:At)(c:Ad)(s:BA)(x y:Ai):qQ c 2 (ZZ t c s x y)=qQ c 2 (Pp t c s x y):=by
 cases a:qE c;have d:∀i,i<(Ra c 2).length->Pm 1 (Ci (Ra c 2) i)=false:=λi hi=>by
  have b:Wc (Ra c 2)=false:=by unfold qE at a;exact(Bool.or_eq_false_iff.1 a).2
  unfold Wc at b;have e:=List.any_eq_false.1 b (Ra c 2)[i] (gM hi);rw[Ci,Cr,Cz hi];simpa using e
 have f:∀k,k<=(Ra c 2).length->Jx (ZZ t c s x y) (Ra c 2) k=Jx (Pp t c s x y) (Ra c 2) k:=by
  intro k;induction k with
  |zero=>intro _;rfl
  |succ k ih=>
   intro g;rw[Jx,Jx,ih (by omega),zwu (zwF t c s x y) _ (d k (by omega))]
 show Jx (Rt ((2:Nat):Int) (ZZ t c s x y)) _ _=Jx (Rt ((2:Nat):Int) (Pp t c s x y)) _ _;rw[show Rt ((2:Nat):Int) (ZZ t c s x y)=ZZ t c s x y from I_ _,show Rt ((2:Nat):Int) (Pp t c s x y)=Pp t c s x y from I_ _];exact f _ (Bv _);unfold ZZ Pp;rw[a]
theorem zwZ{t:At}{c:Ad}{x y:Ai}(f:zY t=0)(g:Ax c=0)(j:Cc t c x=0/\Cc t c y=0):Ob 2 (ZZ t c s x y) where
 len:=rfl
 val:=λi hi=>by
  have d:=(P_ (s:=s) f g j).val i hi;by_cases e:i=1
  . subst e;have a:=List.all_eq_true.1 zvI 1 (List.mem_range.2 (by decide));simp only[Em,bne_iff_ne,Bool.or_eq_true,decide_eq_true_eq]at a;refine⟨?_,λh=>aB h (by rcases a.2 with h|h;exact h;omega),λh=>aB h (by rcases a.1 with h|h;exact h;omega)⟩;have b:jU (kV t c x y):=d.1;show jU (if qE c=true then kV t c x y else 0)
    split
    . exact b
    unfold jU;omega
  rw[zwF t c s x y i e];exact d
def N_(t:At)(c:Ad)(s:BA)(L:List Ai):LI:=Rt 3 (Pa t c s L)
theorem zwx:((List.range 7).all λi=>Cl 3 (Bl (zk 3) i) !=4&&Cl 3 (Bl (zk 3) i) !=3)=true:=by decide+kernel
theorem zwB{t:At}{c:Ad}{L:List Ai}(a:zY t=0)(b:Ax c=0)(d:1<=L.length)(e:L.length<=6)(hd:∀k,k<L.length->Cc t c (Ba L k)=0):(∀i,i<7->i≠6->jU (Am (Pa t c s L) i))/\-9000000000000000000<=Am (Pa t c s L) 6/\Am (Pa t c s L) 6<=9000000000000000000:=by
 have f:=rM a b hd 0 (by decide) L.length (Bv _);have g:=rM a b hd 1 (by decide) L.length (Bv _);have j:=rM a b hd 3 (by decide) L.length (Bv _);have m:=rN a b hd L.length (Bv _);have n:=Tq a b (hd 0 (by omega));have p:=Tq a b (hd (L.length-1) (by omega));have q:=CT (nm:=(zp t s).name.data.toList) (o:=(zp t s).off) (l:=(zp t s).sh) (x:=(Bm t c (Ba L 0)).1) (y:=(Bm t c (Ba L (L.length-1))).2) (by omega) (by omega);refine⟨λi hi hne=>?_,?_⟩;unfold jU;match i,hi,hne with
 |0,_,_=>show -1099511627776<=(L.length:Int)/\(L.length:Int)<=_;omega
 |1,_,_=>show -1099511627776<=Be t c L 0 L.length/\Be t c L 0 L.length<=_;omega
 |2,_,_=>show -1099511627776<=Be t c L 1 L.length/\Be t c L 1 L.length<=_;omega
 |3,_,_=>simp only[Pa,Am,List.getD_cons_succ,List.getD_cons_zero];omega
 |4,_,_=>show -1099511627776<=Be t c L 3 L.length/\Be t c L 3 L.length<=_;omega
 |5,_,_=>simp only[Pa,Am,List.getD_cons_succ,List.getD_cons_zero];omega
 |6,_,h=>exact aB rfl h
 show -9000000000000000000<=Dp t c L L.length/\Dp t c L L.length<=_;omega
theorem zwW(t:At)(c:Ad)(s:BA)(L:List Ai)(i:Nat):Am (N_ t c s L) i=if i=6 then Fz (Am (Pa t c s L) 6) else Am (Pa t c s L) i:=by
 unfold N_ Rt;rw[iP rfl,zs2 (by show 6<7;decide)]
theorem zxh(n:Int):jU (Fz n):=by
 unfold jU Fz;split;omega;split <;> omega
theorem p_{t:At}{c:Ad}{L:List Ai}(d:zY t=0)(e:Ax c=0)(f:1<=L.length)(g:L.length<=6)(hd:∀k,k<L.length->Cc t c (Ba L k)=0):Ob 3 (N_ t c s L) where
 len:=by unfold N_;rw[L_];rfl
 val:=λi hi=>by
  have a:i<7:=by rw[show(N_ t c s L).length=7 by unfold N_;rw[L_];rfl]at hi;exact hi
  have b:=List.all_eq_true.1 zwx i (List.mem_range.2 a);simp only[Em,bne_iff_ne]at b;refine⟨?_,λh=>aB h b.2,λh=>aB h b.1⟩;rw[zwW];split
  . exact zxh _
  next h=>exact(zwB d e f g hd).1 i a h
theorem zwJ{t:At}{c:Ad}{L:List Ai}(d:zY t=0)(f:Ax c=0)(g:1<=L.length)(h:L.length<=6)(hd:∀k,k<L.length->Cc t c (Ba L k)=0):bZ 3 (Pa t c s L) (N_ t c s L) where
 l0:=rfl
 ok:=p_ d f g h hd
 bd:=λi hi=>by
  have b:i<7:=hi;have m:=zwB (s:=s) d f g h hd;by_cases e:i=6
  . subst e;exact m.2
  have:=m.1 i b e;unfold jU at this;omega
 atr:=λa i hp=>by
  have q:=p_ (s:=s) d f g h hd;have o:=kS hp;have p:=rD hp;have b:i<7:=o;have j:=List.all_eq_true.1 zwx i (List.mem_range.2 b);simp only[Em,bne_iff_ne]at j;rw[show Bl (zk 3) i=a from p]at j;have l:∀n,Ju (Cl 3 a) n=Fz n:=λn=>by unfold Ju;rw[iN j.2,iN j.1]
  show Ju (Cl 3 a) _=_
  rw[l,zwW];by_cases e:i=6
  . subst e;rw[iP rfl]
  rw[iN e];exact Za ((zwB d f g h hd).1 i b e)
theorem zwO(w:Wd)(sb:Nat)(t:At)(c:Ad)(P:Dh)(B:Hl w sb t c P)(E:P.nights=qE c)(s:BA)(x y:Ai)(j k:Ae)(p q:Nat)(C:Cc t c x=0)(D:Cc t c y=0)(f:Al Ei w j x)(g:Al Ei w k y)(m n:Ae)(r u:Nat)(h:zW w m (Bo t c x))(i:zW w n (Bo t c y)):
 Calls prog 94 #[pAa sb 0,.string s,.slice j x.length p,.slice k y.length q,.slice m 11 r,.slice n 11 u,.bool P.nights] w λe o=>∃a b,e=.returned (.slice a 25 b)/\zW o a (ZZ t c s x y)/\Bw w o:=by
 have F:ZZ t c s x y=Wh t c s x y (Bo t c x) (Bo t c y) P.nights:=by rw[ZZ,E]
 rw[F];cases G:P.nights;refine(zwN w sb t c P B s x y j k p q C D f g (Bo t c x) (Bo t c y) m n r u rfl rfl h i).mono ?_;rintro e o ⟨v,rfl,z,d⟩;obtain⟨a,b,rfl,A⟩:=zW.of_own (l:=Wh t c s x y (Bo t c x) (Bo t c y) false) z;exact⟨a,b,rfl,A,d⟩;refine(WK w sb t c P B s x y j k p q C D f g (Bo t c x) (Bo t c y) m n r u rfl rfl h i).mono ?_;rintro e o ⟨v,rfl,z,d⟩;obtain⟨a,b,rfl,A⟩:=zW.of_own (l:=Wh t c s x y (Bo t c x) (Bo t c y) true) z;exact⟨a,b,rfl,A,d⟩
theorem Q_{w':Wd}(h:Bw w w'):Bw w w':=h
theorem zwG{c:Ad}{k:Nat}(a:Ax c=0)(b:k<4)(d:Ob k (Rt k q)):-17592186044416<=qQ c k q/\qQ c k q<=17592186044416:=by
 have e:=c_ a b d;have f:=i_ (q:=Rt k q) (l:=Ra c k) (λi hi=>Ph _ (e i hi)) (Ra c k).length (Bv _);have g:=b_ c k;have h:=mT a;unfold qQ;omega
def ZU(t:At)(c:Ad)(s:BA)(L:List Ai):Nat->Int
 |0=>qQ c 3 (Pa t c s L)
 |k+1=>ZU t c s L k+qQ c 1 (Bo t c (Ba L k))+if k+1<L.length then qQ c 2 (Pp t c s (Ba L k) (Ba L (k+1))) else 0
theorem zw0{t:At}{c:Ad}{L:List Ai}(b:zY t=0)(a:Ax c=0)(g:1<=L.length)(i:L.length<=6)(hd:∀k,k<L.length->Cc t c (Ba L k)=0):(∀k,k<=L.length->-(17592186044416*(2*(k:Int)+1))<=ZU t c s L k/\ZU t c s L k<=17592186044416*(2*(k:Int)+1))/\∀k,k<L.length->(-17592186044416<=qQ c 1 (Bo t c (Ba L k))/\qQ c 1 (Bo t c (Ba L k))<=17592186044416)/\(k+1<L.length->-17592186044416<=qQ c 2 (Pp t c s (Ba L k) (Ba L (k+1)))/\qQ c 2 (Pp t c s (Ba L k) (Ba L (k+1)))<=17592186044416):=by
 have e:∀k,k<L.length->(-17592186044416<=qQ c 1 (Bo t c (Ba L k))/\qQ c 1 (Bo t c (Ba L k))<=17592186044416)/\(k+1<L.length->-17592186044416<=qQ c 2 (Pp t c s (Ba L k) (Ba L (k+1)))/\qQ c 2 (Pp t c s (Ba L k) (Ba L (k+1)))<=17592186044416):=λk d=>
  ⟨zwG a (by decide) (by rw[show Rt ((1:Nat):Int) (Bo t c (Ba L k))=Bo t c (Ba L k) from tU _];exact eI b a (hd k d)),λf=>zwG a (by decide) (by rw[show Rt ((2:Nat):Int) (Pp t c s (Ba L k) (Ba L (k+1)))=Pp t c s (Ba L k) (Ba L (k+1)) from I_ _];exact P_ b a ⟨hd k d,hd (k+1) f⟩)⟩
 refine⟨λk=>?_,e⟩;induction k with
 |zero=>intro _;have:=zwG a (k:=3) (by decide) (p_ (s:=s) b a g i hd);rw[ZU];omega
 |succ k ih=>
  intro d;have l:=ih (by omega);obtain⟨f,j⟩:=e k (by omega);rw[ZU];split
  . next h=>have:=j h;omega
  omega
theorem zxf(w:Wd)(sb:Nat)(t:At)(c:Ad)(P:Dh)(hS:Hl w sb t c P)(hn:P.nights=qE c)(s:BA)(L:List Ai)(a:Ae)(cap:Nat)(h1:1<=L.length)(h6:L.length<=6)(hd:∀k,k<L.length->Cc t c (Ba L k)=0)(ha:Al Ed w a L):
 CV 125 #[pAa sb 0,.agg #[.string s,.slice a L.length cap]] w (ZU t c s L L.length):=by
 have HS:=I hS;have N:=I hd;have c2:=I hn;have HL:=I ha;have T:=hS.okT;have A:=hS.okC;have B:=I (aI T A);have cl:=mT A;obtain⟨n,d,rfl,U,a4⟩:=fC ha (by omega);have a5:=I a4;have a6:=I (zw0 T A h1 h6 hd (s:=s));clear hS hd hn ha a4 T A;delta CV;go_in;go_wp2_with fail;obtain⟨V,W⟩:=xSa w.heap.size;have D:=I (J w (oP s (some (aD n d)) L.length cap));have hp:=zh w (oP s (some (aD n d)) L.length cap);rw[<-W]at hp;simp only[<-W];have a7:=I hp;clear W hp;generalize w.alloc (oP s (some (aD n d)) L.length cap)=W0 at*;refine(VV W0 sb t c P (HS.1.below D.1) s L (some (aD n d)) cap h1 h6 N.1 (HL.1.below D.1)).mono ?_;rintro e l ⟨g,rfl,hQ,X⟩;have HQ:=I hQ;have a8:=jT a7 X;have u:=jS D X;have p:=I (λW' (h:Bw l W')=>HS.1.below (Ab u.1 h));have c3:=I (λW' (h:Bw l W')=>HL.1.below (Ab u.1 h));have Y:=I (An l.heap.size l);clear hQ X a7 D;obtain⟨p0,p1,pl⟩:=Kk (Ac Y.1 a8.1);go_wp2_with fail;refine(VT l sb t c P (p.1 _ Y.1) s L (some (aD n d)) cap h1 h6 N.1 (c3.1 _ Y.1) g L.length HQ.1).mono ?_;rintro e w5 ⟨b5,rfl,hI,Z⟩;have a9:=I Z;have E:=I (zzP 3 3 rfl (by decide) w5 sb t c P (p.1 _ Z) (Pa t c s L) (some (aD b5 0)) 7 (λ_=>by show 6<7;decide) (by show 7*8<=_;decide) hI (by have:=b_ c 3;omega) (c_ B.1.2 (by decide) (p_ B.1.1 B.1.2 h1 h6 N.1)));clear hI Z p0 p1 pl;go_wp2_with fail;refine E.1.mono ?_;rintro e w6 ⟨rfl,x⟩;have q:=jS a9 x;clear x E a9;rw[show qQ c 3 (Pa t c s L)=ZU t c s L 0 from rfl];go_wp2_with fail;go_loopw [6,21] (λsum i wr=>∃(k:Nat),k<=L.length/\sum=vIa (ZU t c s L k)/\i=vIa k/\Af (Bw l wr)) (λ_ i _=>L.length-(intOf i).toNat);exact⟨0,Bg _,rfl,rfl,q⟩;clear q;obtain⟨k,hk,rfl,rfl,hB⟩:=hrel;by_cases y:k<L.length
 . obtain⟨C,hC,a0⟩:=HQ.1.below hB.1;obtain⟨b,e1,e2,e3,e4⟩:=a0 k y;have x0:wr.cell? (aD g k)=some (sAa b 0 11 11):=zm hC e1;have xl:=Ag hC;have c4:=I (show zW wr (some (aD b 0)) (Bo t c (Ba L k)) from .inr ⟨b,0,rfl,e2,λi hi=>by rw[Nat.zero_add];exact e4 i hi⟩);have b0:=I (aI hC a0);have b2:=I e1;clear hC a0 e1 e2 e3 e4;obtain⟨d2,b3⟩:=a6.1.2 k y;have E:=I (zzP 1 1 rfl (by decide) wr sb t c P (p.1 _ hB.1) (Bo t c (Ba L k)) (some (aD b 0)) 11 (λh=>aB h (by decide)) (by rw[Rd];decide) c4.1 (by have:=b_ c 1;omega) (by rw[tU];exact c_ B.1.2 (by decide) (eI B.1.1 B.1.2 (N.1 k y))));have d3:=a6.1.1 k (by omega);obtain⟨m1,F⟩:∃m,m=ZU t c s L k+qQ c 1 (Bo t c (Ba L k)):=⟨_,rfl⟩;have d4:IntKind.i64.wrap (ZU t c s L k+qQ c 1 (Bo t c (Ba L k)))=m1:=by rw[wI];omega
   obtain⟨m,hm⟩:=xSa (k+1);have G:=I hm;have d5:IntKind.i64.wrap ((k:Int)+1)=(m:Int):=by rw[wI];omega
   have d6:k<m:=by omega
   go_wp2_with fail;refine E.1.mono ?_;rintro e w7 ⟨rfl,b4⟩;have b6:=jS hB b4;clear b4 E x0 xl;by_cases r:m<L.length
   . have c5:decide ((m:Int)<(L.length:Int))=true:=by simp;omega
     have HM:=I (show ZU t c s L m=m1+qQ c 2 (Pp t c s (Ba L k) (Ba L m)) by rw[hm,ZU,iP (by omega),F]);have b7:=b3 (by omega);rw[<-hm]at b7;have d7:IntKind.i64.wrap (m1+qQ c 2 (Pp t c s (Ba L k) (Ba L m)))=ZU t c s L m:=by rw[HM.1,wI];omega
     clear F hm b3 b7;have d8:(k:Int)<(L.length:Int):=by omega
     have d9:(m:Int)<(L.length:Int):=by omega
     go_wp2_with fail;obtain⟨Wd,a1⟩:∃W',w7.drew=W':=⟨_,rfl⟩;have Q:=I (show Bw l Wd by rw[<-a1];exact b6.1.drew);obtain⟨ak,ck,d0,dl,ds⟩:=(a5.1.below U u.1) k y;obtain⟨aj,cj,d1,el,es⟩:=(a5.1.below U u.1) m r;have R:=As U u.1.size;obtain⟨C4,H,z⟩:=HQ.1;obtain⟨bb,f1,f2,f3,f4⟩:=z k y;obtain⟨b1,k1,k2,k3,k4⟩:=z m r;have c6:=Ag H;have c7:b=bb:=by
      have z1:=Ac hB.1 H;rw[b0.1.1]at z1;cases z1;have z2:=b2.1;rw[f1]at z2;cases z2;rfl
     subst c7;have S:l.cell? (aD sb 27)=some (.bool P.nights):=zm (j:=27) (p.1 _ (An _ _)).box rfl;have c8:=(p.1 _ (An _ _)).lt;have a2:=I (aI ds es);have HI:=I (aI (show zW l (some (aD b 0)) (Bo t c (Ba L k)) from .inr ⟨b,0,rfl,f2,λi hi=>by rw[Nat.zero_add];exact f4 i hi⟩) (show zW l (some (aD b1 0)) (Bo t c (Ba L m)) from .inr ⟨b1,0,rfl,k2,λi hi=>by rw[Nat.zero_add];exact k4 i hi⟩));have a3:=I (λW' (h:Bw l W')=>(⟨Ac h a8.1,zj d0 R h,zj d1 R h,zj (show l.cell? (aD g m)=some (sAa b1 0 11 11) from zm H k1) c6 h,zj S c8 h⟩:W'.heap[V]?=some (oP s (some (aD n d)) L.length cap)/\W'.cell? (aD n (d+k))=some (.slice ak (Ba L k).length ck)/\W'.cell? (aD n (d+m))=some (.slice aj (Ba L m).length cj)/\W'.cell? (aD g m)=some (sAa b1 0 11 11)/\W'.cell? (aD sb 27)=some (.bool P.nights)));have f:=a3.1 _ Q.1;clear d0 d1 ds es H z f1 f2 f3 f4 k1 k2 k3 k4 S b0 b2;refine Ys (λw'=>w'.heap[V]?=some (oP s (some (aD n d)) L.length cap)/\w'.cell? (aD n (d+k))=some (.slice ak (Ba L k).length ck)/\w'.cell? (aD n (d+m))=some (.slice aj (Ba L m).length cj)/\w'.cell? (aD g m)=some (sAa b1 0 11 11)/\w'.cell? (aD sb 27)=some (.bool P.nights)) [] (by kernel_rfl) a1 ?_;clear a1;refine yA (i:=0) (v:=pAa sb 0) rfl ?_;try simp only[O]
     refine zx (i:=1) (v:=pAa V 0) rfl (λw' hS'=>?_) f ?_;obtain⟨M,g1,gl⟩:=Kk hS'.1;clear hS';go_simp;try simp only[O]
     refine zx (i:=2) (v:=.string s) rfl (λw' hS'=>?_) f ?_;obtain⟨M,g1,gl⟩:=Kk hS'.1;clear hS';go_simp;try simp only[O]
     refine zx (i:=3) (v:=pAa V 1) rfl (λw' hS'=>?_) f ?_;obtain⟨M,g1,gl⟩:=Kk hS'.1;clear hS';go_simp;try simp only[O]
     refine zx (i:=4) (v:=sAa n d L.length cap) rfl (λw' hS'=>?_) f ?_;obtain⟨M,g1,gl⟩:=Kk hS'.1;clear hS';go_simp;try simp only[O]
     refine yA (i:=5) (v:=vIa (k:Int)) rfl ?_;try simp only[O]
     refine yA (i:=6) (v:=pAa n (d+k)) rfl ?_;try simp only[O]
     refine zx (i:=7) (v:=.slice ak (Ba L k).length ck) rfl (λw' hS'=>?_) f ?_;have M:=hS'.2.1;clear hS';go_simp;try simp only[O]
     refine zx (i:=8) (v:=pAa V 1) rfl (λw' hS'=>?_) f ?_;obtain⟨M,g1,gl⟩:=Kk hS'.1;clear hS';go_simp;try simp only[O]
     refine zx (i:=9) (v:=sAa n d L.length cap) rfl (λw' hS'=>?_) f ?_;obtain⟨M,g1,gl⟩:=Kk hS'.1;clear hS';go_simp;try simp only[O]
     refine yA (i:=10) (v:=vIa (k:Int)) rfl ?_;try simp only[O]
     refine yA (i:=11) (v:=vIa (m:Int)) rfl ?_;try simp only[O]
     refine yA (i:=12) (v:=pAa n (d+m)) rfl ?_;try simp only[O]
     refine zx (i:=13) (v:=.slice aj (Ba L m).length cj) rfl (λw' hS'=>?_) f ?_;have M:=hS'.2.2.1;clear hS';go_simp;try simp only[O]
     refine yA (i:=14) (v:=sAa b 0 11 11) rfl ?_;try simp only[O]
     refine yA (i:=15) (v:=sAa g 0 L.length L.length) rfl ?_;try simp only[O]
     refine yA (i:=16) (v:=vIa (k:Int)) rfl ?_;try simp only[O]
     refine yA (i:=17) (v:=vIa (m:Int)) rfl ?_;try simp only[O]
     refine yA (i:=18) (v:=pAa g m) rfl ?_;try simp only[O]
     refine zx (i:=19) (v:=sAa b1 0 11 11) rfl (λw' hS'=>?_) f ?_;have M:=hS'.2.2.2.1;clear hS';go_simp;try simp only[O]
     refine yA (i:=20) (v:=pAa sb 0) rfl ?_;try simp only[O]
     refine yA (i:=21) (v:=pAa sb 0) rfl ?_;try simp only[O]
     refine yA (i:=22) (v:=pAa sb 27) rfl ?_;try simp only[O]
     refine zx (i:=23) (v:=.bool P.nights) rfl (λw' hS'=>?_) f ?_;have M:=hS'.2.2.2.2;clear hS';go_simp;try simp only[O]
     refine sOa (i:=24) rfl λK hK=>?_;go_simp;refine(zwO Wd sb t c P (p.1 _ Q.1) c2.1 s (Ba L k) (Ba L m) ak aj ck cj (N.1 k (by omega)) (N.1 m r) (a2.1.1.below (Q_ Q.1)) (a2.1.2.below (Q_ Q.1)) (some (aD b 0)) (some (aD b1 0)) 11 11 (HI.1.1.below (Q_ Q.1)) (HI.1.2.below (Q_ Q.1))).mono ?_;rintro e w6 ⟨wa,wc,rfl,b8,x⟩;have b9:=I b8;have q:=jS Q x;have c0:=a3.1 _ q.1;clear x b8 f Q;have f:=c0;clear c0;refine hK.1 _ _ (λ_ _=>f) ?_;clear hK K;try simp only[O]
     refine sOa (i:=25) rfl λK hK=>?_;go_simp;refine hK.1 _ _ (λ_ h=>h) ?_;clear hK K;try simp only[O]
     refine zM (by kernel_rfl) ?_;clear a3 f a2 HI;have E:=I (zzP 2 2 rfl (by decide) w6 sb t c P (p.1 _ q.1) (ZZ t c s (Ba L k) (Ba L m)) wa wc (λh=>aB h (by decide)) (by rw[u_];decide) b9.1 (by have:=b_ c 2;omega) (by rw[I_];exact c_ B.1.2 (by decide) (zwZ B.1.1 B.1.2 ⟨N.1 k (by omega),N.1 m r⟩)));rw[u_,zxc]at E;go_wp2_with fail;refine E.1.mono ?_;rintro e w8 ⟨rfl,c1⟩;have c9:=jS q c1;clear c1 E q b9;go_wp2;go_roundw;exact⟨m,by have:=G.1;omega,rfl,by first|rfl|(rw[G.1];try go_num),c9⟩;simp[intOf];omega
   have c5:decide ((m:Int)<(L.length:Int))=false:=by simp;omega
   have HM:=I (show ZU t c s L m=m1 by rw[hm,ZU,iN (by omega),F,Int.add_zero]);clear F hm;go_wp2;go_roundw;exact⟨m,by have:=G.1;omega,by rw[HM.1],by first|rfl|(rw[G.1];try go_num),b6⟩;simp[intOf];omega
 obtain rfl:k=L.length:=by omega
 go_wp2;go_ret;exact⟨rfl,Ab u.1 hB.1⟩
theorem zw2(t:At)(c:Ad)(N:Ae)(Z:Nat)(P:Ae)(ac:Nat)(fa:Ae)(fc:Nat)(p:Bd)(w:Wd)(hT:zY t=0)(hC:Ax c=0)(Q:c.cs.length<=p.cc/\p.cc<=9223372036854775807)(hz:Al Nc w N t.zn)(ha:Al Mk w P t.ai)(hf:Al Hi w fa t.fs)(hc:Kb w.heap.size w c p)(s:BA)(L:List Ai)(la:Ae)(cap:Nat)(h1:1<=L.length)(h6:L.length<=6)(hd:∀k,k<L.length->Cc t c (Ba L k)=0)(hs:Ao (t.ai.map Bh.code) s=true)(hl:Al Ed w la L):
 CV 126 #[Az t N Z P ac fa fc,Ay c p,.agg #[.string s,.slice la L.length cap]] w (ZU t c s L L.length):=by
 try delta Ay Az
 have HT:=I hT;have R:=I hC;have HZ:=I hz;have HA:=I ha;have HF:=I hf;have V:=I hd;have S:=I hc;have HK:=I hs;have HL:=I hl;have a4:=I (zw0 hT hC h1 h6 hd (s:=s));obtain⟨db,T,rfl,a0,a5⟩:=fC hl (by omega);have a6:=I a5;clear hT hC hz ha hf hd hc hs hl a5;delta CV;go_in;go_wp2_with fail;obtain⟨r,qT,qC,qP⟩:=cB w t c N Z P ac fa fc p (oP s (some (aD db T)) L.length cap);have l:=I r;obtain⟨cb,a1⟩:=xSa (w.heap.size+1);obtain⟨pb,a3⟩:=xSa (w.heap.size+1+1);rw[<-a3]at qP;rw[<-a1]at qC;simp only[<-a3];simp only[<-a1];clear a1 a3 r;generalize ((w.alloc (Ap t N Z P ac fa fc)).alloc (Aj c p)).alloc (oP s (some (aD db T)) L.length cap)=q at*;have d:=I (λW' (h:Bw q W')=>(⟨Ac h qT,Ac h qC,Ac h qP⟩:W'.heap[w.heap.size]?=some (Ap t N Z P ac fa fc)/\W'.heap[cb]?=some (Aj c p)/\W'.heap[pb]?=some (oP s (some (aD db T)) L.length cap)));clear qT qC qP;have C:=As a0 l.1.size;refine' Gf [⟨9, [],.kn _⟩,⟨10, [],.kn _⟩,⟨11, [],.kn _⟩,⟨12, [],.kn _⟩,⟨13, [10,11,12],.ow (λv w'=>∃a n,v=.slice a (Pa t c s L).length n/\Jk w' a ((zk 3).zip (Pa t c s L))) (λ_ _ _ ⟨a,n,e,h⟩ h'=>⟨a,n,e,h.below h'⟩)⟩,⟨14, [9,13],.kn (vIa (ZU t c s L 0))⟩,⟨7, [14],.kn _⟩] [3,4,5] [7] (λ_ h=>aI (Ev (d.1 _ (Ab (An q.heap.size q) h)).1) (aI (Ek (d.1 _ (Ab (An q.heap.size q) h)).2.1) (Kk (d.1 _ (Ab (An q.heap.size q) h)).2.2))) ?h7 ?c7 ?f7
 case h7=>
  intro u;simp only[Df,↓reduceIte,Nat.reduceEqDiff];intros;and_intros
  all_goals try (first|trivial|(intros;refine Fy (by assumption) ?_;go_simp <;> rfl))
  intro A x e j g q0 q1 q2 K D;go_simp;have o:=Ab (An q.heap.size q) j;have b:=Ab l.1 o;refine(VU t c N Z P ac fa fc p x HT.1 R.1 Q (HZ.1.below b) (HA.1.below b) (HF.1.below b) (Ea.below (⟨HZ.1,HA.1,HF.1,S.1⟩:Ea w t c N P fa p) b).c s L (some (aD db T)) cap h1 h6 V.1 HK.1 (HL.1.below b)).mono ?_;rintro e' w2 ⟨v,W,rfl,h1,X,h3⟩;obtain⟨E,F,rfl,f⟩:=Jk.of_own X rfl;exact D.1 _ _ ⟨h3,E,F,rfl,f⟩;rintro A x e j g q1 ⟨E,F,X,f⟩ K D;go_simp;have b:=Ab l.1 (Ab (An q.heap.size q) j);refine(PP c p w.heap.size x b.size Q R.1 (S.1.keep b) 3 (by decide) 3 rfl (Pa t c s L) _ (zwJ HT.1 R.1 h1 h6 V.1) E F _ rfl f).mono ?_;rintro e' w2 ⟨rfl,h⟩;exact D.1 _ _ ⟨h,by rw[show Gs c 3 (N_ t c s L) c.ks.length=ZU t c s L 0 from SU c 3 _]⟩
 case c7=>kernel_rfl
 intro u x j;simp only[Df,Hu,Act.put,O,↓reduceIte,Nat.reduceEqDiff];intro Y;rw[Y];have HB:=I (Ab (An q.heap.size q) j);clear Y j;go_wp2_with fail;go_loopw [7,8] (λv i wr=>∃(k:Nat),k<=L.length/\v=vIa (ZU t c s L k)/\i=vIa k/\Af (Bw q wr)) (λ_ i _=>L.length-(intOf i).toNat);exact⟨0,Bg _,rfl,rfl,HB⟩;obtain⟨k,hk,rfl,rfl,r⟩:=hrel;by_cases y:k<L.length
 . obtain⟨b1,a7⟩:=a4.1.2 k y;have b2:=a4.1.1 k (by omega);obtain⟨m1,a8⟩:∃m,m=ZU t c s L k+qQ c 1 (Bo t c (Ba L k)):=⟨_,rfl⟩;have a9:IntKind.i64.wrap (ZU t c s L k+qQ c 1 (Bo t c (Ba L k)))=m1:=by rw[wI];omega
   obtain⟨m,hm⟩:=xSa (k+1);have z:=I hm;have b6:IntKind.i64.wrap ((k:Int)+1)=(m:Int):=by rw[wI];omega
   have U:=I a8;have b3:=I (show -(17592186044416*(2*(k:Int)+2))<=m1/\m1<=17592186044416*(2*(k:Int)+2) by omega);clear a8;have b7:(k:Int)<(L.length:Int):=by omega
   obtain⟨ak,ck,d0,_,ds⟩:=(a6.1.below a0 l.1) k y;have D0:=I d0;have G:=I ds;have B:=G;clear d0 ds;obtain⟨g0,g1,gl⟩:=Kk (d.1 _ r.1).2.2;go_wp2_with fail;clear g0 g1 gl;refine' Gf [⟨22, [],.kn _⟩,⟨23, [],.kn _⟩,⟨24, [],.kn _⟩,⟨25, [],.kn _⟩,⟨26, [],.kn _⟩,⟨27, [26],.kn _⟩,⟨28, [],.kn _⟩,⟨29, [27,28],.kn _⟩,⟨30, [29],.kn _⟩,⟨31, [24,25,30],.ow (λv w'=>∃a n,v=.slice a (Bo t c (Ba L k)).length n/\Jk w' a ((zk 1).zip (Bo t c (Ba L k)))) (λ_ _ _ ⟨a,n,e,h⟩ h'=>⟨a,n,e,h.below h'⟩)⟩,⟨32, [23,31],.kn (vIa (qQ c 1 (Bo t c (Ba L k))))⟩,⟨33, [22,32],.kn _⟩,⟨1012, [33],.kn _⟩] [3,4,5,7,8] [1012] (λ_ h=>aI (zj D0.1 C (Ab r.1 h)) (aI (Ev (d.1 _ (Ab r.1 h)).1) (aI (Ek (d.1 _ (Ab r.1 h)).2.1) (Kk (d.1 _ (Ab r.1 h)).2.2)))) ?h8 ?c8 ?f8
   case h8=>
    intro u;simp only[Df,↓reduceIte,Nat.reduceEqDiff];intros;and_intros
    all_goals try (first|trivial|(intros;refine Fy (by assumption) ?_;go_simp <;> rfl))
    intro A x e j g q0 q1 q2 K D;go_simp;have o:=Ab r.1 j;have b:=Ab l.1 o;refine(iV t c N Z P ac fa fc p x HT.1 R.1 (HZ.1.below b) (HA.1.below b) (HF.1.below b) (Ba L k) ak ck (V.1 k y) (B.1.below o)).mono ?_;rintro e' w2 ⟨v,W,rfl,h1,X,h3⟩;obtain⟨E,F,rfl,f⟩:=Jk.of_own X rfl;exact D.1 _ _ ⟨h3,E,F,rfl,f⟩;rintro A x e j g q1 ⟨E,F,X,f⟩ K D;go_simp;have b:=Ab l.1 (Ab r.1 j);refine(PP c p w.heap.size x b.size Q R.1 (S.1.keep b) 1 (by decide) 1 rfl (Bo t c (Ba L k)) _ (eI HT.1 R.1 (V.1 k y)).self E F _ rfl f).mono ?_;rintro e' w2 ⟨rfl,h⟩;exact D.1 _ _ ⟨h,by rw[show Gs c 1 (Bo t c (Ba L k)) c.ks.length=qQ c 1 (Bo t c (Ba L k)) by rw[SU,qQ,show Rt ((1:Nat):Int) (Bo t c (Ba L k))=(Bo t c (Ba L k)) from tU _]]⟩
   case c8=>kernel_rfl
   intro u w3 j;simp only[Df,Hu,Act.put,O,↓reduceIte,Nat.reduceEqDiff];intro Y;rw[Y];have H:=jS r j;clear Y j B r b1;obtain⟨g0,g1,gl⟩:=Kk (d.1 _ H.1).2.2;by_cases M:m<L.length
   . have b4:decide ((m:Int)<(L.length:Int))=true:=by simp;omega
     have HM:=I (show ZU t c s L m=m1+qQ c 2 (Pp t c s (Ba L k) (Ba L m)) by rw[hm,ZU,iP (by omega),U.1]);have b0:=a7 (by omega);rw[<-hm]at b0;have b8:IntKind.i64.wrap (m1+qQ c 2 (Pp t c s (Ba L k) (Ba L m)))=ZU t c s L m:=by have:=b3.1;rw[HM.1,wI];omega
     have b9:(m:Int)<(L.length:Int):=by omega
     obtain⟨aj,cj,d1,_,es⟩:=(a6.1.below a0 l.1) m M;have D1:=I d1;have B:=I (aI G.1 es);clear U hm a7 b0 a9 b2 d1 es G;go_wp2_with fail;clear g0 g1 gl;refine' Gf [⟨40, [],.kn _⟩,⟨41, [],.kn _⟩,⟨42, [],.kn _⟩,⟨43, [],.kn _⟩,⟨44, [],.kn _⟩,⟨45, [44],.kn _⟩,⟨46, [],.kn _⟩,⟨47, [46],.kn _⟩,⟨48, [],.kn _⟩,⟨49, [47,48],.kn _⟩,⟨50, [49],.kn _⟩,⟨51, [],.kn _⟩,⟨52, [51],.kn _⟩,⟨53, [],.kn _⟩,⟨54, [53],.kn _⟩,⟨55, [52,54],.kn _⟩,⟨56, [55],.kn _⟩,⟨57, [42,43,45,50,56],.ow (λv w'=>∃a n,v=.slice a (Pp t c s (Ba L k) (Ba L m)).length n/\Jk w' a ((zk 2).zip (Pp t c s (Ba L k) (Ba L m)))) (λ_ _ _ ⟨a,n,e,h⟩ h'=>⟨a,n,e,h.below h'⟩)⟩,⟨58, [41,57],.kn (vIa (qQ c 2 (Pp t c s (Ba L k) (Ba L m))))⟩,⟨59, [40,58],.kn _⟩,⟨1020, [59],.kn _⟩] [3,4,5,7,8] [1020] (λ_ h=>aI (I (aI (zj D0.1 C (Ab H.1 h)) (zj D1.1 C (Ab H.1 h)))) (aI (Ev (d.1 _ (Ab H.1 h)).1) (aI (Ek (d.1 _ (Ab H.1 h)).2.1) (Kk (d.1 _ (Ab H.1 h)).2.2)))) ?h9 ?c9 ?f9
     case h9=>
      intro u;simp only[Df,↓reduceIte,Nat.reduceEqDiff];intros;and_intros
      all_goals try (first|trivial|(intros;refine Fy (by assumption) ?_;go_simp <;> rfl))
      intro A x e j g q0 K k;have g2:=g.1.1.1;clear g;refine Fy k ?_;go_simp <;> rfl;intro A x e j g q0 K k;have g2:=g.1.1.2;clear g;refine Fy k ?_;go_simp <;> rfl;intro A x e j g q0 q1 q2 q3 q4 K D;go_simp;have o:=Ab H.1 j;have b:=Ab l.1 o;refine(WJ t c N Z P ac fa fc p x HT.1 R.1 (HZ.1.below b) (HA.1.below b) (HF.1.below b) s (Ba L k) (Ba L m) ak aj ck cj (V.1 k y) (V.1 m M) (B.1.1.below o) (B.1.2.below o)).mono ?_;rintro e' w2 ⟨v,W,rfl,h1,X,h3⟩;obtain⟨E,F,rfl,f⟩:=Jk.of_own X rfl;exact D.1 _ _ ⟨h3,E,F,rfl,f⟩;rintro A x e j g q1 ⟨E,F,X,f⟩ K D;go_simp;have b:=Ab l.1 (Ab H.1 j);refine(PP c p w.heap.size x b.size Q R.1 (S.1.keep b) 2 (by decide) 2 rfl (Pp t c s (Ba L k) (Ba L m)) _ (P_ HT.1 R.1 ⟨V.1 k y,V.1 m M⟩).self E F _ rfl f).mono ?_;rintro e' w2 ⟨rfl,h⟩;exact D.1 _ _ ⟨h,by rw[show Gs c 2 (Pp t c s (Ba L k) (Ba L m)) c.ks.length=qQ c 2 (Pp t c s (Ba L k) (Ba L m)) by rw[SU,qQ,show Rt ((2:Nat):Int) (Pp t c s (Ba L k) (Ba L m))=(Pp t c s (Ba L k) (Ba L m)) from I_ _]]⟩
     case c9=>kernel_rfl
     intro u w4 j;simp only[Df,Hu,Act.put,O,↓reduceIte,Nat.reduceEqDiff];intro Y;rw[Y];have b5:=jS H j;clear Y j H B;go_wp2;go_roundw;exact⟨m,by have:=z.1;omega,rfl,by first|rfl|(rw[z.1];try go_num),b5⟩;have:=z.1;simp[intOf];omega
   have b4:decide ((m:Int)<(L.length:Int))=false:=by simp;omega
   have HM:=I (show ZU t c s L m=m1 by rw[hm,ZU,iN (by omega),U.1,Int.add_zero]);clear U hm a9;go_wp2;go_roundw;exact⟨m,by have:=z.1;omega,by rw[HM.1],by first|rfl|(rw[z.1];try go_num),H⟩;have:=z.1;simp[intOf];omega
 obtain rfl:k=L.length:=by omega
 obtain⟨g0,g1,gl⟩:=Kk (d.1 _ r.1).2.2;go_wp2;go_ret;exact⟨rfl,Ab l.1 r.1⟩
def xA(t:At)(c:Ad)(s:BA)(L:List Ai):Nat->List (Int×Int×BA)
 |0=> []
 |k+1=>xA t c s L k++((Wy c 1 (Bo t c (Ba L k))).map λs=>((1:Int),(k:Int),s))++if k+1<L.length then(Wy c 2 (Pp t c s (Ba L k) (Ba L (k+1)))).map λs=>((2:Int),(k:Int),s) else []
theorem O_{c:Ad}(h:Ax c=0)(k:Nat)(q:LI):(Wy c k q).length<=40:=by
 have a:=U_ (Rt (k:Int) q) (Sg c k) (Sg c k).length;have b:=a_ c k;have d:=mT h;unfold Wy;omega
theorem v_{c:Ad}(h:Ax c=0)(t:At)(s:BA)(L:List Ai):∀k,k<=L.length->(xA t c s L k).length<=80*k:=by
 intro k;induction k with
 |zero=>intro _;exact Bv _
 |succ k ih=>
  intro a;have b:=ih (by omega);have d:=O_ h 1 (Bo t c (Ba L k));have e:=O_ h 2 (Pp t c s (Ba L k) (Ba L (k+1)));rw[xA,Gh,Gh,List.length_map];split
  . rw[List.length_map];omega
  rw[List.length_nil];omega
theorem zw4(w:Wd)(sb:Nat)(t:At)(c:Ad)(P:Dh)(hS:Hl w sb t c P)(hn:P.nights=qE c)(s:BA)(L:List Ai)(a:Ae)(cap:Nat)(h1:1<=L.length)(h6:L.length<=6)(hd:∀k,k<L.length->Cc t c (Ba L k)=0)(ha:Al Ed w a L):
 Calls prog 123 #[pAa sb 0,.agg #[.string s,.slice a L.length cap]] w (mF w (xA t c s L L.length++(Wy c 3 (Pa t c s L)).map λs=>(3,0,s))):=by
 have HS:=I hS;have HD:=I hd;have d5:=I hn;have HL:=I ha;have b8:=hS.okT;have N:=hS.okC;have G:=I (aI b8 N);have cl:=mT N;obtain⟨x,d,rfl,a3,b9⟩:=fC ha (by omega);have c0:=I b9;have a4:=I cl;have c1:=I (v_ N t s L);clear hS hd hn ha b9 b8 N;go_in;go_wp2_with fail;obtain⟨pb,a5⟩:=xSa w.heap.size;have Q:=I (J w (oP s (some (aD x d)) L.length cap));have hp:=zh w (oP s (some (aD x d)) L.length cap);rw[<-a5]at hp;simp only[<-a5];have c2:=I hp;clear a5 hp;generalize w.alloc (oP s (some (aD x d)) L.length cap)=W0 at*;refine(VV W0 sb t c P (HS.1.below Q.1) s L (some (aD x d)) cap h1 h6 HD.1 (HL.1.below Q.1)).mono ?_;rintro e n ⟨g,rfl,hQ,a6⟩;have HQ:=I hQ;have c3:=jT c2 a6;have y:=jS Q a6;have z:=I (λW' (h:Bw n W')=>HS.1.below (Ab y.1 h));have d6:=I (λW' (h:Bw n W')=>HL.1.below (Ab y.1 h));have d7:=I (An n.heap.size n);clear hQ a6 c2 Q;clear cl;go_wp2_with fail;go_loopw [5,15] (λv i wr=>∃(k:Nat),k<=L.length/\i=vIa k/\Af (Bw n wr)/\Af (wr.ownsRow n.heap.size 126 3 v (xA t c s L k).length (Je (xA t c s L k)))) (λ_ i _=>L.length-(intOf i).toNat);exact⟨0,Bg _,rfl,d7,I (World.ownsRow_nil _ _ _ _)⟩;obtain⟨k,hk,rfl,H,HV⟩:=hrel;by_cases R:k<L.length
 . obtain⟨C,hC,a7⟩:=HQ.1.below H.1;obtain⟨b,e1,e2,e3,e4⟩:=a7 k R;have x0:wr.cell? (aD g k)=some (sAa b 0 11 11):=zm hC e1;have xl:=Ag hC;have d8:=I (show zW wr (some (aD b 0)) (Bo t c (Ba L k)) from .inr ⟨b,0,rfl,e2,λi hi=>by rw[Nat.zero_add];exact e4 i hi⟩);have c4:=I (aI hC a7);have c5:=I e1;clear hC a7 e1 e2 e3 e4;have p:=d8;have A:=I (c1.1 k (by omega));have B:=I (O_ G.1.2 1 (Bo t c (Ba L k)));have S:=I (zzQ 1 1 rfl (by decide) wr sb t c P (z.1 _ H.1) (Bo t c (Ba L k)) (some (aD b 0)) 11 (λh=>aB h (by decide)) (by rw[Rd];decide) p.1 (by have:=a_ c 1;have:=a4.1;omega) (by rw[tU];exact j_ G.1.2 (by decide) (eI G.1.1 G.1.2 (HD.1 k R))));obtain⟨m,hm⟩:=xSa (k+1);have T:=I hm;have f9:IntKind.i64.wrap ((k:Int)+1)=(m:Int):=by rw[wI];omega
   have g2:k<m:=by omega
   go_wp2_with fail;refine S.1.mono ?_;rintro e w7 ⟨v7,rfl,q,l⟩;have a8:=jS H l;obtain⟨na,nc,rfl,hN⟩:=wM.of_own q;have CV:=I (h_ n.heap.size (xA t c s L k) _ w7 a8.1.size (Sh HV.1 H.1 l) 1 (k:Int) (Wy c 1 (Bo t c (Ba L k))) na nc hN (by have:=A.1;have:=B.1;omega));clear q hN l S HV x0 xl p;go_wp2_with fail;refine CV.1.mono ?_;rintro e w8 ⟨v8,rfl,r,u,_⟩;have U:=I (a8.1.trans u);have E:=I r;clear r u CV a8;obtain⟨V1,F⟩:∃V,V=xA t c s L k++(Wy c 1 (Bo t c (Ba L k))).map λs=>((1:Int),(k:Int),s):=⟨_,rfl⟩;rw[<-F]at E;have d9:V1.length<=80*k+40:=by rw[F,Gh,List.length_map];have:=A.1;have:=B.1;omega
   by_cases D:m<L.length
   . have f0:decide ((m:Int)<(L.length:Int))=true:=by simp;omega
     have HM:=I (show xA t c s L m=V1++(Wy c 2 (Pp t c s (Ba L k) (Ba L m))).map λs=>((2:Int),(k:Int),s) by rw[hm,xA,iP (by omega),F]);clear F hm A B;have g3:(k:Int)<(L.length:Int):=by omega
     have g4:(m:Int)<(L.length:Int):=by omega
     go_wp2_with fail;obtain⟨Wd,W⟩:∃W',w8.drew=W':=⟨_,rfl⟩;have X:=I (show Bw n Wd by rw[<-W];exact U.1.drew);have c6:=I (show Wd.ownsRow n.heap.size 126 3 v8 V1.length (Je V1) by rw[<-W];exact E.1.drew);obtain⟨ak,ck,d0,dl,ds⟩:=(c0.1.below a3 y.1) k R;obtain⟨aj,cj,d1,el,es⟩:=(c0.1.below a3 y.1) m D;have a1:=As a3 y.1.size;obtain⟨C4,Y,M⟩:=HQ.1;obtain⟨bb,f1,f2,f3,f4⟩:=M k R;obtain⟨b1,k1,k2,k3,k4⟩:=M m D;have f5:=Ag Y;have f6:b=bb:=by
      have z1:=Ac H.1 Y;rw[c4.1.1]at z1;cases z1;have z2:=c5.1;rw[f1]at z2;cases z2;rfl
     subst f6;have a2:n.cell? (aD sb 27)=some (.bool P.nights):=zm (j:=27) (z.1 _ (An _ _)).box rfl;have f7:=(z.1 _ (An _ _)).lt;have a9:=I (aI ds es);have HI:=I (aI (show zW n (some (aD b 0)) (Bo t c (Ba L k)) from .inr ⟨b,0,rfl,f2,λi hi=>by rw[Nat.zero_add];exact f4 i hi⟩) (show zW n (some (aD b1 0)) (Bo t c (Ba L m)) from .inr ⟨b1,0,rfl,k2,λi hi=>by rw[Nat.zero_add];exact k4 i hi⟩));have b0:=I (λW' (h:Bw n W')=>(⟨Ac h c3.1,zj d0 a1 h,zj d1 a1 h,zj (show n.cell? (aD g m)=some (sAa b1 0 11 11) from zm Y k1) f5 h,zj a2 f7 h⟩:W'.heap[pb]?=some (oP s (some (aD x d)) L.length cap)/\W'.cell? (aD x (d+k))=some (.slice ak (Ba L k).length ck)/\W'.cell? (aD x (d+m))=some (.slice aj (Ba L m).length cj)/\W'.cell? (aD g m)=some (sAa b1 0 11 11)/\W'.cell? (aD sb 27)=some (.bool P.nights)));have f:=b0.1 _ X.1;clear d0 d1 ds es Y M f1 f2 f3 f4 k1 k2 k3 k4 a2 c4 c5;refine Ys (λw'=>w'.heap[pb]?=some (oP s (some (aD x d)) L.length cap)/\w'.cell? (aD x (d+k))=some (.slice ak (Ba L k).length ck)/\w'.cell? (aD x (d+m))=some (.slice aj (Ba L m).length cj)/\w'.cell? (aD g m)=some (sAa b1 0 11 11)/\w'.cell? (aD sb 27)=some (.bool P.nights)) [] (by kernel_rfl) W ?_;clear W;refine yA (i:=0) (v:=pAa sb 0) rfl ?_;try simp only[O]
     refine zx (i:=1) (v:=pAa pb 0) rfl (λw' hS'=>?_) f ?_;obtain⟨Z,g1,gl⟩:=Kk hS'.1;clear hS';go_simp;try simp only[O]
     refine zx (i:=2) (v:=.string s) rfl (λw' hS'=>?_) f ?_;obtain⟨Z,g1,gl⟩:=Kk hS'.1;clear hS';go_simp;try simp only[O]
     refine zx (i:=3) (v:=pAa pb 1) rfl (λw' hS'=>?_) f ?_;obtain⟨Z,g1,gl⟩:=Kk hS'.1;clear hS';go_simp;try simp only[O]
     refine zx (i:=4) (v:=sAa x d L.length cap) rfl (λw' hS'=>?_) f ?_;obtain⟨Z,g1,gl⟩:=Kk hS'.1;clear hS';go_simp;try simp only[O]
     refine yA (i:=5) (v:=vIa (k:Int)) rfl ?_;try simp only[O]
     refine yA (i:=6) (v:=pAa x (d+k)) rfl ?_;try simp only[O]
     refine zx (i:=7) (v:=.slice ak (Ba L k).length ck) rfl (λw' hS'=>?_) f ?_;have Z:=hS'.2.1;clear hS';go_simp;try simp only[O]
     refine zx (i:=8) (v:=pAa pb 1) rfl (λw' hS'=>?_) f ?_;obtain⟨Z,g1,gl⟩:=Kk hS'.1;clear hS';go_simp;try simp only[O]
     refine zx (i:=9) (v:=sAa x d L.length cap) rfl (λw' hS'=>?_) f ?_;obtain⟨Z,g1,gl⟩:=Kk hS'.1;clear hS';go_simp;try simp only[O]
     refine yA (i:=10) (v:=vIa (k:Int)) rfl ?_;try simp only[O]
     refine yA (i:=11) (v:=vIa (m:Int)) rfl ?_;try simp only[O]
     refine yA (i:=12) (v:=pAa x (d+m)) rfl ?_;try simp only[O]
     refine zx (i:=13) (v:=.slice aj (Ba L m).length cj) rfl (λw' hS'=>?_) f ?_;have Z:=hS'.2.2.1;clear hS';go_simp;try simp only[O]
     refine yA (i:=14) (v:=sAa b 0 11 11) rfl ?_;try simp only[O]
     refine yA (i:=15) (v:=sAa g 0 L.length L.length) rfl ?_;try simp only[O]
     refine yA (i:=16) (v:=vIa (k:Int)) rfl ?_;try simp only[O]
     refine yA (i:=17) (v:=vIa (m:Int)) rfl ?_;try simp only[O]
     refine yA (i:=18) (v:=pAa g m) rfl ?_;try simp only[O]
     refine zx (i:=19) (v:=sAa b1 0 11 11) rfl (λw' hS'=>?_) f ?_;have Z:=hS'.2.2.2.1;clear hS';go_simp;try simp only[O]
     refine yA (i:=20) (v:=pAa sb 0) rfl ?_;try simp only[O]
     refine yA (i:=21) (v:=pAa sb 0) rfl ?_;try simp only[O]
     refine yA (i:=22) (v:=pAa sb 27) rfl ?_;try simp only[O]
     refine zx (i:=23) (v:=.bool P.nights) rfl (λw' hS'=>?_) f ?_;have Z:=hS'.2.2.2.2;clear hS';go_simp;try simp only[O]
     refine sOa (i:=24) rfl λK hK=>?_;go_simp;refine(zwO Wd sb t c P (z.1 _ X.1) d5.1 s (Ba L k) (Ba L m) ak aj ck cj (HD.1 k (by omega)) (HD.1 m D) (a9.1.1.below (Q_ X.1)) (a9.1.2.below (Q_ X.1)) (some (aD b 0)) (some (aD b1 0)) 11 11 (HI.1.1.below (Q_ X.1)) (HI.1.2.below (Q_ X.1))).mono ?_;rintro e w6 ⟨wa,wc,rfl,c7,b2⟩;have c8:=I c7;have a0:=jS X b2;have c9:=b0.1 _ a0.1;have d2:=I (Sh c6.1 X.1 b2);clear b2 c7 f X c6;have f:=c9;clear c9;refine hK.1 _ _ (λ_ _=>f) ?_;clear hK K;try simp only[O]
     refine sOa (i:=25) rfl λK hK=>?_;go_simp;refine hK.1 _ _ (λ_ h=>h) ?_;clear hK K;try simp only[O]
     refine zM (by kernel_rfl) ?_;clear b0 f a9 HI;have p:=c8;have A:=I d9;have B:=I (O_ G.1.2 2 (Pp t c s (Ba L k) (Ba L m)));have S:=I (zzQ 2 2 rfl (by decide) w6 sb t c P (z.1 _ a0.1) (ZZ t c s (Ba L k) (Ba L m)) wa wc (λh=>aB h (by decide)) (by rw[u_];decide) p.1 (by have:=a_ c 2;have:=a4.1;omega) (by rw[I_];exact j_ G.1.2 (by decide) (zwZ G.1.1 G.1.2 ⟨HD.1 k (by omega),HD.1 m D⟩)));rw[u_,zxm]at S;go_wp2_with fail;refine S.1.mono ?_;rintro e w9 ⟨v7,rfl,q,l⟩;have b3:=jS a0 l;obtain⟨na,nc,rfl,hN⟩:=wM.of_own q;have CV:=I (h_ n.heap.size V1 _ w9 b3.1.size (Sh d2.1 a0.1 l) 2 (k:Int) (Wy c 2 (Pp t c s (Ba L k) (Ba L m))) na nc hN (by have:=A.1;have:=B.1;omega));clear q hN l S p c8 d2;go_wp2_with fail;refine CV.1.mono ?_;rintro e wz ⟨v8,rfl,r,u,_⟩;have f8:=I (b3.1.trans u);have d3:=I r;clear r u CV b3;rw[<-HM.1]at d3;go_wp2;go_roundw;exact⟨m,by have:=T.1;omega,by first|rfl|(rw[T.1];try go_num),f8,d3⟩;simp[intOf];omega
   have f0:decide ((m:Int)<(L.length:Int))=false:=by simp;omega
   have HM:=I (show xA t c s L m=V1 by rw[hm,xA,iN (by omega),F,List.append_nil]);rw[<-HM.1]at E;clear F hm;go_wp2;go_roundw;exact⟨m,by have:=T.1;omega,by first|rfl|(rw[T.1];try go_num),U,E⟩;simp[intOf];omega
 obtain rfl:k=L.length:=by omega
 obtain⟨p0,p1,pl⟩:=Kk (Ac H.1 c3.1);have CP:=I (VT wr sb t c P (z.1 _ H.1) s L (some (aD x d)) cap h1 h6 HD.1 (d6.1 _ H.1) g L.length (HQ.1.below H.1));go_wp2_with fail;refine CP.1.mono ?_;rintro e w5 ⟨b5,rfl,hI,b4⟩;have b6:=jS H b4;have d4:=I (Sh HV.1 H.1 b4);have p:=I hI;have A:=I (c1.1 L.length (Bv _));have B:=I (O_ G.1.2 3 (Pa t c s L));clear hI b4 p0 p1 pl CP HV;have S:=I (zzQ 3 3 rfl (by decide) w5 sb t c P (z.1 _ b6.1) (Pa t c s L) (some (aD b5 0)) 7 (λ_=>by show 6<7;decide) (by show 7*8<=_;decide) p.1 (by have:=a_ c 3;have:=a4.1;omega) (j_ G.1.2 (by decide) (p_ G.1.1 G.1.2 h1 h6 HD.1)));go_wp2_with fail;refine S.1.mono ?_;rintro e w6 ⟨v7,rfl,q,l⟩;have b7:=jS b6 l;obtain⟨na,nc,rfl,hN⟩:=wM.of_own q;have CV:=I (h_ n.heap.size (xA t c s L L.length) _ w6 b7.1.size (Sh d4.1 b6.1 l) 3 0 (Wy c 3 (Pa t c s L)) na nc hN (by have:=A.1;have:=B.1;omega));clear q hN l S p d4;go_wp2_with fail;refine CV.1.mono ?_;rintro e w8 ⟨v8,rfl,r,u,_⟩;have U:=I (b7.1.trans u);have E:=I r;clear r u CV b7;go_wp2;go_ret;exact⟨_,n.heap.size,rfl,y.1.size,E.1,Ab y.1 U.1⟩
theorem t_{P:Program}{o:Oper}{a:Act}{K:Act->Wd->Prop}{Q:Exit->Act->Wd->Prop}(s x:Operand)(t:TypeId)(G:o.op=.call {callee:=.builtin .append,args:=#[s,x],argTypes:=#[t,t]})(c:Nat)(e:TypeId)(i:TypeInfo)(z:Value)(b d:Nat)(H:P.underlying t=some (.slice e))(L:P.info? e=some i)(R:i.zero=some z) 
 (p:i.size=b) (A:i.bytes=d) (B:z.cells.size=b) (C:0<b) (v:Value) (n:Nat) (xs:LV) (M:a.eval s=v) (k:w.ownsRow c e b v n xs) (v2:Value) (m:Nat) (r:LV) (S:Nat) (N:a.eval x=v2) (f:w.ownsRow S e b v2 m r) (T:∀u∈r,u.oneCell'=true) (D:n+m<=maxLen) (l:(n+m)*d<=2^47) (q:c<=w.heap.size)
 (h:∀v' w',w'.ownsRow c e b v' (n+m) (xs++r)->w.grownBy w' v.ownBlock->K (a.put o.dst v') w'):o.wp P a w K Q:=by
 rcases f.2 with⟨E,U⟩|⟨g,F,V,E,_,W,h5,_,h7,X⟩;subst U;have Y:r= []:=List.eq_nil_of_length_eq_zero (by rw[f.1,Nat.zero_mul]);have y:=run_append_owned_none (P:=P) (w:=w) c t o.type e i b H L v n xs k;have Z:=h v w (by rw[Y,List.append_nil];exact k) ⟨rfl,rfl,rfl,Bv _,λ_ _ _=>rfl⟩;unfold Oper.wp;simp[execOp,G,resolve,invoke,builtin,M,N,E,y,Result.andThen];exact Z;refine wp_append_own w s x t G c e i z b d H L R p A B C v n xs M k (aD g 0) m F r (N.trans E) f.1 (λj u hj=>?_) T D l q λv' w' k1 k2 _=>h v' w' k1 k2;rw[show Addr.add (aD g 0) j=(aD g j) by unfold Addr.add;split <;> simp_all];refine zm W ?_;rw[<-X,List.getElem?_take]at hj;split at hj;simpa using hj;cases hj
theorem zwA(U V:List (Int×Int×BA)):Je (U++V)=Je U++Je V:=by simp[Je]
theorem zwz(V:List (Int×Int×BA)):∀u∈Je V,u.oneCell'=true:=by
 intro u a;simp only[Je,List.mem_flatMap]at a;obtain⟨x,_,b⟩:=a;simp[Yq]at b;rcases b with rfl|rfl|rfl <;> rfl
theorem zwq(t:At)(c:Ad)(Y:Ae)(zc:Nat)(Z:Ae)(ac:Nat)(fa:Ae)(fc:Nat)(p:Bd)(w:Wd)(hT:zY t=0)(hC:Ax c=0)(a0:c.cs.length<=p.cc/\p.cc<=9223372036854775807)(hz:Al Nc w Y t.zn)(ha:Al Mk w Z t.ai)(hf:Al Hi w fa t.fs)(hc:Kb w.heap.size w c p)(s:BA)(L:List Ai)(la:Ae)(cap:Nat)(N:1<=L.length)(h6:L.length<=6)(hd:∀k,k<L.length->Cc t c (Ba L k)=0)(hs:Ao (t.ai.map Bh.code) s=true)(hl:Al Ed w la L):
 Calls prog 124 #[Az t Y zc Z ac fa fc,Ay c p,.agg #[.string s,.slice la L.length cap]] w (mF w (xA t c s L L.length++(Wy c 3 (Pa t c s L)).map λs=>(3,0,s))):=by
 try delta Ay Az
 obtain⟨i0,hi,a7,a8,a9⟩:=info_parts QJ;have HT:=I hT;have D:=I hC;have HZ:=I hz;have HA:=I ha;have HF:=I hf;have HD:=I hd;have a1:=I hc;have HK:=I hs;have HL:=I hl;obtain⟨db,a3,rfl,b0,b3⟩:=fC hl (by omega);have b4:=I b3;clear hT hC hz ha hf hd hc hs hl b3;go_in;go_wp2_with fail;obtain⟨z,qT,qC,qP⟩:=cB w t c Y zc Z ac fa fc p (oP s (some (aD db a3)) L.length cap);have q:=I z;obtain⟨cb,b1⟩:=xSa (w.heap.size+1);obtain⟨pb,b2⟩:=xSa (w.heap.size+1+1);rw[<-b2]at qP;rw[<-b1]at qC;simp only[<-b2];simp only[<-b1];clear b1 b2 z;generalize ((w.alloc (Ap t Y zc Z ac fa fc)).alloc (Aj c p)).alloc (oP s (some (aD db a3)) L.length cap)=B at*;have l:=I (λW' (h:Bw B W')=>(⟨Ac h qT,Ac h qC,Ac h qP⟩:W'.heap[w.heap.size]?=some (Ap t Y zc Z ac fa fc)/\W'.heap[cb]?=some (Aj c p)/\W'.heap[pb]?=some (oP s (some (aD db a3)) L.length cap)));clear qT qC qP;have P:=As b0 q.1.size;go_loopw [7,8] (λv i wr=>∃(k:Nat),k<=L.length/\i=vIa k/\Af (Bw B wr)/\Af (wr.ownsRow B.heap.size 126 3 v (xA t c s L k).length (Je (xA t c s L k)))) (λ_ i _=>L.length-(intOf i).toNat);exact⟨0,Bg _,rfl,I (An _ _),I (World.ownsRow_nil _ _ _ _)⟩;obtain⟨k,hk,rfl,z,hV⟩:=hrel;by_cases Q:k<L.length
 . obtain⟨m,hm⟩:=xSa (k+1);have y:=I hm;have c0:IntKind.i64.wrap ((k:Int)+1)=(m:Int):=by rw[wI];omega
   have c1:(k:Int)<(L.length:Int):=by omega
   have C:=I (v_ D.1 t s L k (by omega));have a4:=I (O_ D.1 1 (Bo t c (Ba L k)));obtain⟨ak,ck,d0,_,ds⟩:=(b4.1.below b0 q.1) k Q;have D0:=I d0;have R:=I ds;have G:=R;clear d0 ds hm;obtain⟨g0,g1,gl⟩:=Kk (l.1 _ z.1).2.2;go_wp2_with fail;clear g0 g1 gl;refine' lK [⟨16, [],.kn u7⟩,⟨17, [],.kn _⟩,⟨18, [],.kn _⟩,⟨19, [],.kn _⟩,⟨20, [],.kn _⟩,⟨21, [],.kn _⟩,⟨22, [21],.kn _⟩,⟨23, [],.kn _⟩,⟨24, [22,23],.kn _⟩,⟨25, [24],.kn _⟩,⟨26, [19,20,25],.ow (λv w'=>∃a n,v=.slice a (Bo t c (Ba L k)).length n/\Jk w' a ((zk 1).zip (Bo t c (Ba L k)))) (λ_ _ _ ⟨a,n,e,h⟩ h'=>⟨a,n,e,h.below h'⟩)⟩,⟨27, [17,18,26],.ow (λv w'=>∃b,B.heap.size<=b/\w'.ownsRow b 126 3 v ((Wy c 1 (Bo t c (Ba L k))).map λs=>((1:Int),(k:Int),s)).length (Je ((Wy c 1 (Bo t c (Ba L k))).map λs=>((1:Int),(k:Int),s)))) (λ_ _ _ ⟨b,N,E⟩ h=>⟨b,N,Sk E h⟩)⟩] [3,4,5,7,8] [16,27] (λ_ h=>aI (zj D0.1 P (Ab z.1 h)) (aI (Ev (l.1 _ (Ab z.1 h)).1) (aI (Ek (l.1 _ (Ab z.1 h)).2.1) (Kk (l.1 _ (Ab z.1 h)).2.2)))) ?h10 ?c10 ?f10
   case h10=>
    intro u;simp only[Df,Jm,↓reduceIte,Nat.reduceEqDiff];intros;and_intros
    all_goals try (first|trivial|(intros;refine Fy (by assumption) ?_;go_simp <;> rfl))
    intro A H e o g q0 q1 q2 K S;go_simp;have j:=Ab z.1 o;have d:=Ab q.1 j;refine(iV t c Y zc Z ac fa fc p H HT.1 D.1 (HZ.1.below d) (HA.1.below d) (HF.1.below d) (Ba L k) ak ck (HD.1 k Q) (G.1.below j)).mono ?_;rintro e' w2 ⟨v,f,rfl,N,E,T⟩;obtain⟨U,V,rfl,r⟩:=Jk.of_own E rfl;exact S.1 _ _ ⟨T,U,V,rfl,r⟩;rintro A H e o g q1 q2 ⟨U,V,E,r⟩ K S;go_simp;have j:=Ab z.1 o;have d:=Ab q.1 j;refine(MX c p w.heap.size H d.size a0 D.1 (a1.1.keep d) 1 (by decide) 1 rfl (k:Int) (Bo t c (Ba L k)) (Bo t c (Ba L k)) (eI HT.1 D.1 (HD.1 k Q)).self U V _ rfl r).mono ?_;rintro e' w2 ⟨v,f,rfl,T,h4,h5⟩;rw[show Ef c 1 (k:Int) (Bo t c (Ba L k)) c.rs.length=((Wy c 1 (Bo t c (Ba L k))).map λs=>((1:Int),(k:Int),s)) by rw[Ef,SV,Wy,show Rt ((1:Nat):Int) (Bo t c (Ba L k))=(Bo t c (Ba L k)) from tU _];rfl]at h4;exact S.1 _ _ ⟨h5,f,Bf j.size T,h4⟩
   case c10=>kernel_rfl
   intro u w3 o;simp only[Df,Hu,Jm,Act.put,O,↓reduceIte,Nat.reduceEqDiff];rintro e1 ⟨f,e2,e3⟩;have x:=Sk hV.1 o;have F:=Ab z.1 o;refine t_ (Operand.tmp 16) (Operand.tmp 27) 121 rfl B.heap.size 126 i0 (.agg #[vIa 0,vIa 0,.string ByteArray.empty]) 3 32 underlying121 hi a7 a8 a9 rfl (by decide) u7 _ _ e1 x _ _ _ f rfl e3 (zwz _) (by have:=C.1;have:=a4.1;simp only[List.length_map];unfold maxLen;omega) (by have:=C.1;have:=a4.1;simp only[List.length_map];omega) F.size λv1 w4 o1 o2=>?_;have a5:=I (F.grown o2 F.size (λk hk=>Lt x k hk));have M:=I (show w4.ownsRow B.heap.size 126 3 v1 ((xA t c s L k)++((Wy c 1 (Bo t c (Ba L k))).map λs=>((1:Int),(k:Int),s))).length (Je ((xA t c s L k)++((Wy c 1 (Bo t c (Ba L k))).map λs=>((1:Int),(k:Int),s)))) by rw[zwA,Gh];exact o1);clear o1 o2 x F e1 e2 e3 o;go_simp;have W:=a5;clear G z hV a5;obtain⟨g0,g1,gl⟩:=Kk (l.1 _ W.1).2.2;by_cases X:m<L.length
   . have b8:decide ((m:Int)<(L.length:Int))=true:=by simp;omega
     have HM:=I (show xA t c s L m=xA t c s L k++((Wy c 1 (Bo t c (Ba L k))).map λs=>((1:Int),(k:Int),s))++((Wy c 2 (Pp t c s (Ba L k) (Ba L m))).map λs=>((2:Int),(k:Int),s)) by rw[y.1,xA,iP (by have:=y.1;omega)]);have c3:(m:Int)<(L.length:Int):=by omega
     have b5:=I (O_ D.1 2 (Pp t c s (Ba L k) (Ba L m)));have a6:=I (show(xA t c s L k++((Wy c 1 (Bo t c (Ba L k))).map λs=>((1:Int),(k:Int),s))).length<=80*k+40 by rw[Gh,List.length_map];have:=C.1;have:=a4.1;omega);obtain⟨aj,cj,d1,_,es⟩:=(b4.1.below b0 q.1) m X;have D1:=I d1;have G:=I (aI R.1 es);clear d1 es R C a4;go_wp2_with fail;clear g0 g1 gl;refine' lK [⟨35, [],.kn v1⟩,⟨36, [],.kn _⟩,⟨37, [],.kn _⟩,⟨38, [],.kn _⟩,⟨39, [],.kn _⟩,⟨40, [],.kn _⟩,⟨41, [40],.kn _⟩,⟨42, [],.kn _⟩,⟨43, [42],.kn _⟩,⟨44, [],.kn _⟩,⟨45, [43,44],.kn _⟩,⟨46, [45],.kn _⟩,⟨47, [],.kn _⟩,⟨48, [47],.kn _⟩,⟨49, [],.kn _⟩,⟨50, [49],.kn _⟩,⟨51, [48,50],.kn _⟩,⟨52, [51],.kn _⟩,⟨53, [38,39,41,46,52],.ow (λv w'=>∃a n,v=.slice a (Pp t c s (Ba L k) (Ba L m)).length n/\Jk w' a ((zk 2).zip (Pp t c s (Ba L k) (Ba L m)))) (λ_ _ _ ⟨a,n,e,h⟩ h'=>⟨a,n,e,h.below h'⟩)⟩,⟨54, [36,37,53],.ow (λv w'=>∃b,B.heap.size<=b/\w'.ownsRow b 126 3 v ((Wy c 2 (Pp t c s (Ba L k) (Ba L m))).map λs=>((2:Int),(k:Int),s)).length (Je ((Wy c 2 (Pp t c s (Ba L k) (Ba L m))).map λs=>((2:Int),(k:Int),s)))) (λ_ _ _ ⟨b,N,E⟩ h=>⟨b,N,Sk E h⟩)⟩] [3,4,5,7,8] [35,54] (λ_ h=>aI (I (aI (zj D0.1 P (Ab W.1 h)) (zj D1.1 P (Ab W.1 h)))) (aI (Ev (l.1 _ (Ab W.1 h)).1) (aI (Ek (l.1 _ (Ab W.1 h)).2.1) (Kk (l.1 _ (Ab W.1 h)).2.2)))) ?h11 ?c11 ?f11
     case h11=>
      intro u;simp only[Df,Jm,↓reduceIte,Nat.reduceEqDiff];intros;and_intros
      all_goals try (first|trivial|(intros;refine Fy (by assumption) ?_;go_simp <;> rfl))
      intro A H e o g q0 K k;have g2:=g.1.1.1;clear g;refine Fy k ?_;go_simp <;> rfl;intro A H e o g q0 K k;have g2:=g.1.1.2;clear g;refine Fy k ?_;go_simp <;> rfl;intro A H e o g q0 q1 q2 q3 q4 K S;go_simp;have j:=Ab W.1 o;have d:=Ab q.1 j;refine(WJ t c Y zc Z ac fa fc p H HT.1 D.1 (HZ.1.below d) (HA.1.below d) (HF.1.below d) s (Ba L k) (Ba L m) ak aj ck cj (HD.1 k Q) (HD.1 m X) (G.1.1.below j) (G.1.2.below j)).mono ?_;rintro e' w2 ⟨v,f,rfl,N,E,T⟩;obtain⟨U,V,rfl,r⟩:=Jk.of_own E rfl;exact S.1 _ _ ⟨T,U,V,rfl,r⟩;rintro A H e o g q1 q2 ⟨U,V,E,r⟩ K S;go_simp;have j:=Ab W.1 o;have d:=Ab q.1 j;refine(MX c p w.heap.size H d.size a0 D.1 (a1.1.keep d) 2 (by decide) 2 rfl (k:Int) (Pp t c s (Ba L k) (Ba L m)) (Pp t c s (Ba L k) (Ba L m)) (P_ HT.1 D.1 ⟨HD.1 k Q,HD.1 m X⟩).self U V _ rfl r).mono ?_;rintro e' w2 ⟨v,f,rfl,T,h4,h5⟩;rw[show Ef c 2 (k:Int) (Pp t c s (Ba L k) (Ba L m)) c.rs.length=((Wy c 2 (Pp t c s (Ba L k) (Ba L m))).map λs=>((2:Int),(k:Int),s)) by rw[Ef,SV,Wy,show Rt ((2:Nat):Int) (Pp t c s (Ba L k) (Ba L m))=(Pp t c s (Ba L k) (Ba L m)) from I_ _];rfl]at h4;exact S.1 _ _ ⟨h5,f,Bf j.size T,h4⟩
     case c11=>kernel_rfl
     intro u w5 o;simp only[Df,Hu,Jm,Act.put,O,↓reduceIte,Nat.reduceEqDiff];rintro e1 ⟨f,e2,e3⟩;have x:=Sk M.1 o;have F:=Ab W.1 o;refine t_ (Operand.tmp 35) (Operand.tmp 54) 121 rfl B.heap.size 126 i0 (.agg #[vIa 0,vIa 0,.string ByteArray.empty]) 3 32 underlying121 hi a7 a8 a9 rfl (by decide) v1 _ _ e1 x _ _ _ f rfl e3 (zwz _) (by have:=a6.1;have:=b5.1;simp only[List.length_map];unfold maxLen;omega) (by have:=a6.1;have:=b5.1;simp only[List.length_map];omega) F.size λv2 w6 o1 o2=>?_;have b9:=I (F.grown o2 F.size (λk hk=>Lt x k hk));have b6:=I (show w6.ownsRow B.heap.size 126 3 v2 ((xA t c s L k++((Wy c 1 (Bo t c (Ba L k))).map λs=>((1:Int),(k:Int),s)))++((Wy c 2 (Pp t c s (Ba L k) (Ba L m))).map λs=>((2:Int),(k:Int),s))).length (Je ((xA t c s L k++((Wy c 1 (Bo t c (Ba L k))).map λs=>((1:Int),(k:Int),s)))++((Wy c 2 (Pp t c s (Ba L k) (Ba L m))).map λs=>((2:Int),(k:Int),s)))) by rw[zwA,Gh];exact o1);clear o1 o2 x F e1 e2 e3 o;go_simp;rw[<-HM.1]at b6;clear W G M;go_wp2;go_roundw;exact⟨m,by have:=y.1;omega,by first|rfl|(rw[y.1];try go_num),b9,b6⟩;have:=y.1;simp[intOf];omega
   have b8:decide ((m:Int)<(L.length:Int))=false:=by simp;omega
   have HM:=I (show xA t c s L m=xA t c s L k++((Wy c 1 (Bo t c (Ba L k))).map λs=>((1:Int),(k:Int),s)) by rw[y.1,xA,iN (by have:=y.1;omega),List.append_nil]);rw[<-HM.1]at M;go_wp2;go_roundw;exact⟨m,by have:=y.1;omega,by first|rfl|(rw[y.1];try go_num),W,M⟩;have:=y.1;simp[intOf];omega
 obtain rfl:k=L.length:=by omega
 have C:=I (v_ D.1 t s L L.length (Bv _));have b7:=I (O_ D.1 3 (Pa t c s L));obtain⟨g0,g1,gl⟩:=Kk (l.1 _ z.1).2.2;go_wp2_with fail;clear g0 g1 gl;refine' lK [⟨56, [],.kn u7⟩,⟨57, [],.kn _⟩,⟨58, [],.kn _⟩,⟨59, [],.kn _⟩,⟨60, [],.kn _⟩,⟨61, [58,59,60],.ow (λv w'=>∃a n,v=.slice a (Pa t c s L).length n/\Jk w' a ((zk 3).zip (Pa t c s L))) (λ_ _ _ ⟨a,n,e,h⟩ h'=>⟨a,n,e,h.below h'⟩)⟩,⟨62, [57,61],.ow (λv w'=>∃b,B.heap.size<=b/\w'.ownsRow b 126 3 v ((Wy c 3 (Pa t c s L)).map λs=>((3:Int),(0:Int),s)).length (Je ((Wy c 3 (Pa t c s L)).map λs=>((3:Int),(0:Int),s)))) (λ_ _ _ ⟨b,N,E⟩ h=>⟨b,N,Sk E h⟩)⟩] [3,4,5,7] [56,62] (λ_ h=>aI (Ev (l.1 _ (Ab z.1 h)).1) (aI (Ek (l.1 _ (Ab z.1 h)).2.1) (Kk (l.1 _ (Ab z.1 h)).2.2))) ?h12 ?c12 ?f12
 case h12=>
  intro u;simp only[Df,Jm,↓reduceIte,Nat.reduceEqDiff];intros;and_intros
  all_goals try (first|trivial|(intros;refine Fy (by assumption) ?_;go_simp <;> rfl))
  intro A H e o g q0 q1 q2 K S;go_simp;have j:=Ab z.1 o;have d:=Ab q.1 j;refine(VU t c Y zc Z ac fa fc p H HT.1 D.1 a0 (HZ.1.below d) (HA.1.below d) (HF.1.below d) (Ea.below (⟨HZ.1,HA.1,HF.1,a1.1⟩:Ea w t c Y Z fa p) d).c s L (some (aD db a3)) cap N h6 HD.1 HK.1 (HL.1.below d)).mono ?_;rintro e' w2 ⟨v,f,rfl,N,E,T⟩;obtain⟨U,V,rfl,r⟩:=Jk.of_own E rfl;exact S.1 _ _ ⟨T,U,V,rfl,r⟩;rintro A H e o g q1 ⟨U,V,E,r⟩ K S;go_simp;have j:=Ab z.1 o;have d:=Ab q.1 j;refine(MX c p w.heap.size H d.size a0 D.1 (a1.1.keep d) 3 (by decide) 3 rfl 0 (Pa t c s L) (N_ t c s L) (zwJ HT.1 D.1 N h6 HD.1) U V _ rfl r).mono ?_;rintro e' w2 ⟨v,f,rfl,T,h4,h5⟩;rw[show Ef c 3 0 (N_ t c s L) c.rs.length=((Wy c 3 (Pa t c s L)).map λs=>((3:Int),(0:Int),s)) by rw[Ef,SV];rfl]at h4;exact S.1 _ _ ⟨h5,f,Bf j.size T,h4⟩
 case c12=>kernel_rfl
 intro u w3 o;simp only[Df,Hu,Jm,Act.put,O,↓reduceIte,Nat.reduceEqDiff];rintro e1 ⟨f,e2,e3⟩;have x:=Sk hV.1 o;have F:=Ab z.1 o;refine t_ (Operand.tmp 56) (Operand.tmp 62) 121 rfl B.heap.size 126 i0 (.agg #[vIa 0,vIa 0,.string ByteArray.empty]) 3 32 underlying121 hi a7 a8 a9 rfl (by decide) u7 _ _ e1 x _ _ _ f rfl e3 (zwz _) (by have:=C.1;have:=b7.1;simp only[List.length_map];unfold maxLen;omega) (by have:=C.1;have:=b7.1;simp only[List.length_map];omega) F.size λv1 w4 o1 o2=>?_;have a5:=I (F.grown o2 F.size (λk hk=>Lt x k hk));have M:=I (show w4.ownsRow B.heap.size 126 3 v1 ((xA t c s L L.length)++((Wy c 3 (Pa t c s L)).map λs=>((3:Int),(0:Int),s))).length (Je ((xA t c s L L.length)++((Wy c 3 (Pa t c s L)).map λs=>((3:Int),(0:Int),s)))) by rw[zwA,Gh];exact o1);clear o1 o2 x F e1 e2 e3 o;go_simp;go_wp2;go_ret;exact⟨v1,B.heap.size,rfl,q.1.size,M.1,Ab q.1 a5.1⟩
def e_(t:At)(c:Ad)(s:BA)(L:List Ai):List (Int×Int×BA):=if Hs t c s L=0 then xA t c s L L.length++(Wy c 3 (Pa t c s L)).map λs=>(3,0,s) else []
def n_(t:At)(c:Ad)(s:BA)(L:List Ai):Int:=if Hs t c s L=0 then ZU t c s L L.length else 0
theorem q_{t:At}{c:Ad}{L:List Ai}(h:Hs t c s L=0):e_ t c s L=xA t c s L L.length++(Wy c 3 (Pa t c s L)).map λs=>(3,0,s):=iP h
theorem o_{t:At}{c:Ad}{L:List Ai}(h:Hs t c s L≠0):e_ t c s L= []:=iN h
theorem zwX{t:At}{c:Ad}{L:List Ai}(h:Hs t c s L=0):n_ t c s L=ZU t c s L L.length:=iP h
theorem zwK{t:At}{c:Ad}{L:List Ai}(h:Hs t c s L≠0):n_ t c s L=0:=iN h
inductive zxu(w:Wd)(t:At)(c:Ad)(s:BA)(L:List Ai)(e:Ending)(w':Wd):Prop
 |bad (h:Hs t c s L≠0) (he:e=.returned (.tuple #[.pointer none,(Hs t c s L)]))
 |ok (sb:Nat) (P:Dh) (h:Hs t c s L=0) (h1:1<=L.length) (h6:L.length<=6) (hd:∀k,k<L.length->Cc t c (Ba L k)=0) (he:e=.returned (.tuple #[.pointer (some (aD sb 0)),.int .i64 0])) (hs:Hl w' sb t c P) (hn:P.nights=qE c)
theorem zwh(t:At)(c:Ad)(m:Ae)(u:Nat)(n:Ae)(ac:Nat)(fa:Ae)(fc:Nat)(p:Bd)(G:Rn t c m u n ac fa fc p)(w:Wd)(H:Ea w t c m n fa p)(s:BA)(L:List Ai)(o:Ae)(cap:Nat)(y:L.length<=2^47)(K:Al Ed w o L):Calls prog 122 #[Az t m u n ac fa fc,Ay c p,.agg #[.string s,.slice o L.length cap]] w λe w'=>zxu w t c s L e w'/\Bw w w':=by
 try delta Ay Az
 have W:=I H;have X:=I K;have Y:=I G;clear H K G;go_in;go_wp2_with fail;obtain⟨M,Z,N,z⟩:=cB w t c m u n ac fa fc p (oP s o L.length cap);have f:=I M;obtain⟨Q,g⟩:=xSa (w.heap.size+1);obtain⟨R,i⟩:=xSa (w.heap.size+1+1);rw[<-i]at z;rw[<-g]at N;simp only[<-i];simp only[<-g];clear g i M;generalize ((w.alloc (Ap t m u n ac fa fc)).alloc (Aj c p)).alloc (oP s o L.length cap)=W0 at*;have S:=I z;clear Z N z;refine(Y.1 W0 (W.1.below f.1)).mono ?_;rintro e w1 ⟨q,j⟩;have a:=jS f j;have k:=jT S j;clear j f S;rcases q with⟨h,rfl⟩|⟨h,v,rfl⟩|⟨T,P,rfl,x,_,U⟩
 . have V:=bNa h
   have b:=I (show zY t=Hs t c s L from(Se h).symm);have A:=I h;clear h;go_wp2;go_ret2;exact⟨.bad (by rw[<-b.1];exact A.1) (oY b.1),a.1⟩
 . have V:=bNa v
   have b:=I (show Ax c=Hs t c s L from(Sc h v).symm);have A:=I v;clear h v;go_wp2;go_ret2;exact⟨.bad (by rw[<-b.1];exact A.1) (oY b.1),a.1⟩
 have B:=I x;have b:=I (show Hs t c s L=Fu t c s L from Pd x.okT x.okC);obtain⟨g0,g1,gl⟩:=Kk k.1;have C:=I U;clear x U;go_wp2_with fail;refine ca (VZ w1 T t c P B.1 s L o cap y (X.1.below a.1)) λw2 d=>?_;have r:=jS a d;have D:=I (B.1.below d);have a0:=jT k d;clear d a B k g0 g1 gl;by_cases l:Fu t c s L=0
 . have E:=I (CY l);have HZ:=I (b.1.trans l);rw[l];clear l b;go_wp2;go_ret2;exact⟨.ok T P HZ.1 E.1.2.1 E.1.2.2.1 E.1.2.2.2 rfl D.1 C.1,r.1⟩
 have V:=bNa l
 have F:=I (show Hs t c s L≠0 by rw[b.1];exact l);clear l;go_wp2;go_ret2;exact⟨.bad F.1 (oY b.1.symm),r.1⟩
theorem zwo(t:At)(c:Ad)(k:Ae)(o:Nat)(l:Ae)(ac:Nat)(fa:Ae)(fc:Nat)(p:Bd)(C:Rn t c k o l ac fa fc p)(w:Wd)(D:Ea w t c k l fa p)(s:BA)(L:List Ai)(m:Ae)(cap:Nat)(x:L.length<=2^47)(E:Al Ed w m L):Calls prog 60 #[Az t k o l ac fa fc,Ay c p,.agg #[.string s,.slice m L.length cap]] w (cL w (e_ t c s L) (Hs t c s L)):=by
 try delta Ay Az
 have X:=I D;have F:=I E;have Y:=I C;clear D E C;go_in;go_wp2_with fail;obtain⟨G,Z,H,y⟩:=cB w t c k o l ac fa fc p (oP s m L.length cap);have a:=I G;obtain⟨K,d⟩:=xSa (w.heap.size+1);obtain⟨M,f⟩:=xSa (w.heap.size+1+1);rw[<-f]at y;rw[<-d]at H;simp only[<-f];simp only[<-d];clear d f G;generalize ((w.alloc (Ap t k o l ac fa fc)).alloc (Aj c p)).alloc (oP s m L.length cap)=W0 at*;have N:=I y;clear Z H y;refine(zwh t c k o l ac fa fc p Y.1 W0 (X.1.below a.1) s L m cap x (F.1.below a.1)).mono ?_;rintro e w1 ⟨q,g⟩;have i:=jS a g;have z:=jT N g;clear g a N;rcases q with⟨h,rfl⟩|⟨sb,P,h,Q,R,S,rfl,T,U⟩
 . have n:=I h;have e1:=bNa h
   clear h;go_wp2;go_ret2;exact⟨none,0,Wa (by rw[o_ n.1];rfl) rfl,.inl (o_ n.1),i.1⟩
 have n:=I h;have V:=I (zw4 w1 sb t c P T U s L m cap Q R S (F.1.below i.1));obtain⟨g0,g1,gl⟩:=Kk z.1;clear T U h Q R S;go_wp2_with fail;refine V.1.mono ?_;rintro e w2 ⟨v,W,rfl,j,b,r⟩;have A:=jS i r;obtain⟨a3,c3,rfl,u⟩:=Us.of_own b;have B:=I u;clear r V b j u g0 g1 gl;go_wp2;go_ret2;exact⟨a3,c3,Wa (by rw[q_ n.1,Gh,List.length_map] <;> rfl) n.1.symm,by rw[q_ n.1];exact B.1,A.1⟩
theorem zxg(t:At)(c:Ad)(i:Ae)(l:Nat)(j:Ae)(ac:Nat)(fa:Ae)(fc:Nat)(p:Bd)(x:Rn t c i l j ac fa fc p)(w:Wd)(y:Ea w t c i j fa p)(s:BA)(L:List Ai)(k:Ae)(cap:Nat)(q:L.length<=2^47)(z:Al Ed w k L):CV 62 #[Az t i l j ac fa fc,Ay c p,.agg #[.string s,.slice k L.length cap]] w (.tuple #[(n_ t c s L),(Hs t c s L)]):=by
 try delta Ay Az
 have R:=I y;have A:=I z;have S:=I x;clear y z x;delta CV;go_in;go_wp2_with fail;obtain⟨B,T,C,r⟩:=cB w t c i l j ac fa fc p (oP s k L.length cap);have a:=I B;obtain⟨D,b⟩:=xSa (w.heap.size+1);obtain⟨E,d⟩:=xSa (w.heap.size+1+1);rw[<-d]at r;rw[<-b]at C;simp only[<-d];simp only[<-b];clear b d B;generalize ((w.alloc (Ap t i l j ac fa fc)).alloc (Aj c p)).alloc (oP s k L.length cap)=U at*;have F:=I r;clear T C r;refine(zwh t c i l j ac fa fc p S.1 U (R.1.below a.1) s L k cap q (A.1.below a.1)).mono ?_;rintro e V ⟨m,f⟩;have g:=jS a f;have u:=jT F f;clear f a F;rcases m with⟨h,rfl⟩|⟨W,P,h,G,H,K,rfl,M,N⟩
 . have o:=I h;have e1:=bNa h
   clear h;go_wp2;go_ret2;exact⟨zJ (zwK o.1).symm rfl,g.1⟩
 have o:=I h;have Q:=I (zxf V W t c P M N s L k cap G H K (A.1.below g.1));obtain⟨X,Y,Z⟩:=Kk u.1;clear M N h G H K;go_wp2_with fail;refine Q.1.mono ?_;rintro e w2 ⟨rfl,n⟩;have v:=jS g n;clear n Q X Y Z;go_wp2;go_ret2;exact⟨zJ (zwX o.1).symm o.1.symm,v.1⟩
theorem zwn(t:At)(c:Ad)(j:Ae)(d:Nat)(k:Ae)(ac:Nat)(fa:Ae)(fc:Nat)(p:Bd)(w:Wd)(y:(t.zn.length<=d/\d<=2^47/\t.ai.length<=ac/\ac<=2^47))(A:c.cs.length<=p.cc/\p.cc<=9223372036854775807)(B:Ea w t c j k fa p)(s:BA)(L:List Ai)(l:Ae)(cap:Nat)(G:L.length<=2^47)(U:Al Ed w l L):
 Calls prog 61 #[Az t j d k ac fa fc,Ay c p,.agg #[.string s,.slice l L.length cap]] w (cL w (e_ t c s L) (Hs t c s L)):=by
 try delta Ay Az
 have V:=I B;have W:=I U;clear B U;go_in;go_wp2_with fail;obtain⟨X,Y,H,K⟩:=cB w t c j d k ac fa fc p (oP s l L.length cap);have m:=I X;obtain⟨M,n⟩:=xSa (w.heap.size+1);obtain⟨N,o⟩:=xSa (w.heap.size+1+1);rw[<-o]at K;rw[<-n]at H;simp only[<-o];simp only[<-n];clear n o X;generalize ((w.alloc (Ap t j d k ac fa fc)).alloc (Aj c p)).alloc (oP s l L.length cap)=P at*;have q:=I (λW' (h:Bw P W')=>(⟨Ac h Y,Ac h H,Ac h K⟩:W'.heap[w.heap.size]?=some (Ap t j d k ac fa fc)/\W'.heap[M]?=some (Aj c p)/\W'.heap[N]?=some (oP s l L.length cap)));clear Y H K;refine ca (WE t c j d k ac fa fc p P y A (V.1.below m.1) s L l cap G (W.1.below m.1)) λw1 r=>?_;have Q:=I r;have b:=jS m r;clear r;have HE:=I (show Sb t c (Fu t c s L)=Hs t c s L from rfl);rw[HE.1];by_cases u:Hs t c s L=0
 . obtain⟨Z,hC,hP⟩:=WP u;have F:=I (CY hP);have g:=I (aI Z hC);have R:=I u;obtain⟨x0,x1,x2,xl⟩:=Ev (q.1 _ Q.1).1;obtain⟨y0,y1,y2,y3,y4,y5,y6,y7,y8,y9,a1,a3,a4,a5,yl⟩:=Ek (q.1 _ Q.1).2.1;obtain⟨g0,g1,gl⟩:=Kk (q.1 _ Q.1).2.2;rw[u];clear u Z hC hP;go_wp2_with fail;have C:=V.1.below b.1;have hs:Ao (t.ai.map Bh.code) s=true:=by rw[<-CJ];exact F.1.1
   refine(zwq t c j d k ac fa fc p w1 g.1.1 g.1.2 A C.z C.a C.f C.c s L l cap F.1.2.1 F.1.2.2.1 F.1.2.2.2 hs (W.1.below b.1)).mono ?_;rintro e w3 ⟨v,a0,rfl,x,i,D⟩;have S:=jS b D;obtain⟨a2,c2,rfl,E⟩:=Us.of_own i;have T:=I E;clear D i x E C;go_wp2;go_ret2;exact⟨a2,c2,Wa (by rw[q_ R.1,Gh,List.length_map] <;> rfl) R.1.symm,by rw[q_ R.1];exact T.1,S.1⟩
 have h':=bNa u
 have HV:=I u;clear u;go_wp2;go_ret2;exact⟨none,0,Wa (by rw[o_ HV.1];rfl) rfl,.inl (o_ HV.1),b.1⟩
theorem zwD(t:At)(c:Ad)(i:Ae)(d:Nat)(j:Ae)(ac:Nat)(fa:Ae)(fc:Nat)(p:Bd)(w:Wd)(u:(t.zn.length<=d/\d<=2^47/\t.ai.length<=ac/\ac<=2^47))(v:c.cs.length<=p.cc/\p.cc<=9223372036854775807)(x:Ea w t c i j fa p)(s:BA)(L:List Ai)(k:Ae)(cap:Nat)(C:L.length<=2^47)(N:Al Ed w k L):
 CV 63 #[Az t i d j ac fa fc,Ay c p,.agg #[.string s,.slice k L.length cap]] w (.tuple #[(n_ t c s L),(Hs t c s L)]):=by
 try delta Ay Az
 have P:=I x;have Q:=I N;clear x N;delta CV;go_in;go_wp2_with fail;obtain⟨R,S,D,E⟩:=cB w t c i d j ac fa fc p (oP s k L.length cap);have l:=I R;obtain⟨F,m⟩:=xSa (w.heap.size+1);obtain⟨G,n⟩:=xSa (w.heap.size+1+1);rw[<-n]at E;rw[<-m]at D;simp only[<-n];simp only[<-m];clear m n R;generalize ((w.alloc (Ap t i d j ac fa fc)).alloc (Aj c p)).alloc (oP s k L.length cap)=H at*;have o:=I (λW' (h:Bw H W')=>(⟨Ac h S,Ac h D,Ac h E⟩:W'.heap[w.heap.size]?=some (Ap t i d j ac fa fc)/\W'.heap[F]?=some (Aj c p)/\W'.heap[G]?=some (oP s k L.length cap)));clear S D E;refine ca (WE t c i d j ac fa fc p H u v (P.1.below l.1) s L k cap C (Q.1.below l.1)) λX q=>?_;have K:=I q;have b:=jS l q;clear q;have Y:=I (show Sb t c (Fu t c s L)=Hs t c s L from rfl);rw[Y.1];by_cases r:Hs t c s L=0
 . obtain⟨T,U,V⟩:=WP r;have B:=I (CY V);have g:=I (aI T U);have W:=I r;obtain⟨x0,x1,x2,xl⟩:=Ev (o.1 _ K.1).1;obtain⟨y0,y1,y2,y3,y4,y5,y6,y7,y8,y9,Z,a0,a1,a2,yl⟩:=Ek (o.1 _ K.1).2.1;obtain⟨g0,g1,gl⟩:=Kk (o.1 _ K.1).2.2;rw[r];clear r T U V;go_wp2_with fail;have y:=P.1.below b.1;have hs:Ao (t.ai.map Bh.code) s=true:=by rw[<-CJ];exact B.1.1
   refine ca (zw2 t c i d j ac fa fc p X g.1.1 g.1.2 v y.z y.a y.f y.c s L k cap B.1.2.1 B.1.2.2.1 B.1.2.2.2 hs (Q.1.below b.1)) λw3 A=>?_;have M:=jS b A;clear A y;go_wp2;go_ret2;exact⟨by rw[zwX W.1,W.1];rfl,M.1⟩
 have h':=bNa r
 have HV:=I r;clear r;go_wp2;go_ret2;exact⟨by rw[zwK HV.1];rfl,b.1⟩
theorem zw8(t:At)(c:Ad)(s:BA)(L:List Ai):(e_ t c s L).length<=2^47:=by
 by_cases h:Hs t c s L=0;obtain⟨_,a,b⟩:=WP h;obtain⟨_,_,d,_⟩:=CY b;have e:=v_ a t s L L.length (Bv _);have f:=O_ a 3 (Pa t c s L);rw[q_ h,Gh,List.length_map];omega;rw[o_ h];simp
theorem zzF(t:At)(c:Ad)(s:BA)(L:List Ai)(l:Ae)(k:Nat)(m:Ae)(ac:Nat)(fa:Ae)(fc:Nat)(p:Bd)(v:Ae)(cap:Nat)(w:Wd)(hn:(t.zn.length<=k/\k<=2^47/\t.ai.length<=ac/\ac<=2^47)/\t.fs.length<=2^47)(hz:Al Nc w l t.zn)(ha:Al Mk w m t.ai)(hf:Al Hi w fa t.fs)(b5:c.cs.length<=p.cc/\p.cc<=9223372036854775807)(hc:Kb w.heap.size w c p)(d2:s.size<=2^47)(n:L.length<=2^47)(hl:Al Ed w v L):
 CV 17 #[Az t l k m ac fa fc,Ay c p,.agg #[.string s,.slice v L.length cap]] w (.bool true):=by
 try delta Ay Az
 have x:=I (λW (h:Bw w W)=>aI (Ea.below ⟨hz,ha,hf,hc⟩ h) (hl.below h));have b6:=hn.1;have a5:t.zn.length<=2^47/\t.ai.length<=2^47/\t.fs.length<=2^47:=by omega
 have c6:=zw8 t c s L;have a6:=I (show t.zn.length<=k/\k<=2^47/\t.ai.length<=ac/\ac<=2^47 by omega);clear hz ha hf hc hl hn b6;delta CV;go_in;go_wp2_with fail;obtain⟨hB,qT,qC,qP⟩:=cB w t c l k m ac fa fc p (oP s v L.length cap);have b7:=I hB;obtain⟨cb,a7⟩:=xSa (w.heap.size+1);obtain⟨pb,a8⟩:=xSa (w.heap.size+1+1);rw[<-a8]at qP;rw[<-a7]at qC;simp only[<-a8];simp only[<-a7];clear a7 a8 hB;generalize ((w.alloc (Ap t l k m ac fa fc)).alloc (Aj c p)).alloc (oP s v L.length cap)=W0 at*;have a:=I (λW' (h:Bw W0 W')=>(⟨Ac h qT,Ac h qC,Ac h qP⟩:W'.heap[w.heap.size]?=some (Ap t l k m ac fa fc)/\W'.heap[cb]?=some (Aj c p)/\W'.heap[pb]?=some (oP s v L.length cap)));clear qT qC qP;have c7:=I (An W0.heap.size W0);refine(zhE t c l k m ac fa fc p W0 a5 (x.1 _ b7.1).1).mono ?_;rintro e w1 ⟨bl,rfl,a9⟩;have y:=jS b7 a9;have o:=I a9;clear a9 a5 c7;cases bl
 . have i:=y;go_wp2_with fail;refine(G_ _).mono ?_;rintro e wz ⟨rfl,j⟩;have q:=jS i j;clear j;go_wp2;go_ret;exact⟨rfl,q.1⟩
 obtain⟨z,A,B,C⟩:=Ev (a.1 _ o.1).1;obtain⟨D,E,F,G,H,K,M,N,P,Q,b,d,f,g,R⟩:=Ek (a.1 _ o.1).2.1;obtain⟨S,T,U⟩:=Kk (a.1 _ o.1).2.2;go_wp2_with fail;refine(zu7 s L v cap w1 n (x.1 _ y.1).2).mono ?_;rintro e w2 ⟨rfl,b0⟩;have V:=jS y b0;have X:=jS o b0;clear b0 y o;clear z A B C D E F G H K M N P Q b d f g R S T U;cases c8:m_ L
 . have i:=V;go_wp2_with fail;refine(G_ _).mono ?_;rintro e wz ⟨rfl,j⟩;have q:=jS i j;clear j;go_wp2;go_ret;exact⟨rfl,q.1⟩
 clear c8;obtain⟨er,b8⟩:=xSa (Hs t c s L);have Y:=I b8;clear b8;obtain⟨z,A,B,C⟩:=Ev (a.1 _ X.1).1;obtain⟨D,E,F,G,H,K,M,N,P,Q,b,d,f,g,R⟩:=Ek (a.1 _ X.1).2.1;obtain⟨S,T,U⟩:=Kk (a.1 _ X.1).2.2;go_wp2_with fail;refine(zwo t c l k m ac fa fc p (gI t l m fa k ac fc c p) w2 (x.1 _ V.1).1 s L v cap n (x.1 _ V.1).2).mono ?_;rintro e w3 ⟨a1,k1,rfl,b9,b1⟩;have b2:=jS V b1;have Z:=jS X b1;rw[<-Y.1];clear z A B C D E F G H K M N P Q b d f g R S T U;have V1:=I b9;clear b9 b1;obtain⟨z,A,B,C⟩:=Ev (a.1 _ Z.1).1;obtain⟨D,E,F,G,H,K,M,N,P,Q,b,d,f,g,R⟩:=Ek (a.1 _ Z.1).2.1;obtain⟨S,T,U⟩:=Kk (a.1 _ Z.1).2.2;go_wp2_with fail;refine(zwn t c l k m ac fa fc p w3 a6.1 b5 (x.1 _ b2.1).1 s L v cap n (x.1 _ b2.1).2).mono ?_;rintro e w4 ⟨a2,k2,rfl,c0,a0⟩;have b3:=jS b2 a0;have a3:=jS Z a0;rw[<-Y.1];clear z A B C D E F G H K M N P Q b d f g R S T U;have c1:=I (V1.1.below a0);have V2:=I c0;clear c0 a0 V1;obtain⟨z,A,B,C⟩:=Ev (a.1 _ a3.1).1;obtain⟨D,E,F,G,H,K,M,N,P,Q,b,d,f,g,R⟩:=Ek (a.1 _ a3.1).2.1;obtain⟨S,T,U⟩:=Kk (a.1 _ a3.1).2.2;go_wp2_with fail;refine(zxg t c l k m ac fa fc p (gI t l m fa k ac fc c p) w4 (x.1 _ b3.1).1 s L v cap n (x.1 _ b3.1).2).mono ?_;rintro e w5 ⟨rfl,r⟩;have b4:=jS b3 r;have a4:=jS a3 r;rw[<-Y.1];clear z A B C D E F G H K M N P Q b d f g R S T U;have c2:=I (c1.1.below r);have c3:=I (V2.1.below r);clear r c1 V2;obtain⟨z,A,B,C⟩:=Ev (a.1 _ a4.1).1;obtain⟨D,E,F,G,H,K,M,N,P,Q,b,d,f,g,R⟩:=Ek (a.1 _ a4.1).2.1;obtain⟨S,T,U⟩:=Kk (a.1 _ a4.1).2.2;go_wp2_with fail;refine(zwD t c l k m ac fa fc p w5 a6.1 b5 (x.1 _ b4.1).1 s L v cap n (x.1 _ b4.1).2).mono ?_;rintro e w6 ⟨rfl,u⟩;have c9:=jS b4 u;have d3:=jS a4 u;rw[<-Y.1];clear z A B C D E F G H K M N P Q b d f g R S T U;have d0:=I (c2.1.below u);have d1:=I (c3.1.below u);clear u c2 c3;obtain⟨cr,c4⟩:=xSa (n_ t c s L);rw[<-c4];clear c4;go_wp2_with fail;refine(znO (e_ t c s L) a1 k1 a2 k2 w6 d0.1 d1.1 c6).mono ?_;rintro e w7 ⟨rfl,c5⟩;have i:=jS c9 c5;clear c5;go_wp2_with fail;refine(G_ _).mono ?_;rintro e wz ⟨rfl,j⟩;have q:=jS i j;clear j;go_wp2;go_ret;exact⟨rfl,q.1⟩
end Go.Proofs.YtelojoopofolpaaGreat
