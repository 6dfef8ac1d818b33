/- a part of the proof -/
import Derived.Test.YtelojoopofolpaaGreatGX
set_option linter.all false
set_option maxRecDepth 100000
set_option maxHeartbeats 3000000
namespace Go.Proofs.YtelojoopofolpaaGreat
open Go.RowKit Go.Sort Go.Proofs.Tryz
variable {s:BA}
theorem zvM(nm:List UInt8)(o:Int)(l:List (Int×Int))(x y a b:Int):0<=(zdh nm o l x y a b).1/\(zdh nm o l x y a b).1<=60000000:=by
 unfold zdh;by_cases h:Ee nm o l x y a b=0;rw[iN (by simpa using h)];obtain⟨_,⟨c,d,e⟩,_⟩:=aY h;have f:=NG (Gx o l a b) x (Ga a b) (y-x).toNat;have g:(((y-x).toNat:Nat):Int)<=52596000:=by omega
 simp only;split;omega;unfold bF;split <;> omega;rw[iP h];simp
theorem zv7(a b:LI)(k:Nat):Am (a++b) k=if k<a.length then Am a k else Am b (k-a.length):=by
 unfold Am;by_cases h:k<a.length;rw[iP h];simp[List.getD,Tp h];rw[iN h];simp[List.getD,Nf (Nat.le_of_not_lt h)]
theorem zvI:((List.range 25).all λi=>(Cl 2 (Bl (zk 2) i) !=4 || decide (i=2))&&(Cl 2 (Bl (zk 2) i) !=3 || decide (i=12\/i=13\/i=23\/i=24)))=true:=by decide+kernel
theorem zvX(t:At)(c:Ad)(s:BA)(x y:Ai)(i:Nat):Am (Pp t c s x y) (i+3)=if i<11 then Am (Bo t c x) i else Am (Bo t c y) (i-11):=by
 show Am (Bo t c x++Bo t c y) i=_;rw[zv7,Rd]
theorem P_{t:At}{c:Ad}{x y:Ai}(f:zY t=0)(g:Ax c=0)(j:Cc t c x=0/\Cc t c y=0):Ob 2 (Pp t c s x y) where
 len:=rfl
 val:=λi hi=>by
  have l:i<25:=hi;have m:=List.all_eq_true.1 zvI i (List.mem_range.2 l);simp only[Em,bne_iff_ne,Bool.or_eq_true,decide_eq_true_eq]at m;obtain⟨d,b⟩:=m;have r:=Tq f g j.1;have u:=Tq f g j.2;rcases Nat.lt_or_ge i 3 with o|o
  . have p:Cl 2 (Bl (zk 2) i)≠3:=by rcases b with h|h;exact h;omega
    refine⟨?_,λh=>aB h p,λh4=>?_⟩
    . obtain rfl|rfl|rfl:i=0\/i=1\/i=2:=by omega
      . show jU ((Bm t c y).1-(Bm t c x).2);unfold jU;omega
      . show jU (kV t c x y);have:=zvM (zp t (Aa t.fs (lstN x)).to).name.data.toList (zp t (Aa t.fs (lstN x)).to).off (zp t (Aa t.fs (lstN x)).to).sh (Bm t c x).2 (Bm t c y).1 c.nf c.nt;unfold jU kV;omega
      show jU (rK t x s);unfold jU rK;split <;> omega
    rcases d with h|rfl
    . exact aB h4 h
    show Gq (rK t x s);unfold Gq rK;split <;> simp
  obtain⟨k,rfl⟩:∃k,i=k+3:=⟨i-3,by omega⟩;have n:Cl 2 (Bl (zk 2) (k+3))≠4:=by rcases d with h|h;exact h;omega
  rw[zvX];by_cases a:k<11
  . rw[iP a];have q:=fB f g j.1 k a;refine⟨by unfold jU;omega,λh=>?_,λh=>aB h n⟩;rcases b with e|e
    . exact aB h e
    exact PE t c x (by omega) a
  rw[iN a];have q:=fB f g j.2 (k-11) (by omega);refine⟨by unfold jU;omega,λh=>?_,λh=>aB h n⟩;rcases b with e|e
  . exact aB h e
  exact PE t c y (by omega) (by omega)
theorem k_{t:At}{c:Ad}{x y:Ai}(h:Kc t c s x y=0):zY t=0/\Ax c=0/\Cc t c x=0/\Cc t c y=0:=by
 unfold Kc Sb at h;by_cases a:zY t=0;by_cases b:Ax c=0;rw[iN (by simpa using a),iN (by simpa using b)]at h;by_cases d:Mo t s=true;rw[iP d]at h;exact⟨a,b,zuC h⟩;rw[iN d]at h;omega;rw[iN (by simpa using a),iP b]at h;exact aB h b;rw[iP a]at h;exact aB h a
def V_(t:At)(c:Ad)(s:BA)(x y:Ai):List (Int×Int×BA):=if Kc t c s x y=0 then(Wy c 2 (Pp t c s x y)).map λs=>(2,0,s) else []
def d_(t:At)(c:Ad)(s:BA)(x y:Ai):Int:=if Kc t c s x y=0 then qQ c 2 (Pp t c s x y) else 0
theorem I_(q:LI):Rt 2 q=q:=iN (by decide)
theorem l_{t:At}{c:Ad}{x y:Ai}(h:Kc t c s x y≠0):V_ t c s x y= []:=iN h
theorem zvt{t:At}{c:Ad}{x y:Ai}(h:Kc t c s x y≠0):d_ t c s x y=0:=iN h
theorem zvn{t:At}{c:Ad}{x y:Ai}(h:Kc t c s x y=0):V_ t c s x y=(Wy c 2 (Pp t c s x y)).map λs=>(2,0,s):=iP h
theorem zvE{t:At}{c:Ad}{x y:Ai}(h:Kc t c s x y=0):d_ t c s x y=qQ c 2 (Pp t c s x y):=iP h
theorem zva{t:At}{c:Ad}{x y:Ai}(h:Kc t c s x y=0):V_ t c s x y=Ef c 2 0 (Pp t c s x y) c.rs.length:=by
 rw[zvn h,Ef,SV,Wy,show Rt ((2:Nat):Int) (Pp t c s x y)=(Pp t c s x y) from I_ _];rfl
theorem zvP{t:At}{c:Ad}{x y:Ai}(h:Kc t c s x y=0):d_ t c s x y=Gs c 2 (Pp t c s x y) c.ks.length:=by
 rw[zvE h,SU,qQ,show Rt ((2:Nat):Int) (Pp t c s x y)=(Pp t c s x y) from I_ _]
theorem zvg(t:At)(c:Ad)(m:Ae)(j:Nat)(n:Ae)(k:Nat)(fa:Ae)(fc:Nat)(p:Bd)(w:Wd)(o:(t.zn.length<=j/\j<=2^47/\t.ai.length<=k/\k<=2^47))(q:c.cs.length<=p.cc/\p.cc<=9223372036854775807)(r:Ea w t c m n fa p)(s:BA)(x y:Ai)(D E:Ae)(N P:Nat)(F:x.length<=2^47)(G:y.length<=2^47)(Q:Al Ei w D x)(R:Al Ei w E y):
 Calls prog 68 #[Az t m j n k fa fc,Ay c p,.string s,.slice D x.length N,.slice E y.length P] w (cL w (V_ t c s x y) (Kc t c s x y)):=by
 try delta Ay Az
 have S:=I r;have HX:=I Q;have HY:=I R;clear r Q R;go_in;go_wp2_with fail;obtain⟨T,u,d⟩:=Uy w t c m j n k fa fc p;have z:=I T;obtain⟨U,f⟩:=aT (w.heap.size+1);rw[<-f]at d;simp only[<-f];have QT:=I u;have V:=I d;clear f T u d;generalize (w.alloc (Ap t m j n k fa fc)).alloc (Aj c p)=W at*;refine(WG t c m j n k fa fc p W o q (S.1.below z.1) s x y D E N P F G (HX.1.below z.1) (HY.1.below z.1)).mono ?_;rintro e X ⟨la,lc,rfl,C,g⟩;have h:=jS z g;have H:=jT V g;clear g z QT V;by_cases a:Kc t c s x y=0
 . have l:=I a;obtain⟨Y,K,Z⟩:=k_ a;rw[CF a]at C;have CS:=I (MX c p X.heap.size X (Bv _) q K (S.1.below h.1).c 2 (by decide) 2 rfl 0 (Pp t c s x y) (Pp t c s x y) (P_ Y K Z).self la lc (Pp t c s x y).length rfl C);rw[CF a,Rf (show(Pp t c s x y).length=(zk 2).length from rfl)];clear Y K Z C;obtain⟨y0,y1,y2,y3,y4,y5,y6,y7,y8,y9,a1,a2,a4,a5,yl⟩:=Ek H.1;rw[a];clear a;go_wp2_with fail;refine CS.1.mono ?_;rintro e w2 ⟨v,a0,rfl,i,b,A⟩;have L:=jS h A;obtain⟨a3,c3,rfl,B⟩:=Us.of_own b;have M:=I B;clear A CS b i B;go_wp2;go_ret2;exact⟨a3,c3,Wa (by rw[zva l.1] <;> rfl) l.1.symm,by rw[zva l.1];exact M.1,L.1⟩
 have e1:=qC a
 have l:=I a;clear a C;go_wp2;go_ret2;exact⟨none,0,Wa (by rw[l_ l.1];rfl) rfl,.inl (l_ l.1),h.1⟩
theorem zvo(t:At)(c:Ad)(j:Ae)(h:Nat)(k:Ae)(i:Nat)(fa:Ae)(fc:Nat)(p:Bd)(w:Wd)(l:(t.zn.length<=h/\h<=2^47/\t.ai.length<=i/\i<=2^47))(m:c.cs.length<=p.cc/\p.cc<=9223372036854775807)(n:Ea w t c j k fa p)(s:BA)(x y:Ai)(z A:Ae)(G H:Nat)(B:x.length<=2^47)(C:y.length<=2^47)(K:Al Ei w z x)(L:Al Ei w A y):
 CV 70 #[Az t j h k i fa fc,Ay c p,.string s,.slice z x.length G,.slice A y.length H] w (.tuple #[(d_ t c s x y),(Kc t c s x y)]):=by
 try delta Ay Az
 have M:=I n;have V:=I K;have X:=I L;clear n K L;delta CV;go_in;go_wp2_with fail;obtain⟨N,o,b⟩:=Uy w t c j h k i fa fc p;have q:=I N;obtain⟨P,d⟩:=aT (w.heap.size+1);rw[<-d]at b;simp only[<-d];have Y:=I o;have Q:=I b;clear d N o b;generalize (w.alloc (Ap t j h k i fa fc)).alloc (Aj c p)=W at*;refine(WG t c j h k i fa fc p W l m (M.1.below q.1) s x y z A G H B C (V.1.below q.1) (X.1.below q.1)).mono ?_;rintro e R ⟨Z,lc,rfl,u,f⟩;have g:=jS q f;have D:=jT Q f;clear f q Y Q;by_cases a:Kc t c s x y=0
 . have v:=I a;obtain⟨S,E,T⟩:=k_ a;rw[CF a]at u;have U:=I (PP c p R.heap.size R (Bv _) m E (M.1.below g.1).c 2 (by decide) 2 rfl (Pp t c s x y) (Pp t c s x y) (P_ S E T).self Z lc (Pp t c s x y).length rfl u);rw[CF a,Rf (show(Pp t c s x y).length=(zk 2).length from rfl)];clear S E T u;obtain⟨y0,y1,y2,y3,y4,y5,y6,y7,y8,y9,a0,a1,a2,a3,yl⟩:=Ek D.1;rw[a];clear a;go_wp2_with fail;refine U.1.mono ?_;rintro e w2 ⟨rfl,r⟩;have F:=jS g r;clear r U;go_wp2;go_ret2;exact⟨zJ (zvP v.1).symm v.1.symm,F.1⟩
 have e1:=qC a
 have v:=I a;clear a u;go_wp2;go_ret2;exact⟨zJ (zvt v.1).symm rfl,g.1⟩
end Go.Proofs.YtelojoopofolpaaGreat
