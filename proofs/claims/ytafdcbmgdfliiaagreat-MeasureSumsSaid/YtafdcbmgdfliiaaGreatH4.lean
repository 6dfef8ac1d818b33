/- a part of the proof -/
import Derived.Test.YtafdcbmgdfliiaaGreatH1
set_option linter.all false
set_option maxRecDepth 100000
set_option maxHeartbeats 3000000
namespace Go.Proofs.YtafdcbmgdfliiaaGreat
open Go.RowKit Go.Sort Go.Proofs.Tryz
variable {s:BA}
theorem zvM(nm:List UInt8)(o:Int)(l:List (Int×Int))(x y a b:Int):0<=(zdh nm o l x y a b).1/\(zdh nm o l x y a b).1<=60000000:=by
 unfold zdh;by_cases h:Ee nm o l x y a b=0;rw[iN (by simpa using h)];have⟨_,⟨c,d,e⟩,_⟩:=aY h;have f:=NG (Gx o l a b) x (Ga a b) (y-x).toNat;all_goals grind[bF]
theorem zv7(a b:LI)(k:Nat):Am (a++b) k=if k<a.length then Am a k else Am b (k-a.length):=by
 grind[Am]
def zvI:((List.range 25).all λi=>(Cl 2 (Bl (zk 2) i) !=4 || decide (i=2))&&(Cl 2 (Bl (zk 2) i) !=3 || decide (i=12\/i=13\/i=23\/i=24)))=true:=by decide+kernel
theorem zvX(t:At)(c:Ad)(s:BA)(x y:Ai)(i:Nat):Am (Pp t c s x y) (i+3)=if i<11 then Am (Bo t c x) i else Am (Bo t c y) (i-11):=by
 show Am (Bo t c x++Bo t c y) i=_;rw[zv7,Rd]
theorem P_{t:At}{c:Ad}{x y:Ai}(f:zY t=0)(g:Ax c=0)(j:Cc t c x=0/\Cc t c y=0):Ob 2 (Pp t c s x y) where
 len:=rfl
 val:=λi hi=>by
  have l:i<25:=hi;have m:=List.all_eq_true.1 zvI i (List.mem_range.2 l);simp only[Em,bne_iff_ne,Bool.or_eq_true,decide_eq_true_eq]at m;obtain⟨d,b⟩:=m;have r:=Tq f g j.1;have u:=Tq f g j.2;rcases Nat.lt_or_ge i 3 with o|o
  . have p:Cl 2 (Bl (zk 2) i)≠3:=by rcases b with h|h;exact h;omega
    refine⟨?_,λh=>aB h p,λh4=>?_⟩
    . obtain rfl|rfl|rfl:i=0\/i=1\/i=2:=by omega
      . show wA ((Bm t c y).1-(Bm t c x).2);unfold wA;omega
      . show wA (kV t c x y);have:=zvM (zp t (Aa t.fs (lstN x)).to).name.data.toList (zp t (Aa t.fs (lstN x)).to).off (zp t (Aa t.fs (lstN x)).to).sh (Bm t c x).2 (Bm t c y).1 c.nf c.nt;grind[wA,kV]
      show wA (rK t x s);grind[wA,rK]
    rcases d with h|rfl
    . exact aB h4 h
    show Gq (rK t x s);grind[Gq,rK]
  obtain⟨k,rfl⟩:∃k,i=k+3:=⟨i-3,by omega⟩;grind[zvX,fB,wA,zqB]
theorem k_{t:At}{c:Ad}{x y:Ai}(h:Kc t c s x y=0):zY t=0/\Ax c=0/\Cc t c x=0/\Cc t c y=0:=by
 unfold Kc Sb at h;grind[zuC]
def V_(t:At)(c:Ad)(s:BA)(x y:Ai):List (Int×Int×BA):=if Kc t c s x y=0 then(Wy c 2 (Pp t c s x y)).map λs=>(2,0,s) else []
def d_(t:At)(c:Ad)(s:BA)(x y:Ai):Int:=if Kc t c s x y=0 then zoy c 2 (Pp t c s x y) else 0
theorem I_(q:LI):Rt 2 q=q:=iN (by decide)
def l_{t:At}{c:Ad}{x y:Ai}(h:Kc t c s x y≠0):V_ t c s x y= []:=iN h
def zvt{t:At}{c:Ad}{x y:Ai}(h:Kc t c s x y≠0):d_ t c s x y=0:=iN h
theorem zvn{t:At}{c:Ad}{x y:Ai}(h:Kc t c s x y=0):V_ t c s x y=(Wy c 2 (Pp t c s x y)).map λs=>(2,0,s):=iP h
theorem zvE{t:At}{c:Ad}{x y:Ai}(h:Kc t c s x y=0):d_ t c s x y=zoy c 2 (Pp t c s x y):=iP h
theorem zva{t:At}{c:Ad}{x y:Ai}(h:Kc t c s x y=0):V_ t c s x y=Ef c 2 0 (Pp t c s x y) c.rs.length:=by
 grind[zvn,Ef,SV,Wy,I_]
theorem zvP{t:At}{c:Ad}{x y:Ai}(h:Kc t c s x y=0):d_ t c s x y=Gs c 2 (Pp t c s x y) c.ks.length:=by
 grind[zvE,SU,zoy,I_]
def zvg(t:At)(c:Ad)(l:Ae)(j:Nat)(m:Ae)(ac:Nat)(fa:Ae)(fc:Nat)(p:Bd)(w:Wd)(n:(t.zn.length<=j/\j<=2^47/\t.ai.length<=ac/\ac<=2^47))(o:c.cs.length<=p.cc/\p.cc<=9223372036854775807)(q:Ea w t c l m fa p)(s:BA)(x y:Ai)(C D:Ae)(M N:Nat)(E:x.length<=2^47)(F:y.length<=2^47)(P:Al Ei w C x)(Q:Al Ei w D y):
 Calls prog 78 #[Az t l j m ac fa fc,Ay c p,B_ s,CU C x.length M,CU D y.length N] w (cL w (V_ t c s x y) (Kc t c s x y)):=by
 try delta Ay Az
 have R:=I q;have HX:=I P;have HY:=I Q;clear q P Q;go_in;go_wp2_with fail;have⟨S,r,d⟩:=Uy w t c l j m ac fa fc p;have u:=I S;have⟨T,f⟩:=aT (w.heap.size+1);rw[<-f]at d;simp only[<-f];have QT:=I r;have U:=I d;clear f S r d;generalize (w.alloc (Ap t l j m ac fa fc)).alloc (Aj c p)=W at*;refine(WG t c l j m ac fa fc p W n o (R.1.below u.1) s x y C D M N E F (HX.1.below u.1) (HY.1.below u.1)).mono ?_;rintro e V ⟨la,lc,rfl,B,g⟩;have h:=fE u g;have G:=fO U g;clear g u QT U;by_cases a:Kc t c s x y=0
 . have k:=I a;have⟨X,H,Y⟩:=k_ a;rw[CF a]at B;have Z:=I (MX c p V.heap.size V (Bv _) o H (R.1.below h.1).c 2 (by decide) 2 rfl 0 (Pp t c s x y) (Pp t c s x y) (P_ X H Y).self la lc (Pp t c s x y).length rfl B);rw[CF a,Rf (show(Pp t c s x y).length=(zk 2).length from rfl)];clear X H Y B;have⟨y0,y1,y2,y3,y4,y5,y6,y7,y8,y9,a1,a2,a4,a5,yl⟩:=Ek G.1;rw[a];clear a;go_wp2_with fail;refine Z.1.mono ?_;rintro e w2 ⟨v,a0,rfl,i,b,z⟩;have K:=fE h z;obtain⟨a3,c3,rfl,A⟩:=Us.of_own b;have L:=I A;clear z Z b i A;go_wp2;go_ret2;exact⟨a3,c3,Wa (by rw[zva k.1] <;> rfl) k.1.symm,by rw[zva k.1];exact L.1,K.1⟩
 have e1:=CN a
 have k:=I a;clear a B;go_wp2;go_ret2;exact⟨none,0,Wa (by rw[l_ k.1];rfl) rfl,.inl (l_ k.1),h.1⟩
def zvo(t:At)(c:Ad)(i:Ae)(h:Nat)(j:Ae)(ac:Nat)(fa:Ae)(fc:Nat)(p:Bd)(w:Wd)(k:(t.zn.length<=h/\h<=2^47/\t.ai.length<=ac/\ac<=2^47))(l:c.cs.length<=p.cc/\p.cc<=9223372036854775807)(m:Ea w t c i j fa p)(s:BA)(x y:Ai)(v z:Ae)(F G:Nat)(A:x.length<=2^47)(B:y.length<=2^47)(H:Al Ei w v x)(K:Al Ei w z y):
 CV 79 #[Az t i h j ac fa fc,Ay c p,B_ s,CU v x.length F,CU z y.length G] w (.tuple #[(d_ t c s x y),(Kc t c s x y)]):=by
 try delta Ay Az
 have L:=I m;have U:=I H;have V:=I K;clear m H K;delta CV;go_in;go_wp2_with fail;have⟨M,n,b⟩:=Uy w t c i h j ac fa fc p;have o:=I M;have⟨N,d⟩:=aT (w.heap.size+1);rw[<-d]at b;simp only[<-d];have X:=I n;have P:=I b;clear d M n b;generalize (w.alloc (Ap t i h j ac fa fc)).alloc (Aj c p)=W at*;refine(WG t c i h j ac fa fc p W k l (L.1.below o.1) s x y v z F G A B (U.1.below o.1) (V.1.below o.1)).mono ?_;rintro e Q ⟨Y,Z,rfl,r,f⟩;have g:=fE o f;have C:=fO P f;clear f o X P;by_cases a:Kc t c s x y=0
 . have u:=I a;have⟨R,D,S⟩:=k_ a;rw[CF a]at r;have T:=I (PP c p Q.heap.size Q (Bv _) l D (L.1.below g.1).c 2 (by decide) 2 rfl (Pp t c s x y) (Pp t c s x y) (P_ R D S).self Y Z (Pp t c s x y).length rfl r);rw[CF a,Rf (show(Pp t c s x y).length=(zk 2).length from rfl)];clear R D S r;have⟨y0,y1,y2,y3,y4,y5,y6,y7,y8,y9,a0,a1,a2,a3,yl⟩:=Ek C.1;rw[a];clear a;go_wp2_with fail;refine T.1.mono ?_;rintro e w2 ⟨rfl,q⟩;have E:=fE g q;clear q T;go_wp2;go_ret2;exact⟨zJ (zvP u.1).symm u.1.symm,E.1⟩
 have e1:=CN a
 have u:=I a;clear a r;go_wp2;go_ret2;exact⟨zJ (zvt u.1).symm rfl,g.1⟩
