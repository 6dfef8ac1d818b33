/- a part of the proof -/
import Derived.Test.YtelojoopofolpaaGreatGX
set_option linter.all false
set_option maxRecDepth 100000
set_option maxHeartbeats 3000000
namespace Go.Proofs.YtelojoopofolpaaGreat
open Go.RowKit Go.Sort Go.Proofs.Tryz
variable {s:BA}
theorem zvM(nm:List UInt8)(o:Int)(l:List (Int×Int))(x y a b:Int):0<=(Kx nm o l x y a b).1/\(Kx nm o l x y a b).1<=60000000:=by
 unfold Kx;by_cases h:Ee nm o l x y a b=0;rw[iN (by simpa using h)];obtain⟨_,⟨c,d,e⟩,_⟩:=aY h;have f:=NG (Gx o l a b) x (Ga a b) (y-x).toNat;have g:(((y-x).toNat:Nat):Int)<=52596000:=by omega
 simp only;split;omega;unfold bF;split <;> omega;rw[iP h];simp
theorem zv7(a b:LI)(k:Nat):Am (a++b) k=if k<a.length then Am a k else Am b (k-a.length):=by
 unfold Am;by_cases h:k<a.length;rw[iP h];simp[List.getD,Tp h];rw[iN h];simp[List.getD,Nf (Nat.le_of_not_lt h)]
theorem zvI:((List.range 25).all λi=>(Cl 2 (Bl (zk 2) i) !=4 || decide (i=2))&&(Cl 2 (Bl (zk 2) i) !=3 || decide (i=12\/i=13\/i=23\/i=24)))=true:=by decide+kernel
theorem zvX(t:At)(c:Ad)(s:BA)(x y:Ai)(i:Nat):Am (Pp t c s x y) (i+3)=if i<11 then Am (Bo t c x) i else Am (Bo t c y) (i-11):=by
 show Am (Bo t c x++Bo t c y) i=_;rw[zv7,Rd]
theorem P_{t:At}{c:Ad}{x y:Ai}(f:zY t=0)(g:Ax c=0)(j:Cc t c x=0/\Cc t c y=0):Ob 2 (Pp t c s x y) where
 len:=rfl
 val:=λi hi=>by
  have l:i<25:=hi;have m:=List.all_eq_true.1 zvI i (List.mem_range.2 l);simp only[Em,bne_iff_ne,Bool.or_eq_true,decide_eq_true_eq]at m;obtain⟨d,b⟩:=m;have r:=Tq f g j.1;have u:=Tq f g j.2;rcases Nat.lt_or_ge i 3 with o|o
  . have p:Cl 2 (Bl (zk 2) i)≠3:=by rcases b with h|h;exact h;omega
    refine⟨?_,λh=>aB h p,λh4=>?_⟩
    . obtain rfl|rfl|rfl:i=0\/i=1\/i=2:=by omega
      . show jU ((Bm t c y).1-(Bm t c x).2);unfold jU;omega
      . show jU (kV t c x y);have:=zvM (zp t (Aa t.fs (lstN x)).to).name.data.toList (zp t (Aa t.fs (lstN x)).to).off (zp t (Aa t.fs (lstN x)).to).sh (Bm t c x).2 (Bm t c y).1 c.nf c.nt;unfold jU kV;omega
      show jU (rK t x s);unfold jU rK;split <;> omega
    rcases d with h|rfl
    . exact aB h4 h
    show Gq (rK t x s);unfold Gq rK;split <;> simp
  obtain⟨k,rfl⟩:∃k,i=k+3:=⟨i-3,by omega⟩;have n:Cl 2 (Bl (zk 2) (k+3))≠4:=by rcases d with h|h;exact h;omega
  rw[zvX];by_cases a:k<11
  . rw[iP a];have q:=fB f g j.1 k a;refine⟨by unfold jU;omega,λh=>?_,λh=>aB h n⟩;rcases b with e|e
    . exact aB h e
    exact PE t c x (by omega) a
  rw[iN a];have q:=fB f g j.2 (k-11) (by omega);refine⟨by unfold jU;omega,λh=>?_,λh=>aB h n⟩;rcases b with e|e
  . exact aB h e
  exact PE t c y (by omega) (by omega)
theorem k_{t:At}{c:Ad}{x y:Ai}(h:Kc t c s x y=0):zY t=0/\Ax c=0/\Cc t c x=0/\Cc t c y=0:=by
 unfold Kc Sb at h;by_cases a:zY t=0;by_cases b:Ax c=0;rw[iN (by simpa using a),iN (by simpa using b)]at h;by_cases d:Mo t s=true;rw[iP d]at h;exact⟨a,b,CG h⟩;rw[iN d]at h;omega;rw[iN (by simpa using a),iP b]at h;exact aB h b;rw[iP a]at h;exact aB h a
def V_(t:At)(c:Ad)(s:BA)(x y:Ai):List (Int×Int×BA):=if Kc t c s x y=0 then(Wy c 2 (Pp t c s x y)).map λs=>(2,0,s) else []
def d_(t:At)(c:Ad)(s:BA)(x y:Ai):Int:=if Kc t c s x y=0 then qQ c 2 (Pp t c s x y) else 0
theorem I_(q:LI):Rt 2 q=q:=iN (by decide)
theorem l_{t:At}{c:Ad}{x y:Ai}(h:Kc t c s x y≠0):V_ t c s x y= []:=iN h
theorem zvt{t:At}{c:Ad}{x y:Ai}(h:Kc t c s x y≠0):d_ t c s x y=0:=iN h
theorem zvn{t:At}{c:Ad}{x y:Ai}(h:Kc t c s x y=0):V_ t c s x y=(Wy c 2 (Pp t c s x y)).map λs=>(2,0,s):=iP h
theorem zvE{t:At}{c:Ad}{x y:Ai}(h:Kc t c s x y=0):d_ t c s x y=qQ c 2 (Pp t c s x y):=iP h
theorem zva{t:At}{c:Ad}{x y:Ai}(h:Kc t c s x y=0):V_ t c s x y=Ef c 2 0 (Pp t c s x y) c.rs.length:=by
 rw[zvn h,Ef,SV,Wy,show Rt ((2:Nat):Int) (Pp t c s x y)=(Pp t c s x y) from I_ _];rfl
theorem zvP{t:At}{c:Ad}{x y:Ai}(h:Kc t c s x y=0):d_ t c s x y=Gs c 2 (Pp t c s x y) c.ks.length:=by
 rw[zvE h,SU,qQ,show Rt ((2:Nat):Int) (Pp t c s x y)=(Pp t c s x y) from I_ _]
theorem zvO(t:At)(c:Ad)(s:BA)(x y:Ai):(V_ t c s x y).length<=2^47:=by
 by_cases h:Kc t c s x y=0;obtain⟨_,a,_⟩:=k_ h;have:=mT a;rw[zva h];exact Bf (KZ _ _ _ _ _) (by omega);rw[l_ h];exact Bg _
theorem zvg(t:At)(c:Ad)(l:Ae)(j:Nat)(m:Ae)(ac:Nat)(fa:Ae)(fc:Nat)(p:Bd)(w:Wd)(n:(t.zn.length<=j/\j<=2^47/\t.ai.length<=ac/\ac<=2^47))(o:c.cs.length<=p.cc/\p.cc<=9223372036854775807)(q:Ea w t c l m fa p)(s:BA)(x y:Ai)(C D:Ae)(M N:Nat)(E:x.length<=2^47)(F:y.length<=2^47)(P:Al Ei w C x)(Q:Al Ei w D y):
 Calls prog 68 #[Az t l j m ac fa fc,Ay c p,.string s,.slice C x.length M,.slice D y.length N] w (cL w (V_ t c s x y) (Kc t c s x y)):=by
 try delta Ay Az
 have R:=I q;have HX:=I P;have HY:=I Q;clear q P Q;go_in;go_wp2_with fail;obtain⟨S,r,d⟩:=Uy w t c l j m ac fa fc p;have u:=I S;obtain⟨T,f⟩:=xSa (w.heap.size+1);rw[<-f]at d;simp only[<-f];have QT:=I r;have U:=I d;clear f S r d;generalize (w.alloc (Ap t l j m ac fa fc)).alloc (Aj c p)=W at*;refine(WG t c l j m ac fa fc p W n o (R.1.below u.1) s x y C D M N E F (HX.1.below u.1) (HY.1.below u.1)).mono ?_;rintro e V ⟨la,lc,rfl,B,g⟩;have h:=jS u g;have G:=jT U g;clear g u QT U;by_cases a:Kc t c s x y=0
 . have k:=I a;obtain⟨X,H,Y⟩:=k_ a;rw[CF a]at B;have Z:=I (MX c p V.heap.size V (Bv _) o H (R.1.below h.1).c 2 (by decide) 2 rfl 0 (Pp t c s x y) (Pp t c s x y) (P_ X H Y).self la lc (Pp t c s x y).length rfl B);rw[CF a,Rf (show(Pp t c s x y).length=(zk 2).length from rfl)];clear X H Y B;obtain⟨y0,y1,y2,y3,y4,y5,y6,y7,y8,y9,a1,a2,a4,a5,yl⟩:=Ek G.1;rw[a];clear a;go_wp2_with fail;refine Z.1.mono ?_;rintro e w2 ⟨v,a0,rfl,i,b,z⟩;have K:=jS h z;obtain⟨a3,c3,rfl,A⟩:=Us.of_own b;have L:=I A;clear z Z b i A;go_wp2;go_ret2;exact⟨a3,c3,Wa (by rw[zva k.1] <;> rfl) k.1.symm,by rw[zva k.1];exact L.1,K.1⟩
 have e1:=bNa a
 have k:=I a;clear a B;go_wp2;go_ret2;exact⟨none,0,Wa (by rw[l_ k.1];rfl) rfl,.inl (l_ k.1),h.1⟩
theorem zvo(t:At)(c:Ad)(i:Ae)(h:Nat)(j:Ae)(ac:Nat)(fa:Ae)(fc:Nat)(p:Bd)(w:Wd)(k:(t.zn.length<=h/\h<=2^47/\t.ai.length<=ac/\ac<=2^47))(l:c.cs.length<=p.cc/\p.cc<=9223372036854775807)(m:Ea w t c i j fa p)(s:BA)(x y:Ai)(v z:Ae)(F G:Nat)(A:x.length<=2^47)(B:y.length<=2^47)(H:Al Ei w v x)(K:Al Ei w z y):
 CV 70 #[Az t i h j ac fa fc,Ay c p,.string s,.slice v x.length F,.slice z y.length G] w (.tuple #[(d_ t c s x y),(Kc t c s x y)]):=by
 try delta Ay Az
 have L:=I m;have U:=I H;have V:=I K;clear m H K;delta CV;go_in;go_wp2_with fail;obtain⟨M,n,b⟩:=Uy w t c i h j ac fa fc p;have o:=I M;obtain⟨N,d⟩:=xSa (w.heap.size+1);rw[<-d]at b;simp only[<-d];have X:=I n;have P:=I b;clear d M n b;generalize (w.alloc (Ap t i h j ac fa fc)).alloc (Aj c p)=W at*;refine(WG t c i h j ac fa fc p W k l (L.1.below o.1) s x y v z F G A B (U.1.below o.1) (V.1.below o.1)).mono ?_;rintro e Q ⟨Y,Z,rfl,r,f⟩;have g:=jS o f;have C:=jT P f;clear f o X P;by_cases a:Kc t c s x y=0
 . have u:=I a;obtain⟨R,D,S⟩:=k_ a;rw[CF a]at r;have T:=I (PP c p Q.heap.size Q (Bv _) l D (L.1.below g.1).c 2 (by decide) 2 rfl (Pp t c s x y) (Pp t c s x y) (P_ R D S).self Y Z (Pp t c s x y).length rfl r);rw[CF a,Rf (show(Pp t c s x y).length=(zk 2).length from rfl)];clear R D S r;obtain⟨y0,y1,y2,y3,y4,y5,y6,y7,y8,y9,a0,a1,a2,a3,yl⟩:=Ek C.1;rw[a];clear a;go_wp2_with fail;refine T.1.mono ?_;rintro e w2 ⟨rfl,q⟩;have E:=jS g q;clear q T;go_wp2;go_ret2;exact⟨zJ (zvP u.1).symm u.1.symm,E.1⟩
 have e1:=bNa a
 have u:=I a;clear a r;go_wp2;go_ret2;exact⟨zJ (zvt u.1).symm rfl,g.1⟩
inductive zv8(w:Wd)(t:At)(c:Ad)(s:BA)(x y:Ai)(e:Ending)(w':Wd):Prop
 |bad (h:Kc t c s x y≠0) (he:e=.returned (.tuple #[.pointer none,(Kc t c s x y)]))
 |ok (sb:Nat) (P:Dh) (h:Kc t c s x y=0) (hx:Cc t c x=0) (hy:Cc t c y=0) (he:e=.returned (.tuple #[.pointer (some (aD sb 0)),.int .i64 0])) (hs:Hl w' sb t c P)
def zv1(w:Wd)(t:At)(c:Ad)(s:BA)(x y:Ai)(e:Ending)(w':Wd):Prop:=zv8 w t c s x y e w'/\Below w.heap.size w w'
theorem zve(t:At)(c:Ad)(n:Ae)(A:Nat)(o:Ae)(ac:Nat)(fa:Ae)(fc:Nat)(p:Bd)(w:Wd)(R:Rn t c n A o ac fa fc p)(q:Ea w t c n o fa p)(s:BA)(x y:Ai)(D E:Ae)(S T:Nat)(F:x.length<=2^47)(G:y.length<=2^47)(U:Al Ei w D x)(V:Al Ei w E y):Calls prog 129 #[Az t n A o ac fa fc,Ay c p,.string s,.slice D x.length S,.slice E y.length T] w (zv1 w t c s x y):=by
 try delta Ay Az
 have HT:=I q;have HX:=I U;have HY:=I V;have HN:=I R;clear q U V R;go_in;go_wp2_with fail;obtain⟨X,r,f⟩:=Uy w t c n A o ac fa fc p;have H:=I X;obtain⟨Y,g⟩:=xSa (w.heap.size+1);rw[<-g]at f;simp only[<-g];have QT:=I r;have QC:=I f;clear g X r f;generalize (w.alloc (Ap t n A o ac fa fc)).alloc (Aj c p)=W at*;clear QT QC;refine(HN.1 W (HT.1.below H.1)).mono ?_;rintro e w1 ⟨u,v⟩;have d:=jS H v;clear v H;rcases u with⟨h,rfl⟩|⟨h,B,rfl⟩|⟨K,P,rfl,C,_,hn⟩
 . have Z:=bNa h
   have a:=I (show zY t=Kc t c s x y from(Se h).symm);have L:=I h;clear h;go_wp2;go_ret2;exact⟨.bad (by rw[<-a.1];exact L.1) (oY a.1),d.1⟩
 . have Z:=bNa B
   have a:=I (show Ax c=Kc t c s x y from(Sc h B).symm);have L:=I B;clear h B;go_wp2;go_ret2;exact⟨.bad (by rw[<-a.1];exact L.1) (oY a.1),d.1⟩
 have M:=I C;have a:=I (show Kc t c s x y=if Mo t s=true then Gw t c x y else 6 from Pd C.okT C.okC);clear C hn;go_wp2_with fail;refine ca (CL w1 K t c P M.1 s) λw2 i=>?_;have b:=jS d i;have j:=I (M.1.below i);clear i d M;by_cases m:Mo t s=true
 . rw[iP m]at a;rw[m];clear m;go_wp2_with fail;refine ca (WF w2 K t c P j.1 x y D E S T F G (HX.1.below b.1) (HY.1.below b.1)) λw3 k=>?_;have z:=jS b k;have N:=I (j.1.below k);clear k b j;by_cases l:Gw t c x y=0
   . have HR:=I (CG l);have HZ:=I (a.1.trans l);rw[l];clear l a;go_wp2;go_ret2;exact⟨.ok K P HZ.1 HR.1.1 HR.1.2 rfl N.1,z.1⟩
   have Z:=bNa l
   have Q:=I (show Kc t c s x y≠0 by rw[a.1];exact l);clear l;go_wp2;go_ret2;exact⟨.bad Q.1 (oY a.1.symm),z.1⟩
 rw[iN m]at a;rw[show Mo t s=false by simpa using m];have Q:=I (show Kc t c s x y≠0 by rw[a.1];decide);clear m;go_wp2;go_ret2;exact⟨.bad Q.1 (oY a.1.symm),b.1⟩
theorem zvf(w:Wd)(sb:Nat)(t:At)(c:Ad)(P:Dh)(a:Hl w sb t c P)(s:BA)(x y:Ai)(m n:Ae)(u v:Nat)(z:Cc t c x=0/\Cc t c y=0)(A:Cc t c x=0)(B:Cc t c y=0)(d:Al Ei w m x)(f:Al Ei w n y):Calls prog 130 #[pAa sb 0,.string s,.slice m x.length u,.slice n y.length v] w (mF w ((Wy c 2 (Pp t c s x y)).map λs=>(2,0,s))):=by
 have K:=I a;have C:=P_ (s:=s) a.okT a.okC z;have L:=I (j_ a.okC (by decide) C);have M:=mT a.okC;have N:=a_ c 2;have D:=I (WI w sb t c P a s x y m n u v A B d f);clear a A B d f C z;go_in;go_wp2_with fail;refine D.1.mono ?_;rintro e Q ⟨R,S,rfl,E,b⟩;have o:=I b;have F:=I (zzQ 2 2 rfl (by decide) Q sb t c P (K.1.below b) (Pp t c s x y) R S (λh=>aB h (by decide)) (by rw[VX];decide) E (by omega) (by rw[I_];exact L.1));clear E b D;go_wp2_with fail;refine F.1.mono ?_;rintro e p ⟨W,rfl,g,i⟩;have j:=jS o i;obtain⟨T,U,rfl,G⟩:=wM.of_own g;have H:=I (h_ p.heap.size [] sNa p (Bv _) (World.ownsRow_nil _ _ _ _) 2 0 (Wy c 2 (Pp t c s x y)) T U G (by have:=U_ (Rt ((2:Nat):Int) (Pp t c s x y)) (Sg c 2) (Sg c 2).length;simp only[List.length_nil];unfold Wy;omega));clear g G i F;go_wp2_with fail;refine H.1.mono ?_;rintro e X ⟨V,rfl,k,l,_⟩;have q:=jS j l;have r:=I k;clear k l H;go_wp2;go_ret;exact⟨V,p.heap.size,rfl,j.1.size,by simpa using r.1,q.1⟩
theorem zvh(t:At)(c:Ad)(i:Ae)(l:Nat)(j:Ae)(ac:Nat)(fa:Ae)(fc:Nat)(p:Bd)(w:Wd)(M:Rn t c i l j ac fa fc p)(m:Ea w t c i j fa p)(s:BA)(x y:Ai)(C D:Ae)(E F:Nat)(G:x.length<=2^47)(H:y.length<=2^47)(N:Al Ei w C x)(Q:Al Ei w D y):
 Calls prog 67 #[Az t i l j ac fa fc,Ay c p,.string s,.slice C x.length E,.slice D y.length F] w (cL w (V_ t c s x y) (Kc t c s x y)):=by
 try delta Ay Az
 have Z:=I m;have R:=I N;have S:=I Q;have HN:=I M;clear m N Q M;go_in;go_wp2_with fail;obtain⟨T,n,d⟩:=Uy w t c i l j ac fa fc p;have o:=I T;obtain⟨U,f⟩:=xSa (w.heap.size+1);rw[<-f]at d;simp only[<-f];have QT:=I n;have QC:=I d;clear f T n d;generalize (w.alloc (Ap t i l j ac fa fc)).alloc (Aj c p)=W at*;refine(zve t c i l j ac fa fc p W HN.1 (Z.1.below o.1) s x y C D E F G H (R.1.below o.1) (S.1.below o.1)).mono ?_;rintro e w1 ⟨q,r⟩;have a:=jS o r;clear r o QT QC;rcases q with⟨h,rfl⟩|⟨sb,P,h,u,z,rfl,V⟩
 . have k:=I h;have e1:=bNa h
   clear h;go_wp2;go_ret2;exact⟨none,0,Wa (by rw[l_ k.1];rfl) rfl,.inl (l_ k.1),a.1⟩
 have k:=I h;have X:=I (zvf w1 sb t c P V s x y C D E F (k_ h).2.2 u z (R.1.below a.1) (S.1.below a.1));clear V h u z;go_wp2_with fail;refine X.1.mono ?_;rintro e w2 ⟨v,Y,rfl,g,b,A⟩;have K:=jS a A;obtain⟨a3,c3,rfl,B⟩:=Us.of_own b;have L:=I B;clear A X b g B;go_wp2;go_ret2;exact⟨a3,c3,Wa (by rw[zvn k.1,List.length_map] <;> rfl) k.1.symm,by rw[zvn k.1];exact L.1,K.1⟩
theorem zvp(t:At)(c:Ad)(i:Ae)(k:Nat)(j:Ae)(ac:Nat)(fa:Ae)(fc:Nat)(p:Bd)(w:Wd)(K:Rn t c i k j ac fa fc p)(l:Ea w t c i j fa p)(s:BA)(x y:Ai)(z A:Ae)(C D:Nat)(E:x.length<=2^47)(F:y.length<=2^47)(L:Al Ei w z x)(M:Al Ei w A y):
 CV 69 #[Az t i k j ac fa fc,Ay c p,.string s,.slice z x.length C,.slice A y.length D] w (.tuple #[(d_ t c s x y),(Kc t c s x y)]):=by
 try delta Ay Az
 have Z:=I l;have N:=I L;have Q:=I M;have HN:=I K;clear l L M K;delta CV;go_in;go_wp2_with fail;obtain⟨R,m,b⟩:=Uy w t c i k j ac fa fc p;have n:=I R;obtain⟨S,d⟩:=xSa (w.heap.size+1);rw[<-d]at b;simp only[<-d];have QT:=I m;have QC:=I b;clear d R m b;generalize (w.alloc (Ap t i k j ac fa fc)).alloc (Aj c p)=W at*;refine(zve t c i k j ac fa fc p W HN.1 (Z.1.below n.1) s x y z A C D E F (N.1.below n.1) (Q.1.below n.1)).mono ?_;rintro e w1 ⟨o,q⟩;have a:=jS n q;clear q n QT QC;rcases o with⟨h,rfl⟩|⟨T,P,h,r,u,rfl,f⟩
 . have B:=I h;have e1:=bNa h
   clear h;go_wp2;go_ret2;exact⟨zJ (zvt B.1).symm rfl,a.1⟩
 have B:=I h;have HS:=I f;have U:=P_ (s:=s) f.okT f.okC (k_ h).2.2;have HF:=I (c_ f.okC (by decide) U);have a0:=mT f.okC;have a1:=b_ c 2;have V:=I (WI w1 T t c P f s x y z A C D r u (N.1.below a.1) (Q.1.below a.1));clear f h r u U;go_wp2_with fail;refine V.1.mono ?_;rintro e w2 ⟨qa,qc,rfl,X,g⟩;have G:=jS a g;have Y:=I (zzP 2 2 rfl (by decide) w2 T t c P (HS.1.below g) (Pp t c s x y) qa qc (λh=>aB h (by decide)) (by rw[VX];decide) X (by omega) (by rw[I_];exact HF.1));clear X g V;go_wp2_with fail;refine Y.1.mono ?_;rintro e w3 ⟨rfl,v⟩;have H:=jS G v;clear v Y;go_wp2;go_ret2;exact⟨zJ (zvE B.1).symm B.1.symm,H.1⟩
theorem zzJ(t:At)(c:Ad)(s:BA)(x y:Ai)(n:Ae)(l:Nat)(o:Ae)(ac:Nat)(fa:Ae)(fc:Nat)(p:Bd)(xa:Ae)(xc:Nat)(ya:Ae)(yc:Nat)(w:Wd)(hn:(t.zn.length<=l/\l<=2^47/\t.ai.length<=ac/\ac<=2^47)/\t.fs.length<=2^47)(hz:Al Nc w n t.zn)(ha:Al Mk w o t.ai)(hf:Al Hi w fa t.fs)(a6:c.cs.length<=p.cc/\p.cc<=9223372036854775807)(hc:Kb w.heap.size w c p)(u:x.length<=2^47)(hx:Al Ei w xa x)(v:y.length<=2^47)(hy:Al Ei w ya y):
 CV 19 #[Az t n l o ac fa fc,Ay c p,.string s,.slice xa x.length xc,.slice ya y.length yc] w (.bool true):=by
 try delta Ay Az
 have m:=I (λW (h:Bw w W)=>aI (Ea.below ⟨hz,ha,hf,hc⟩ h) (aI (hx.below h) (hy.below h)));have a7:=hn.1;have a8:t.zn.length<=2^47/\t.ai.length<=2^47/\t.fs.length<=2^47:=by omega
 have c1:=zvO t c s x y;have E:=I (show t.zn.length<=l/\l<=2^47/\t.ai.length<=ac/\ac<=2^47 by omega);clear hz ha hf hc hx hy hn a7;delta CV;go_in;go_wp2_with fail;obtain⟨hB,q0,q1⟩:=Uy w t c n l o ac fa fc p;have a9:=I hB;obtain⟨b0,G⟩:=xSa w.heap.size;obtain⟨b1,H⟩:=xSa (w.heap.size+1);rw[<-G]at q0;rw[<-H]at q1;simp only[<-H];simp only[<-G];clear G H hB;generalize (w.alloc (Ap t n l o ac fa fc)).alloc (Aj c p)=w0 at*;have Q0:=I q0;have Q1:=I q1;clear q0 q1;have F:=I (λW' (h:Bw w0 W')=>aI (Ac h Q0.1) (Ac h Q1.1));refine(zhE t c n l o ac fa fc p w0 a8 (m.1 _ a9.1).1).mono ?_;rintro e w1 ⟨bl,rfl,K⟩;have b:=jS a9 K;have L:=I K;clear K a8;cases bl
 . have d:=b;go_wp2_with fail;refine ca (G_ _) λwz a=>?_;have f:=jS d a;clear a;go_wp2;go_ret;exact⟨rfl,f.1⟩
 by_cases M:40<x.length
 . have ex:decide ((40:Int)<(x.length:Int))=true:=by simp;omega
   have d:=b;clear M;go_wp2_with fail;refine ca (G_ _) λwz a=>?_;have f:=jS d a;clear a;go_wp2;go_ret;exact⟨rfl,f.1⟩
 have ex:decide ((40:Int)<(x.length:Int))=false:=by simp;omega
 by_cases b2:40<y.length
 . have ey:decide ((40:Int)<(y.length:Int))=true:=by simp;omega
   have d:=b;clear M b2;go_wp2_with fail;refine ca (G_ _) λwz a=>?_;have f:=jS d a;clear a;go_wp2;go_ret;exact⟨rfl,f.1⟩
 have ey:decide ((40:Int)<(y.length:Int))=false:=by simp;omega
 clear M b2;obtain⟨er,b3⟩:=xSa (Kc t c s x y);have z:=I b3;clear b3;obtain⟨N,P,Q,R⟩:=Ev (F.1 _ L.1).1;obtain⟨S,T,U,V,X,Y,Z,y7,y8,y9,g,i,j,k,yl⟩:=Ek (F.1 _ L.1).2;go_wp2_with fail;refine(zvh t c n l o ac fa fc p w1 (gI t n o fa l ac fc c p) (m.1 _ b.1).1 s x y xa ya xc yc u v (m.1 _ b.1).2.1 (m.1 _ b.1).2.2).mono ?_;rintro e w2 ⟨a1,k1,rfl,b4,a0⟩;have A:=jS b a0;have a3:=jS L a0;rw[<-z.1];clear N P Q R S T U V X Y Z y7 y8 y9 g i j k yl;have V1:=I b4;clear b4 a0;obtain⟨N,P,Q,R⟩:=Ev (F.1 _ a3.1).1;obtain⟨S,T,U,V,X,Y,Z,y7,y8,y9,g,i,j,k,yl⟩:=Ek (F.1 _ a3.1).2;go_wp2_with fail;refine(zvg t c n l o ac fa fc p w2 E.1 a6 (m.1 _ A.1).1 s x y xa ya xc yc u v (m.1 _ A.1).2.1 (m.1 _ A.1).2.2).mono ?_;rintro e w3 ⟨a2,k2,rfl,b5,B⟩;have C:=jS A B;have a4:=jS a3 B;rw[<-z.1];clear N P Q R S T U V X Y Z y7 y8 y9 g i j k yl;have b6:=I (V1.1.below B);have V2:=I b5;clear b5 B V1;obtain⟨N,P,Q,R⟩:=Ev (F.1 _ a4.1).1;obtain⟨S,T,U,V,X,Y,Z,y7,y8,y9,g,i,j,k,yl⟩:=Ek (F.1 _ a4.1).2;go_wp2_with fail;refine ca (zvp t c n l o ac fa fc p w3 (gI t n o fa l ac fc c p) (m.1 _ C.1).1 s x y xa ya xc yc u v (m.1 _ C.1).2.1 (m.1 _ C.1).2.2) λw4 q=>?_;have D:=jS C q;have a5:=jS a4 q;rw[<-z.1];clear N P Q R S T U V X Y Z y7 y8 y9 g i j k yl;have b7:=I (b6.1.below q);have b8:=I (V2.1.below q);clear q b6 V2;obtain⟨N,P,Q,R⟩:=Ev (F.1 _ a5.1).1;obtain⟨S,T,U,V,X,Y,Z,y7,y8,y9,g,i,j,k,yl⟩:=Ek (F.1 _ a5.1).2;go_wp2_with fail;refine ca (zvo t c n l o ac fa fc p w4 E.1 a6 (m.1 _ D.1).1 s x y xa ya xc yc u v (m.1 _ D.1).2.1 (m.1 _ D.1).2.2) λw5 r=>?_;have c2:=jS D r;have c5:=jS a5 r;rw[<-z.1];clear N P Q R S T U V X Y Z y7 y8 y9 g i j k yl;have c3:=I (b7.1.below r);have c4:=I (b8.1.below r);clear r b7 b8;obtain⟨cr,b9⟩:=xSa (d_ t c s x y);rw[<-b9];clear b9;go_wp2_with fail;refine ca (znO (V_ t c s x y) a1 k1 a2 k2 w5 c3.1 c4.1 c1) λw6 c0=>?_;have d:=jS c2 c0;clear c0;go_wp2_with fail;refine ca (G_ _) λwz a=>?_;have f:=jS d a;clear a;go_wp2;go_ret;exact⟨rfl,f.1⟩
end Go.Proofs.YtelojoopofolpaaGreat
