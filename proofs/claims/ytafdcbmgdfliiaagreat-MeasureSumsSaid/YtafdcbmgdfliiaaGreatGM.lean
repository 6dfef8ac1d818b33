/- a part of the proof -/
import Derived.Test.YtafdcbmgdfliiaaGreatGJ
set_option linter.all false
set_option maxRecDepth 100000
set_option maxHeartbeats 3000000
namespace Go.Proofs.YtafdcbmgdfliiaaGreat
open Go.RowKit Go.Sort Go.Proofs.Tryz
variable {N:LB}{q:LI}{b i j k:Nat}{l:List (BA×Int)}{s:BA}{w w':Wd}{v:Value}{a:Int}{x:zE}{V:List (Int×Int×BA)}
def Pu(l:List (BA×Int))(s:BA):Int:=Ex Prod.fst s 0 l
theorem AD(s:BA):∀(N:LB) (q:LI),q.length=N.length->(N.zip q).findIdx? (λx=>decide (x.1=s))=wi N s
 |[], [],_=>rfl
 |[],y::q,h=>by simp at h
 |x::N, [],h=>by simp at h
 |x::N,y::q,h=>by
  have a:=AD s N q (by simpa using h);grind[wi,List.zip_cons_cons]
theorem yW(s:BA)(h:q.length=N.length):Pu (N.zip q) s=match wi N s with|some i=>(i:Int)|none=>-1:=by
 grind[Pu,qG,AD]
theorem qL(h:q.length=N.length)(b:i<q.length):Do (N.zip q) i=(Bl N i,Am q i):=by
 grind[Do,Bl,Am]
theorem RD(h:k<l.length)(e:(Do l k).1=s):Ex Prod.fst s k (l.drop k)=k:=by grind[kC,Ex]
theorem VK(h:k<l.length)(e:¬ (Do l k).1=s):Ex Prod.fst s k (l.drop k)=Ex Prod.fst s (k+1) (l.drop (k+1)):=by grind[kC,Ex]
def xH(l:List (BA×Int))(s:BA)(a:Ae)(cap:Nat)(w:Wd)(h:Jk w a l)(o:l.length<=2^47):CE 107 #[CU a l.length cap,B_ s] w (Pu l s):=by
 have j:=I h;delta CE;go_in;go_wp2_with fail;go_loop [5] (λi=>∃k:Nat,k<=l.length/\i=Bn k/\Af (Pu l s=Ex Prod.fst s k (l.drop k))) (λi=>l.length-(intOf i).toNat);exact⟨0,Bg _,rfl,I rfl⟩;obtain⟨k,p,rfl,g⟩:=hrel;by_cases c:k<l.length
 . obtain⟨b,m,rfl,q,d⟩:=j.1.cells (by omega);have r:=(d k c).1;by_cases e:(Do l k).1=s
   . have n:((Do l k).1.toList==s.toList)=true:=by rw[zV];simpa using e
     have f:=I (g.1.trans (RD c e));go_wp2;go_ret;exact⟨ze f.1.symm,rfl⟩
   have n:((Do l k).1.toList==s.toList)=false:=by rw[zV];simpa using e
   have f:=I (g.1.trans (VK c e));go_wp2;go_round;exact⟨k+1,by omega,by go_num,f⟩;simp[intOf];omega
 have f:=I (g.1.trans (show Ex Prod.fst s k (l.drop k)=-1 by rw[List.drop_of_length_le (by omega)];rfl));obtain rfl:k=l.length:=by omega
 go_wp2;go_ret;exact⟨ze f.1.symm,rfl⟩
theorem Jk.of_own(h:w.ownsRow b 116 2 v q.length (Lv N q q.length))(m:q.length=N.length):∃a c,v=CU a q.length c/\Jk w a (N.zip q):=by
 rcases h.2 with⟨f,j⟩|⟨g,c,n,rfl,f,d,o,p,r,s⟩;exact⟨none,0,by rw[f,j],.inl (by have:q= []:=List.length_eq_zero_iff.1 j;subst this;simp)⟩;refine⟨_,_,rfl,.inr ⟨g,0,rfl,Ag d,λi hi=>?_⟩⟩;have e:i<q.length:=by rw[List.length_zip]at hi;omega
 have⟨k,l⟩:=iB N q m q.length (Bv _) i e;grind[zm]
theorem VJ{b:BA->Option (Int×Int)}{f:BA->Int}(E:eZ b f a q){o n:Int}{l:List zH}(p:Db (.mk o n s l)=true)(z:o≠6)(g:(Bt b a (.mk o n s l)).2=0):
 (∀k,k<l.length->(Bt b a (Au l k)).2=0)/\(∀k,k<l.length->wA (Am (Dz q (Ce f a l)) k))/\(o=14->Gq (Am (Dz q (Ce f a l)) 0))/\(19<=o->∀k,k<l.length->Gq (Am (Dz q (Ce f a l)) k)):=by
 have⟨w,r⟩:=Zb p;simp only[Nr,Em]at w;obtain⟨⟨⟨A,i⟩,t⟩,B⟩:=w;have⟨C,x⟩:=Om.1 A;rw[qM _ _ _ _ _ _ z]at g;by_cases m:(Cn b a l).1≠0;rw[iP m]at g;exact aB g m;rw[iN m]at g;have u:(Cn b a l).1=0:=Classical.not_not.1 m;by_cases j:Ch o (Cn b a l).2≠0;have⟨D,v⟩:=zjh u;have y:=qS E l r (λk hk=>(v k hk).1);have c:(Ce f a l).length=l.length:=aO f a l;have d:∀k,k<l.length->Am (Cn b a l).2 k=4->Gq (Am (Dz q (Ce f a l)) k):=λk hk h4=>by
  grind[Na]
 refine⟨λk hk=>(v k hk).1,λk hk=>pF _ y.1 k (by grind[Vp]),λh14=>?_,λh19 k hk=>?_⟩;subst h14;have F:l.length=3:=by simp[zL]at i;omega
 have e:Ch 14 (Cn b a l).2=if((Am (Cn b a l).2 0==4)&&(Am (Cn b a l).2 1==Am (Cn b a l).2 2))=true then Am (Cn b a l).2 1 else 0:=rfl;rw[e]at j;by_cases h:((Am (Cn b a l).2 0==4)&&(Am (Cn b a l).2 1==Am (Cn b a l).2 2))=true;exact d 0 (by omega) (by simp_all);rw[iN h]at j;exact aB rfl j;refine d k hk ?_;have h:Gd o (Cn b a l).2=true:=by
  refine Classical.byContradiction λh=>j ?_;obtain rfl|rfl|rfl|rfl:o=19\/o=20\/o=21\/o=22:=by omega
  all_goals grind[Ch]
 all_goals grind[Gd,qA]
theorem UO(q:LI)(e:BA->Int)(f o n:Int)(s:BA)(l:List zH)(i:1<=o)(g:o≠6):Fw o n (Dz q (Ce e f l))=Aw q (Bj e f (.mk o n s l)):=by
 grind[Bj,Fw,Aw]
structure Ob(k:Nat)(q:LI):Prop where
 len:q.length=(zk k).length
 val:∀i,i<q.length->wA (Am q i)/\(Cl k (Bl (zk k) i)=3->0<=Am q i/\Am q i<1440)/\(Cl k (Bl (zk k) i)=4->Gq (Am q i))
def Ob.env(h:Ob k q)(b:k<4)(l:List zB)(n:Nat):eZ (Cv l n) (Ec l n) k q where
 attr:=λs i hp=>by
  have c:=kS hp;have d:=rD hp;have a:=h.val i (by rw[h.len];exact c);rw[d]at a;exact⟨by rw[h.len];exact c,a.1,a.2.2⟩
 none:=λs hp=>mQ b hp
 named:=λs i hp=>PT b hp
 const:=λs r hr h0=>(pH l n (λj _ hjl h0=>AX l j hjl h0)).const s r hr h0
theorem Ob.atr(h:Ob k q)(c:Qd k s=some i):Ju (Cl k s) (Am q i)=Am q i:=by
 have f:=kS c;have g:=rD c;have d:=h.val i (by rw[h.len];exact f);rw[g]at d;obtain⟨j,l,m⟩:=d;unfold Ju;by_cases a:Cl k s=3;omega;rw[iN a];by_cases b:Cl k s=4;rw[iP b];rcases m b with e|e <;> rw[e] <;> decide;grind[Za]
structure bZ(k:Nat)(q0 q:LI):Prop where
 l0:q0.length=(zk k).length
 ok:Ob k q
 atr:∀s i,Qd k s=some i->Ju (Cl k s) (Am q0 i)=Am q i
 bd:∀i,i<q0.length->-9000000000000000000<=Am q0 i/\Am q0 i<=9000000000000000000
theorem Ob.self(h:Ob k q):bZ k q q where
 l0:=h.len
 ok:=h
 atr:=λs i hp=>h.atr hp
 bd:=λi hi=>by have:=(h.val i hi).1;grind[wA]
def Ob.nil:Ob 0 []:=⟨rfl,λi hi=>by simp at hi⟩
theorem MQ(nm:List UInt8)(o:Int)(l:List (Int×Int))(x y a b:Int):0<=(Jp nm o l x y a b).1/\(Jp nm o l x y a b).1<=52596000:=by
 unfold Jp;by_cases h:Ee nm o l x y a b≠0;rw[iP h];omega;rw[iN h];have⟨_,c,_⟩:=aY (Classical.not_not.1 h);have:=pB (Gx o l a b) x (y-x).toNat;omega
theorem yM(nm:List UInt8)(o:Int)(l:List (Int×Int))(t:Int):-840<=(Ej nm o l t).1/\(Ej nm o l t).1<=840:=by
 by_cases h:(Ej nm o l t).2=0;have:=eL h;all_goals grind[Ej]
theorem gQ(nm:List UInt8)(o:Int)(l:List (Int×Int))(t:Int):0<=(Kt nm o l t).2.1/\(Kt nm o l t).2.1<1440:=by
 grind[Kt]
theorem Rd(t:At)(c:Ad)(d:Ai):(Bo t c d).length=11:=rfl
theorem fB{t:At}{c:Ad}{d:Ai}(a:zY t=0)(b:Ax c=0)(hd:Cc t c d=0):∀i,i<11->0<=Am (Bo t c d) i/\Am (Bo t c d) i<=100000000:=by
 have e:=Qv.to a b hd d.length (Bv _);have w:d.length<=6:=(Ka hd).2.1;have f:=yT a b hd;have g:(Bm t c d).1=(Aa t.fs (fstN d)).dp-c.rp:=rfl;have h:(Bm t c d).2=(Aa t.fs (lstN d)).ar+c.rl:=rfl;obtain⟨j,k,l,m,n,o,p,q,r,s,u⟩:=e;intro i v;match i,v with
 |0,_=>show 0<=(By t d d.length).legs/\(By t d d.length).legs<=_;omega
 |1,_=>show 0<=(By t d d.length).heads/\(By t d d.length).heads<=_;omega
 |2,_=>show 0<=((By t d d.length).kinds.length:Int)/\((By t d d.length).kinds.length:Int)<=_;omega
 |3,_=>show 0<=(By t d d.length).blk/\(By t d d.length).blk<=_;omega
 |4,_=>show 0<=Zq t c (fstN d) (lstN d)/\Zq t c (fstN d) (lstN d)<=_;unfold Zq;omega
 |5,_=>show 0<=Un t c (fstN d) (lstN d)/\Un t c (fstN d) (lstN d)<=_;unfold Un;have:=MQ (zp t (Aa t.fs (fstN d)).fq).name.data.toList (zp t (Aa t.fs (fstN d)).fq).off (zp t (Aa t.fs (fstN d)).fq).sh ((Aa t.fs (fstN d)).dp-c.rp) ((Aa t.fs (lstN d)).ar+c.rl) c.nf c.nt;omega
 |6,_=>show 0<=(By t d d.length).lng/\(By t d d.length).lng<=_;omega
 |7,_=>show 0<=(By t d d.length).sht/\(By t d d.length).sht<=_;omega
 |8,_=>
  show 0<=Nt t c (fstN d) (lstN d)/\Nt t c (fstN d) (lstN d)<=_
  have x:=yM (zp t (Aa t.fs (fstN d)).fq).name.data.toList (zp t (Aa t.fs (fstN d)).fq).off (zp t (Aa t.fs (fstN d)).fq).sh ((Aa t.fs (fstN d)).dp-c.rp);have y:=yM (zp t (Aa t.fs (lstN d)).to).name.data.toList (zp t (Aa t.fs (lstN d)).to).off (zp t (Aa t.fs (lstN d)).to).sh ((Aa t.fs (lstN d)).ar+c.rl);grind[Nt,Vw,Vv,mx]
 |9,_=>
  have:=gQ (zp t (Aa t.fs (fstN d)).fq).name.data.toList (zp t (Aa t.fs (fstN d)).fq).off (zp t (Aa t.fs (fstN d)).fq).sh ((Aa t.fs (fstN d)).dp-c.rp);show 0<=Ov t c (fstN d)/\Ov t c (fstN d)<=_;unfold Ov;omega
 |10,_=>
  have:=gQ (zp t (Aa t.fs (lstN d)).to).name.data.toList (zp t (Aa t.fs (lstN d)).to).off (zp t (Aa t.fs (lstN d)).to).sh ((Aa t.fs (lstN d)).ar+c.rl);show 0<=Mx t c (lstN d)/\Mx t c (lstN d)<=_;unfold Mx;omega
theorem NQ:((List.range 11).all λi=>Cl 1 (Bl (zk 1) i) !=4&&(Cl 1 (Bl (zk 1) i) !=3 || decide (9<=i)))=true:=by decide+kernel
theorem zqB(t:At)(c:Ad)(d:Ai)(b:9<=i)(a:i<11):0<=Am (Bo t c d) i/\Am (Bo t c d) i<1440:=by
 obtain rfl|rfl:i=9\/i=10:=by omega
 have:=gQ (zp t (Aa t.fs (fstN d)).fq).name.data.toList (zp t (Aa t.fs (fstN d)).fq).off (zp t (Aa t.fs (fstN d)).fq).sh ((Aa t.fs (fstN d)).dp-c.rp);exact this;have:=gQ (zp t (Aa t.fs (lstN d)).to).name.data.toList (zp t (Aa t.fs (lstN d)).to).off (zp t (Aa t.fs (lstN d)).to).sh ((Aa t.fs (lstN d)).ar+c.rl);exact this
theorem eI{t:At}{c:Ad}{d:Ai}(e:zY t=0)(f:Ax c=0)(hd:Cc t c d=0):Ob 1 (Bo t c d) where
 len:=rfl
 val:=λi hi=>by
  have a:i<11:=hi;grind[fB,NQ,wA,zqB]
def AI{t:At}{c:Ad}{d:Ai}(f:zY t=0)(b:Ax c=0)(hd:Cc t c d=0):∀k,k<(Jf c).length->Lb (Bo t c d) (Ci (Jf c) k):=by
 intro k g;have a:k<c.xs.length:=by simpa[Jf] using g
 have e:Ci (Jf c) k=Bj (Ec c.cs c.cs.length) 1 (Au c.xs k):=by
  unfold Ci Jf Au;rw[Cr,List.getElem?_map,Cr,Cz a];rfl
 have⟨h,j,i⟩:=nZ b a;rw[e];exact(eV ((eI f b hd).env (by decide) c.cs c.cs.length) _ h i).1
theorem NT{c:Ad}(a:Ax c=0):(Jf c).length<=1:=by
 have h:=(Vq (Ud a).g).1;grind[Li,Jf]
def Xc(t:At)(c:Ad)(d:Ai):Int:=if Bk t c d=0 then Nw c (Bo t c d) else 0
def zmw(t:At)(c:Ad)(a:Ae)(g:Nat)(f:Ae)(ac:Nat)(fa:Ae)(fc:Nat)(p:Bd)(w:Wd)(D:Rn t c a g f ac fa fc p)(l:Ea w t c a f fa p)(d:Ai)(u:Ae)(x:Nat)(y:d.length<=2^47)(hd:Al Ei w u d):
 CV 14 #[Az t a g f ac fa fc,Ay c p,CU u d.length x] w (.tuple #[(Xc t c d),(Bk t c d)]):=by
 try delta Ay Az
 have M:=I l;have E:=I hd;have N:=I D;delta CV;go_in;go_wp2_with fail;have v:=I (Ab (J w (Ap t a g f ac fa fc)) (J _ (Aj c p)));have Q:=I (zd (o':=(Aj c p)) (zh w (Ap t a g f ac fa fc)));have z:=I (zh (w.alloc (Ap t a g f ac fa fc)) (Aj c p));rw[zr]at z;have⟨F,i⟩:=aT (w.heap.size+1);rw[<-i]at z;simp only[<-i];generalize (w.alloc (Ap t a g f ac fa fc)).alloc (Aj c p)=W at*;refine(FJ t c a g f ac fa fc p N.1 W (M.1.below v.1) d u x y (E.1.below v.1)).mono ?_;rintro e R ⟨m,n⟩;have j:=fE v n;rcases m with⟨h,rfl⟩|⟨G,P,h,o,rfl,H,_⟩
 . have A:Af (Xc t c d=0):=I (iN h);have V:=CN h
   go_wp2;go_ret2;exact⟨zJ A.1.symm rfl,j.1⟩
 have A:Af (Xc t c d=Nw c (Bo t c d)):=I (iP h);have q:=I H;have S:=I h;have r:=I o;go_wp2_with fail;refine(gE R G t c P q.1 d u x r.1 (E.1.below j.1)).mono ?_;rintro e T ⟨b,rfl,K,k⟩;have U:=I K;have B:=fE j k;have L:=I (KR T G t c P (q.1.below k) (Bo t c d) (some (aD b 0)) 11 (by rw[Rd];decide) (by rw[Rd];decide) U.1 (AI q.1.okT q.1.okC r.1) (Bf (NT q.1.okC) (by decide)));go_wp2_with fail;refine L.1.mono ?_;rintro e X ⟨rfl,s⟩;have C:=fE B s;go_wp2;go_ret2;exact⟨zJ A.1.symm S.1.symm,C.1⟩
def In(c:Ad)(k:Nat)(q:LI):Nat->LB
 |0=> []
 |j+1=>if(Ah c.rs j).sc=(k:Int)/\Aw q (Eb c k (Ah c.rs j).ex)=0 then In c k q j++ [(Ah c.rs j).name] else In c k q j
theorem yJ{c:Ad}(a:(Ah c.rs j).sc=(k:Int))(b:Aw q (Eb c k (Ah c.rs j).ex)=0):In c k q (j+1)=In c k q j++ [(Ah c.rs j).name]:=iP ⟨a,b⟩
theorem xP{c:Ad}(a:Aw q (Eb c k (Ah c.rs j).ex)≠0):In c k q (j+1)=In c k q j:=iN λh=>a h.2
theorem AO{c:Ad}(a:(Ah c.rs j).sc≠(k:Int)):In c k q (j+1)=In c k q j:=iN λh=>a h.1
theorem yI(c:Ad)(k:Nat)(q:LI):∀j,(In c k q j).length<=j
 |0=>Bv _
 |j+1=>by
  have:=yI c k q j;grind[In]
def vR(q:LI)(l a:List (BA×zE)):∀n,(∀i,i<n->Eh l i=Eh a i)->Ik q l n=Ik q a n
 |0,_=>rfl
 |n+1,h=>by rw[Ik,Ik,vR q l a n (λi hi=>h i (by omega)),h n (by omega)]
theorem PS(q:LI)(l:List (BA×zE))(x:BA×zE):Ik q (l++ [x]) (l++ [x]).length=if Aw q x.2=0 then Ik q l l.length++ [x.1] else Ik q l l.length:=by
 rw[Gh,List.length_singleton,Ik,uA,vR q (l++ [x]) l l.length (λi hi=>tZ hi)]
theorem vV(c:Ad)(k:Nat)(q:LI):∀j,j<=c.rs.length->In c k q j=Ik q (Fm c (c.rs.take j) k) (Fm c (c.rs.take j) k).length
 |0,_=>rfl
 |j+1,h=>by
  have d:=vV c k q j (by omega);grind[AQ,uV,PS,yJ,xP,AO]
theorem SV(c:Ad)(k:Nat)(q:LI):In c k q c.rs.length=Ik q (Sg c k) (Sg c k).length:=by
 rw[vV c k q _ (Bv _),List.take_length];rfl
def Gs(c:Ad)(k:Nat)(q:LI):Nat->Int
 |0=>0
 |j+1=>if(Aq c.ks j).sc=(k:Int) then Gs c k q j+Aw q (Eb c k (Aq c.ks j).ex) else Gs c k q j
def pP{c:Ad}(a:(Aq c.ks j).sc=(k:Int)):Gs c k q (j+1)=Gs c k q j+Aw q (Eb c k (Aq c.ks j).ex):=iP a
def pS{c:Ad}(a:(Aq c.ks j).sc≠(k:Int)):Gs c k q (j+1)=Gs c k q j:=iN a
def vF(q:LI)(l a:List zE):∀n,(∀i,i<n->Ci l i=Ci a i)->Jx q l n=Jx q a n
 |0,_=>rfl
 |n+1,h=>by rw[Jx,Jx,vF q l a n (λi hi=>h i (by omega)),h n (by omega)]
theorem LJ{l:List zE}(h:i<l.length):Ci (l++ [x]) i=Ci l i:=by
 grind[Ci]
def LK{l:List zE}:Ci (l++ [x]) l.length=x:=by simp[Ci]
def OQ(q:LI)(l:List zE)(x:zE):Jx q (l++ [x]) (l++ [x]).length=Jx q l l.length+Aw q x:=by
 rw[Gh,List.length_singleton,Jx,LK,vF q (l++ [x]) l l.length (λi hi=>LJ hi)]
def wL(c:Ad)(k:Nat)(q:LI):∀j,j<=c.ks.length->Gs c k q j=Jx q (Eu c (c.ks.take j) k) (Eu c (c.ks.take j) k).length
 |0,_=>rfl
 |j+1,h=>by
  have b:=wL c k q j (by omega);rw[zjk c.ks j (by omega),uO];by_cases a:(Aq c.ks j).sc=(k:Int)
  . rw[iP a,OQ,pP a,b]
  rw[iN a,pS a,b]
theorem SU(c:Ad)(k:Nat)(q:LI):Gs c k q c.ks.length=Jx q (Ra c k) (Ra c k).length:=by
 rw[wL c k q _ (Bv _),List.take_length];rfl
theorem KY{c:Ad}(h:Ax c=0)(f:k<4)(g:Ob k q)(a:i<c.rs.length)(j:(Ah c.rs i).sc=(k:Int)):Db (Ah c.rs i).ex=true/\Bq (Ah c.rs i).ex<=200/\(Bt (Cv c.cs c.cs.length) k (Ah c.rs i).ex).2=0:=by
 grind[AV]
def vU{c:Ad}(h:Ax c=0)(d:k<4)(e:Ob k q)(f:i<c.ks.length)(j:(Aq c.ks i).sc=(k:Int)):Db (Aq c.ks i).ex=true/\Bq (Aq c.ks i).ex<=200/\(Bt (Cv c.cs c.cs.length) k (Aq c.ks i).ex).2=0/\wA (Aw q (Eb c k (Aq c.ks i).ex)):=by
 have⟨m,l,_,_,a,g,b⟩:=AZ h f;obtain rfl:m=k:=by omega
 exact⟨a,g,b,Ph _ (eV (e.env d c.cs c.cs.length) _ a b).1⟩
def AN{c:Ad}(h:Ax c=0)(g:k<4)(i:Ob k q):∀j,j<=c.ks.length->-(1099511627776*(j:Int))<=Gs c k q j/\Gs c k q j<=1099511627776*(j:Int)
 |0,_=>by simp[Gs]
 |j+1,hj=>by
  have⟨a,b⟩:=AN h g i j (by omega);by_cases d:(Aq c.ks j).sc=(k:Int)
  . have⟨_,_,_,e,f⟩:=vU h g i (by omega) d;rw[pP d];omega
  rw[pS d];omega
theorem NO(q:LI)(b:BA->Int)(c:Int)(l:List zH)(j:Nat)(d:j<l.length):Dz q (Ce b c (l.take (j+1)))=Dz q (Ce b c (l.take j))++ [Aw q (Bj b c (Au l j))]:=by
 rw[nG b c l j d];generalize Ce b c (l.take j)=a;induction a<;>simp_all[Dz]
theorem UB{l:List zB}{n:Nat}{r:Int×Int}(h:Cv l n s=some r):∃i:Nat,fi l s=some i/\i<n/\Qx (l.take n) s=i/\Am (Es l n) i=Ec l n s:=by
 unfold Cv at h;cases b:fi l s with
 |none=>simp_all
 |some i=>
  rw[b]at h;by_cases a:i<n
  . refine⟨i,rfl,a,?_,?_⟩
    . grind[Qx,eQ]
    unfold Ec
    rw[b];simp only[iP a];exact(yF l n i).trans (iP a)
  simp_all
def rE(B:Nat)(l:List zB)(n:Nat)(la:Ae)(lc:Nat)(k:Nat)(va:Ae)(vc:Nat)(q0 q:LI)(ta:Ae)(tc:Nat)(x:zH):Prop:=∀(xa:Ae) (xc:Nat) (w:Wd),B<=w.heap.size->Ia x->Db x=true->Bq x<=200->Et B w xa x.args->(Bt (Cv l n) k x).2=0->zW w va (Es l n)->Me B w la (l.take n)->Jk w ta ((zk k).zip q0)->
 Calls prog 61 #[.slice va n vc,.slice la n lc,k,.slice ta q0.length tc,.agg #[x.op,x.num,.string x.name,.slice xa x.args.length xc]] w λe w'=>e=.returned (Aw q (Bj (Ec l n) k x))/\Below w.heap.size w w'
def LS(B:Nat)(l:List zB)(n:Nat)(hn:n<=l.length)(la:Ae)(lc:Nat)(k:Nat)(b0:k<4)(va:Ae)(vc:Nat)(L q:LI)(hQ:bZ k L q)(ta:Ae)(tc:Nat)(o p:Int)(s:BA)(c:List zH)(IH:∀j,j<c.length->rE B l n la lc k va vc L q ta tc (Au c j)):rE B l n la lc k va vc L q ta tc (.mk o p s c):=by
 intro Z xc w f z P A ha Q hV R a5;obtain⟨hs,d8,_,_⟩:=z;simp only[zH.op,zH.num,zH.name,zH.args]at d8 ha hs ⊢;have b1:(l.take n).length=n:=by rw[List.length_take];omega
 have g2:n<=2^47:=by have:=R.1;omega
 have f8:1+Dc c<=200:=by rw[Bq]at A;exact A
 have d9:c.length<=200:=by have:=iM c;omega
 have⟨hh,a6⟩:=Zb P;simp only[Nr,Em]at hh;obtain⟨⟨⟨g1,h3⟩,_⟩,_⟩:=hh;have⟨h1,h2⟩:=Om.1 g1;have E:=hQ.ok.env b0 l n;have HW:=I a6;have HI:=I IH;have HA:=I ha;have HV:=I hV;have b2:=I R;have b3:=I a5;have f9:L.length<=25:=by rw[hQ.l0];exact dZ k
 have⟨i0,hi,b4,b5,b6⟩:=info_parts bV;by_cases o6:o=6
 . subst o6;have f0:=I Q;have HQ:=I hQ;have HE:=I E;clear IH ha hV R h3 a6 g1 P A a5 Q hQ E hi b4 b5 b6;go_enter func61,ntmps61;go_wp2_with fail;have HB:=I (J w (Dq 6 p s Z c.length xc));have QX:=I (zh w (Dq 6 p s Z c.length xc));generalize w.alloc (Dq 6 p s Z c.length xc)=W at*;refine ca (mZ k b0 s W hs) λw1 D=>?_;have d:=fE HB D;have b7:=fO QX D;have z2:=zC b7.1;have zl:=Ag b7.1;clear D HB QX;cases S:Qd k s with
   |some i=>
    have F:Cl k s≠0:=HE.1.named s i S;have e2:(Pw (Cl k s)==0)=true:=by rw[Pw,iN F];rfl
    have b8:i<L.length:=by have:=kS S;rw[HQ.1.l0];exact this
    have hr:=I (show Aw q (Bj (Ec l n) k (.mk 6 p s c))=Ju (Cl k s) (Am L i) by
     rw[HQ.1.atr s i S,Bj,iN (by decide),iN (by decide),iN (by decide),iP rfl,S];simp only[];rw[Aw,iN (by decide),iP rfl];simp)
    have f1:=I ((yW s HQ.1.l0).trans (by rw[show wi (zk k) s=some i from S]):Pu ((zk k).zip L) s=(i:Int));have b9:((zk k).zip L).length=L.length:=by rw[List.length_zip,HQ.1.l0];exact Nat.min_self _
    have A1:=b3.1.below d.1;obtain⟨b,a7,rfl,hb,g⟩:=A1.cells (by omega);have d1:=(g i (by omega)).2;rw[qL HQ.1.l0 b8]at d1;have c6:=HQ.1.bd i b8;have HF:=I (xH ((zk k).zip L) s (some (aD b a7)) tc w1 A1 (by omega));rw[b9,f1.1]at HF;clear g A1 F S b9;go_wp2_with fail;refine HF.1.mono ?_;rintro e w2 ⟨rfl,rfl⟩;clear HF;go_wp2_with fail;refine cb (PU (Cl k s) (Am L i) w1 c6.1 c6.2) ?_;go_wp2;go_ret;exact hU hr d
   |none=>
    have F:Cl k s=0:=HE.1.none s S;have e2:(Pw (Cl k s)==0)=false:=by rw[F];rfl
    have hl:∃r,Cv l n s=some r:=by
     have h:=f0.1;rw[zo6,iN (by simpa using F)]at h;cases hk:Cv l n s with
     |none=>rw[hk]at h;exact aB h (by decide)
     |some r=>exact⟨r,rfl⟩
    obtain⟨r,c7⟩:=hl;have⟨i,f2,g3,c8,c9⟩:=UB c7
    have hr:=I (show Aw q (Bj (Ec l n) k (.mk 6 p s c))=Am (Es l n) i by
     rw[c9,Bj,iN (by decide),iN (by decide),iN (by decide),iP rfl,S];simp only[];rw[Aw,iP rfl])
    have V1:=HV.1.below d.1;obtain⟨b,a7,rfl,hb,g⟩:=V1.cells (by rw[Uf];omega);have d1:=g i (by rw[Uf];omega);have a8:=I (uP (l.take n) s la lc B w1 (Bf f d.1.size) (b2.1.keep (d.1.mono f) (Is.keep (d.1.mono f))));rw[b1,c8]at a8;clear g V1 F S c7 f2 c8 c9;go_wp2_with fail;refine a8.1.mono ?_;rintro e w2 ⟨rfl,rfl⟩;clear a8;go_wp2;go_ret;exact hU hr d
 have⟨a1,a2,a3,a4⟩:=VJ E P o6 Q;have HT:=I a1;have HR:=I a2;have f3:=I a3;have f4:=I a4;have H3:=I h3;have Hv:=I (UO q (Ec l n) k o p s c h1 o6);have e6:=RZ o6
 have O6:=I o6;clear IH ha hV R h3 a6 g1 P A a5 Q hQ E a1 a2 a3 a4 o6;go_enter func61,ntmps61;go_wp2_with fail;have HB:=I (J w (Dq o p s Z c.length xc));have QX:=I (zh w (Dq o p s Z c.length xc));have HO:Af (World.ownsRow (w.alloc (Dq o p s Z c.length xc)) w.heap.size 3 1 Ls 0 (([]:LI).map (Value.int .i64))):=I ⟨rfl,.inl ⟨rfl,rfl⟩⟩;generalize w.alloc (Dq o p s Z c.length xc)=W at*;go_loopw [13,14] (λt i wr=>∃(j:Nat) (v:Value) (G:LI),j<=c.length/\i=Bn j/\t=v/\G.length=j/\Af (G=Dz q (Ce (Ec l n) k (c.take j)))/\Af (wr.ownsRow w.heap.size 3 1 v G.length (G.map (Value.int .i64)))/\Af (wr.heap[w.heap.size]?=some (Dq o p s Z c.length xc))/\Af (Bw w wr)) (λ_ i _=>c.length-(intOf i).toNat);exact⟨0,_, [],Bg _,rfl,rfl,rfl,I (by simp[Ce,Dz]),HO,QX,HB⟩;clear HO QX HB;obtain⟨j,v,G,hj,rfl,rfl,T,C,hO,H,a⟩:=hrel;have x0:=zw H.1;have x1:=zu H.1;have x3:=Hk H.1;have f5:=Ag H.1;by_cases K:j<c.length
 . have⟨b,a7,d0,hb,g⟩:=HA.1.cells (by omega);have⟨a2,d2,f6,⟨c0,c1,c2,c3⟩,z,M⟩:=(g.keep (a.1.mono f)).at j K;have f7:b<wr.heap.size:=As f6 (Bf f a.1.size);rw[d0]at x3;have C1:=I (HI.1 j K a2 d2 wr (Bf f a.1.size) z (kI HW.1 j K) (by have:=iQ (l:=c) j K;omega) M (HT.1 j K) (HV.1.below a.1) (b2.1.keep (a.1.mono f) (Is.keep (a.1.mono f))) (b3.1.below a.1));clear g M z d0;go_wp2_with fail;refine C1.1.mono ?_;rintro e W2 ⟨rfl,U⟩;have a9:=fE a U;have V:=fO H U;have X:=I (Sh hO.1 a.1 U);clear C1 U c0 c1 c2 c3 x0 x1 x3 f5 f7 hO H a;have⟨y,hy⟩:=aT (Aw q (Bj (Ec l n) k (Au c j)));rw[<-hy];have d3:=I (show G++ [y]=Dz q (Ce (Ec l n) k (c.take (j+1))) by rw[NO q _ _ _ j K,<-C.1,hy]);have g0:G.length<=200:=by omega
   have nx:=Ma X.1 V.1 (by decide);clear hy C;go_wp2_with (at_builtin;refine wpList_append_own _ rfl _ _ 22 rfl w.heap.size 3 i0 (Bn 0) 1 8 underlying22 hi b4 b5 b6 rfl (by decide) _ _ _ rfl (X.1.alloc _) (aD W2.heap.size 0) 1 1 [Bn y] rfl rfl ?c1 ?c2 ?c3 ?c4 ?c5 ?_)
   case c1=>exact Hh W2 [Bn y] 3
   case c2=>intro u hu;simp at hu;subst hu;rfl
   case c3=>unfold maxLen;omega
   case c4=>omega
   case c5=>have:=a9.1.size;simp;omega
   intro v' w3 N x _;have d4:=I (Ld (e':=3) a9.1 rfl X.1 x);have d5:=I ((x.block _ (Ag (zd V.1)) nx).trans (zd V.1));have d6:=I (show w3.ownsRow w.heap.size 3 1 v' (G++ [y]).length ((G++ [y]).map (Value.int .i64)) by
    rw[Gh,Ii,T];exact N)
   have a0:(G++ [y]).length=j+1:=by simp[T]
   clear N x nx X V a9;go_wp2;go_roundw;(try((repeat apply eX);refine⟨?_,rfl⟩));exact⟨j+1,_,_,by omega,by go_num,rfl,a0,d3,d6,d5,d4⟩;simp[intOf];omega
 obtain rfl:j=c.length:=by omega
 have Y:=I (show G=(Dz q (Ce (Ec l n) k c)) by rw[C.1,List.take_length]);obtain⟨a3,d7,rfl,hI⟩:=zW.of_own hO.1;have CA:=I (MR o p G a3 d7 wr ⟨h1,h2⟩ O6.1 (by omega) (by rw[T];exact H3.1) (λm hm=>by rw[Y.1];exact HR.1 m (by omega)) (λh=>by rw[Y.1];exact f3.1 h) (λh m hm=>by rw[Y.1];exact f4.1 h m (by omega)) hI);have hr:=I (show Fw o p G=Aw q (Bj (Ec l n) k (.mk o p s c)) by rw[Y.1];exact Hv.1);clear hI C T hO;go_wp2_with fail;refine CA.1.mono ?_;rintro e w1 ⟨rfl,D⟩;have d:=fE a D;clear D CA;go_wp2;go_ret;exact⟨ze hr.1,d.1⟩
def vT(B:Nat)(l:List zB)(n:Nat)(r:n<=l.length)(c:Ae)(d:Nat)(k:Nat)(a:k<4)(e:Ae)(f:Nat)(b q:LI)(t:bZ k b q)(g:Ae)(h:Nat)(x:zH):rE B l n c d k e f b q g h x:=by
 have⟨m,u⟩:=aT (SizeOf.sizeOf x);induction m using Nat.strongRecOn generalizing x with
 |_ m ih=>
  subst u;obtain⟨o,i,s,p⟩:=x;exact LS B l n r c d k a e f b q t g h o i s p λj hj=>ih _ (Rc (x:=.mk o i s p) hj) _ rfl
def LT(B:Nat)(l:List zB)(n:Nat)(j:n<=l.length)(a:Ae)(g:Nat)(b:Ae)(h:Nat)(x:zH)(c:Ae)(i:Nat)(w:Wd)(k:B<=w.heap.size)(m:Ia x)(d:Db x=true)(o:Bq x<=200)(p:Et B w c x.args)(f:(Bt (Cv l n) 0 x).2=0)(q:zW w b (Es l n))(r:Me B w a (l.take n)):
 CV 61 #[CU b n h,CU a n g,Bn 0,Ls,.agg #[x.op,x.num,B_ x.name,CU c x.args.length i]] w (Aw [] (Bj (Ec l n) 0 x)):=
 vT B l n j a g 0 (by decide) b h [] [] Ob.nil.self none 0 x c i w k m d o p f q r (.inl (by simp))
theorem oX(B:Nat)(l:List zB)(b:Ae)(j:Nat)(n:Int)(k:Nat)(c:n=(k:Int))(s:k<4)(d:Ae)(o:Nat)(a q:LI)(t:bZ k a q)(f:Ae)(p:Nat)(m:Nat)(u:m=a.length)(x:zH)(g:Ae)(r:Nat)(w:Wd)(v:B<=w.heap.size)(y:Ia x)(h:Db x=true)(z:Bq x<=200)(A:Et B w g x.args)(i:(Bt (Cv l l.length) k x).2=0)(C:zW w d (Es l l.length))(D:Me B w b l)(E:Jk w f ((zk k).zip a)):
 CV 61 #[CU d l.length o,CU b l.length j,n,CU f m p,.agg #[x.op,x.num,B_ x.name,CU g x.args.length r]] w (Aw q (Bj (Ec l l.length) k x)):=by
 subst c u;exact vT B l l.length (Bv _) b j k s d o a q t f p x g r w v y h z A i C (by simp_all) E
theorem oB{c:Ad}(h:Ax c=0):∀i,i<c.cs.length->(Bx c.cs i).2=0:=by
 unfold Ax at h;by_cases a:Cf c≠0;rw[iP a]at h;exact aB h a;rw[iN a]at h;by_cases b:Av (Fg c.cs) 0 (c.cs.length-0)≠0;rw[iP b]at h;exact aB h b;intro i e;have d:=Ti _ _ (Classical.not_not.1 b) i (Bg _) (by omega);grind[Fg]
theorem mT{c:Ad}(h:Ax c=0):c.cs.length<=32/\c.rs.length<=40/\c.ks.length<=16/\c.xs.length<=1:=by
 have h:=(Vq (Ud h).g).1;grind[Li]
def MV(w:Wd)(l:List zB)(e:Ending)(w':Wd):Prop:=∃a cap,e=.returned (.slice a l.length cap)/\zW w' a (Es l l.length)/\Below w.heap.size w w'
def nO(l:List zB)(la:Ae)(N:Nat)(B:Nat)(w:Wd)(d:B<=w.heap.size)(a7:l.length<=N/\N<=9223372036854775807)(a8:l.length<=1000)(ha:Me B w la l)(P:∀i,i<l.length->(Bx l i).2=0):Calls prog 62 #[CU la l.length N] w (MV w l):=by
 have HA:=I ha;have Q:=I P;have⟨i0,hi,a0,a1,a3⟩:=info_parts bV;clear ha P;go_in;go_wp2_with fail;go_loopw [3,4] (λt i wr=>∃(j:Nat) (v:Value),j<=l.length/\i=Bn j/\v=t/\Af (wr.ownsRow w.heap.size 3 1 v (Es l j).length ((Es l j).map (Value.int .i64)))/\Af (Bw w wr)) (λ_ i _=>l.length-(intOf i).toNat);exact⟨0,_,Bg _,rfl,rfl,I (World.ownsRow_nil _ _ _ _),I (An _ _)⟩;obtain⟨j,v,a9,rfl,rfl,Y,a⟩:=hrel;by_cases D:j<l.length
 . have⟨b,a4,a5,hb,R⟩:=(HA.1.keep (a.1.mono d) (Is.keep (a.1.mono d))).cells (by omega);have⟨_,_,a2,s,⟨c1,c2,c3,c4⟩,x,k⟩:=R j D;have g:b<wr.heap.size:=by have:=a.1.size;omega
   have HF:=I x;have E:=I k;have⟨g1,g2,g3⟩:=iZ (Q.1 j D);have⟨S,A,_⟩:=Ql g1;have r:B<=wr.heap.size:=Bf d a.1.size;have e:(l.take j).length=j:=by rw[List.length_take];omega
   have e0:(Cd (l.take j) j 0 (Ak l j).ex).2=0:=by rw[wE,wF];exact Q.1 j D
   have p:=I (λdd os=>Fa (nI (l.take j) la N B 0 (by decide) (Ak l j).ex a2 s (grow (redrawn wr dd) os) (Bf r (bR wr dd os).size) (by rw[e];omega) (by rw[e];omega) (gC (HA.1.keep ((Ab a.1 (bR wr dd os)).mono d) (Is.keep ((Ab a.1 (bR wr dd os)).mono d))) j) HF.1 (E.1.keep ((bR wr dd os).mono r))));simp only[e,e0]at p;subst a5;have⟨kx,T⟩:=C_ ((Cd (l.take j) j 0 (Ak l j).ex).1);rw[<-T]at p;have F:=I (aI S (aI A g2));clear R k x T e0 g1 g2 g3 S A e;go_wp2_with fail;have r1:=cR c1;have r2:=cR c2;have r3:=cR c3;have r4:=cR c4;refine SY ?_;repeat go_big_quiet_step (with_reducible exact p.1 _ _)
   refine wpQuiet_nil ?_;intro _ G;obtain⟨⟨f,c⟩,m⟩:=G;subst m;have H:=I (Sh Y.1 a.1 (bR wr f c));have h:=fE a (bR wr f c);have C:=I (E.1.keep ((bR wr f c).mono r));have z1:=zj c1 g (bR wr f c);have z2:=zj c2 g (bR wr f c);have z3:=zj c3 g (bR wr f c);have z4:=zj c4 g (bR wr f c);have U:b<(grow (redrawn wr f) c).heap.size:=As g (bR wr f c).size;clear r1 r2 r3 r4 p c1 c2 c3 c4 g r Y a E;generalize grow (redrawn wr f) c=q at*;obtain⟨va,vc,rfl,V⟩:=zW.of_own H.1;have Z:=I V;rw[Uf] at*;have K:B<=q.heap.size:=Bf d h.1.size;have p:=I (λdd os=>Fa (LT B l j (by omega) (some (aD b a4)) N va vc (Ak l j).ex a2 s (grow (redrawn q dd) os) (Bf K (bR q dd os).size) HF.1 F.1.1 F.1.2.1 (C.1.keep ((bR q dd os).mono K)) F.1.2.2 (Z.1.below (bR q dd os)) (gC (HA.1.keep ((Ab h.1 (bR q dd os)).mono d) (Is.keep ((Ab h.1 (bR q dd os)).mono d))) j)));rw[<-qJ]at p;clear V;go_wp2_with fail;have r1:=cR z1;have r2:=cR z2;have r3:=cR z3;have r4:=cR z4;refine SY ?_;repeat go_big_quiet_step (with_reducible exact p.1 _ _)
   refine wpQuiet_nil ?_;intro _ G;obtain⟨⟨f,c⟩,m⟩:=G;subst m;have L:=fE h (bR q f c);have M:=I (Sh H.1 h.1 (bR q f c));clear r1 r2 r3 r4 p z1 z2 z3 z4 U K H h Z C;generalize grow (redrawn q f) c=W3 at*;have⟨y,hy⟩:=aT (Dm l j);rw[<-hy];have a6:=I (show Es l (j+1)=Es l j++ [y] by rw[Es,hy];rfl);clear hy;go_wp2_with (at_builtin;refine wpList_append_own _ rfl _ _ 22 rfl w.heap.size 3 i0 (Bn 0) 1 8 underlying22 hi a0 a1 a3 rfl (by decide) _ _ _ rfl (M.1.alloc _) (aD W3.heap.size 0) 1 1 [Bn y] rfl rfl ?c1 ?c2 ?c3 ?c4 ?c5 ?_)
   case c1=>exact Hh W3 [Bn y] 3
   case c2=>intro u hu;simp at hu;subst hu;rfl
   case c3=>unfold maxLen;omega
   case c4=>omega
   case c5=>have:=L.1.size;simp;omega
   intro v' w4 n o _;have W:=I (Ld (e':=3) L.1 rfl M.1 o);have X:=I (show w4.ownsRow w.heap.size 3 1 v' (Es l (j+1)).length ((Es l (j+1)).map (Value.int .i64)) by
    rw[a6.1,Gh,Ii,Uf];exact n)
   clear n o M L;go_wp2;go_roundw;(try((repeat apply eX);refine⟨?_,rfl⟩));exact⟨j+1,_,by omega,by go_num,rfl,X,W⟩;simp[intOf];omega
 obtain rfl:j=l.length:=by omega
 obtain⟨va,vc,rfl,V⟩:=zW.of_own Y.1;have Z:=I V;clear V Y;rw[Uf];go_wp2;go_ret;exact⟨va,vc,rfl,Z.1,a.1⟩
theorem zW.new(w:Wd)(l:LI)(e:TypeId):zW (w.alloc (.cells (l.map (Value.int .i64)).toArray e)) (some (aD w.heap.size 0)) l:=by
 refine .inr ⟨w.heap.size,0,rfl,by rw[zr];omega,λi hi=>?_⟩;rw[World.cell?_alloc_at _ _ _ _ rfl];simp[Am,hi]
theorem QG(s:DV)(f:Ft)(h:Ao s.kinds f.ty=false):Mj f s=⟨s.legs+1,s.heads,s.blk+f.ar-f.dp,s.lng,s.sht,s.kinds++ [f.ty]⟩:=by
 grind[Mj]
theorem QE(s:DV)(f:Ft)(h:Ao s.kinds f.ty=true):Mj f s=⟨s.legs+1,s.heads,s.blk+f.ar-f.dp,s.lng,s.sht,s.kinds⟩:=by
 grind[Mj]
theorem Xz(a b:Int):max a b=mx a b:=by grind[mx]
theorem Ya(a b:Int):min a b=mn a b:=by grind[mn]
theorem iV(t:At)(c:Ad)(za:Ae)(zc:Nat)(aa:Ae)(ac:Nat)(fa:Ae)(fc:Nat)(p:Bd)(w:Wd)(hT:zY t=0)(hC:Ax c=0)(hz:Al Nc w za t.zn)(ha:Al Mk w aa t.ai)(hf:Al Hi w fa t.fs)(d:Ai)(da:Ae)(dc:Nat)(a6:Cc t c d=0)(hd:Al Ei w da d):
 Calls prog 255 #[Az t za zc aa ac fa fc,Ay c p,.slice da d.length dc] w (Tu w (zk 1) (Bo t c d)):=by
 try delta Ay Az
 obtain⟨d2,d3,d4,d5⟩:=Jl a6;obtain⟨l1,l2,d6,_⟩:=Ka a6;have Y:=(On hT).2.2;have HF:=I hf;have HD:=I hd;obtain⟨b,a,rfl,V,d7⟩:=Qg hf (by omega);obtain⟨b2,r,rfl,S,b0⟩:=Ok hd (by omega);have HZ:=I hz;have HA:=I ha;have G:=I hT;have HC:=I hC;have HE:=I a6;have d8:=I d7;have Z:=I b0;have H3:=I d6;have HM:=I (aI d2 d4);obtain⟨i0,hi,i7,i8,i9⟩:=info_parts yO;clear hf hd hz ha hT hC a6 d7 b0 d6 d2 d4;go_in;go_wp2_with fail;have HB:=I (Ab (J w (Ap t za zc aa ac (some (aD b a)) fc)) (J _ (Aj c p)));have QT:=I (zd (o':=(Aj c p)) (zh w (Ap t za zc aa ac (some (aD b a)) fc)));have QC:=I (zh (w.alloc (Ap t za zc aa ac (some (aD b a)) fc)) (Aj c p));rw[zr]at QC;obtain⟨cb,b7⟩:=aT (w.heap.size+1);rw[<-b7]at QC;simp only[<-b7];clear b7;generalize (w.alloc (Ap t za zc aa ac (some (aD b a)) fc)).alloc (Aj c p)=W at*;go_loopw [7,8,9,10,11,12,13] (λx7 x8 x9 x10 x11 x12 x13 wr=>∃(k:Nat) (v:Value),k<=d.length/\x7=Bn (By t d k).legs/\x8=Bn (By t d k).heads/\x9=Bn (By t d k).blk/\x10=Bn (By t d k).lng/\x11=Bn (By t d k).sht/\v=x12/\x13=Bn k/\Af (wr.ownsRow W.heap.size 9 1 v (By t d k).kinds.length ((By t d k).kinds.map Value.string))/\Af (Bw W wr)) (λ_ _ _ _ _ _ x13 _=>d.length-(intOf x13).toNat);exact⟨0,_,Bg _,rfl,rfl,rfl,rfl,rfl,rfl,rfl,I (World.ownsRow_nil _ _ _ _),I (An _ _)⟩;obtain⟨k,v,hk,rfl,rfl,rfl,rfl,rfl,rfl,rfl,hO,F⟩:=hrel;by_cases a0:k<d.length
 . obtain⟨m,hm,j0⟩:=Qh (H3.1 k a0);obtain⟨⟨p0,p1,p2,p3,p4,p5,p6,p7,p8⟩,_⟩:=d8.1 m j0;have t0:=(Z.1 k a0).1;have t1:=(Z.1 k a0).2;rw[hm]at t0;obtain⟨s,hs⟩:=aT (By t d k);simp only[<-hs]at hO ⊢;have d9:=Qv.to G.1 HC.1 HE.1 k hk;rw[<-hs]at d9;obtain⟨l3,l4,l5,l6,l7,l8,l9,m0,m1,m2,m3⟩:=d9;have m4:k<6:=by omega
   obtain⟨q0,q1,q2,q3⟩:=bM G.1 HE.1 a0;have hF:Aa t.fs m=Ey t d k:=by unfold Ey;rw[hm];rfl
   rw[hF]at p0 p1 p2 p3 p4 p5 p6 p7 p8;have b8:=I hs;have Hm:=I hm;obtain⟨f,hf⟩:=aT (Ey t d k);rw[<-hf]at p0 p1 p2 p3 p4 p5 p6 p7 p8 q0 q1 q2 q3;have Hf:=I hf;clear hs hm hf hF;go_wp2_with fail;have N:=I F.1.drew;have b9:Af (wr.drew.ownsRow W.heap.size 9 1 v s.kinds.length (s.kinds.map Value.string)):=hO;have q:=fE HB N.1;have x2:wr.drew.cell? (aD w.heap.size 2)=some (Kx b a t.fs.length fc):=zm (j:=2) (Ac N.1 QT.1) rfl;have f9:w.heap.size<wr.drew.heap.size:=Ag (Ac N.1 QT.1);have D:=As V q.1.size;have b1:=As S q.1.size;have z:wr.drew.cell? (aD w.heap.size 2)=some (Kx b a t.fs.length fc)/\wr.drew.cell? (aD b2 (r+k*2))=some (Bn (m:Int))/\wr.drew.cell? (aD b (a+m*9))=some (.string f.num)/\wr.drew.cell? (aD b (a+m*9+1))=some (.string f.fq)/\wr.drew.cell? (aD b (a+m*9+2))=some (.string f.to)/\wr.drew.cell? (aD b (a+m*9+3))=some (Bn f.dp)/\wr.drew.cell? (aD b (a+m*9+4))=some (Bn f.ar)/\wr.drew.cell? (aD b (a+m*9+5))=some (.string f.ty)/\wr.drew.cell? (aD b (a+m*9+6))=some (Bn f.n0)/\wr.drew.cell? (aD b (a+m*9+7))=some (Bn f.n1)/\wr.drew.cell? (aD b (a+m*9+8))=some (Bn f.n2):=⟨x2,zD t0 S q.1,zD p0 V q.1,zD p1 V q.1,zD p2 V q.1,zD p3 V q.1,zD p4 V q.1,zD p5 V q.1,zD p6 V q.1,zD p7 V q.1,zD p8 V q.1⟩;obtain⟨A,c6⟩:∃A,wr.drew=A:=⟨_,rfl⟩;rw[c6]at N b9 z f9 D b1;clear hO F x2 q;refine Ys (λw'=>w'.cell? (aD w.heap.size 2)=some (Kx b a t.fs.length fc)/\w'.cell? (aD b2 (r+k*2))=some (Bn (m:Int))/\w'.cell? (aD b (a+m*9))=some (.string f.num)/\w'.cell? (aD b (a+m*9+1))=some (.string f.fq)/\w'.cell? (aD b (a+m*9+2))=some (.string f.to)/\w'.cell? (aD b (a+m*9+3))=some (Bn f.dp)/\w'.cell? (aD b (a+m*9+4))=some (Bn f.ar)/\w'.cell? (aD b (a+m*9+5))=some (.string f.ty)/\w'.cell? (aD b (a+m*9+6))=some (Bn f.n0)/\w'.cell? (aD b (a+m*9+7))=some (Bn f.n1)/\w'.cell? (aD b (a+m*9+8))=some (Bn f.n2)) [10] (by kernel_rfl) c6 ?_;clear c6;refine CG (i:=0) (v:=Ua w.heap.size 2) rfl z ?_;try simp only[O]
   refine CG (i:=1) (v:=Kx b a t.fs.length fc) rfl z ?_;try simp only[O]
   refine CG (i:=2) (v:=Kx b2 r d.length dc) rfl z ?_;try simp only[O]
   refine CG (i:=3) (v:=Bn (k:Int)) rfl z ?_;try simp only[O]
   refine CG (i:=4) (v:=Ua b2 (r+k*2)) rfl z ?_;try simp only[O]
   refine CG (i:=5) (v:=Ua b2 (r+k*2)) rfl z ?_;try simp only[O]
   refine CG (i:=6) (v:=Bn (m:Int)) rfl z ?_;try simp only[O]
   refine CG (i:=7) (v:=Ua b (a+m*9)) rfl z ?_;try simp only[O]
   refine CG (i:=8) (v:=.agg #[.string f.num,.string f.fq,.string f.to,f.dp,f.ar,.string f.ty,f.n0,f.n1,f.n2]) rfl z ?_;try simp only[O]
   refine QY (i:=9) rfl λK hK=>?_;go_simp;refine hK.1 _ _ (λ_ h=>⟨zD h.1 f9 (J A jB),zD h.2.1 b1 (J A jB),zD h.2.2.1 D (J A jB),zD h.2.2.2.1 D (J A jB),zD h.2.2.2.2.1 D (J A jB),zD h.2.2.2.2.2.1 D (J A jB),zD h.2.2.2.2.2.2.1 D (J A jB),zD h.2.2.2.2.2.2.2.1 D (J A jB),zD h.2.2.2.2.2.2.2.2.1 D (J A jB),zD h.2.2.2.2.2.2.2.2.2.1 D (J A jB),zD h.2.2.2.2.2.2.2.2.2.2 D (J A jB)⟩) ?_;clear hK K z;try simp only[O]
   have C:=I (zh A jB);have h0:=fE N (J A jB);have B8:=J A jB;have E:W.heap.size<=A.heap.size:=N.1.size;have n:=Bv A.heap.size;obtain⟨l,a1⟩:=aT A.heap.size;rw[<-a1]at C E;have n:A.heap.size<=l:=by omega
   simp only[<-a1];clear a1;generalize A.alloc jB=T at*;have z0:=zw C.1;have f0:=CH C.1;have z1:=zu C.1;have z2:=zC C.1;have z3:=Hk C.1;have z4:=Ks C.1;have z5:=Lg C.1;have z6:=Mf C.1;have z7:=Ic C.1;have z8:=Jg C.1;have j1:=Ag C.1;refine QY (i:=10) rfl λK hK=>?_;go_simp;refine hK.1 _ _ (λh _=>aB (by decide:(10:Nat)∈ [10]) h) ?_;clear hK K z0 f0 z1 z2 z3 z4 z5 z6 z7 z8 j1;try simp only[O]
   refine zM (by kernel_rfl) ?_;have Q0:=C.1;have Q9:=Yn (.string f.num) (.string f.fq) (.string f.to) (Bn f.dp) (Bn f.ar) (.string f.ty) (Bn f.n0) (Bn f.n1) (Bn f.n2) Q0;have h1:Bw W (((((((((T.setCell (aD l 0) (.string f.num)).setCell (aD l 1) (.string f.fq)).setCell (aD l 2) (.string f.to)).setCell (aD l 3) (Bn f.dp)).setCell (aD l 4) (Bn f.ar)).setCell (aD l 5) (.string f.ty)).setCell (aD l 6) (Bn f.n0)).setCell (aD l 7) (Bn f.n1)).setCell (aD l 8) (Bn f.n2)):=(((((((((h0.1.setCell E _).setCell E _).setCell E _).setCell E _).setCell E _).setCell E _).setCell E _).setCell E _).setCell E _);have B9:Bw A (((((((((T.setCell (aD l 0) (.string f.num)).setCell (aD l 1) (.string f.fq)).setCell (aD l 2) (.string f.to)).setCell (aD l 3) (Bn f.dp)).setCell (aD l 4) (Bn f.ar)).setCell (aD l 5) (.string f.ty)).setCell (aD l 6) (Bn f.n0)).setCell (aD l 7) (Bn f.n1)).setCell (aD l 8) (Bn f.n2)):=(((((((((B8.setCell n _).setCell n _).setCell n _).setCell n _).setCell n _).setCell n _).setCell n _).setCell n _).setCell n _);have HX:=I h1;have OX:=I (Sk b9.1 B9);have QX:=I Q9;clear Q0 Q9 h1 B9 B8 h0 b9 C;generalize (((((((((T.setCell (aD l 0) (.string f.num)).setCell (aD l 1) (.string f.fq)).setCell (aD l 2) (.string f.to)).setCell (aD l 3) (Bn f.dp)).setCell (aD l 4) (Bn f.ar)).setCell (aD l 5) (.string f.ty)).setCell (aD l 6) (Bn f.n0)).setCell (aD l 7) (Bn f.n1)).setCell (aD l 8) (Bn f.n2))=X at*;clear T N;go_upto_if 39 with(fail);go_cut [10,11] (λx10 x11 wx=>∃P Q:Int,x10=Bn P/\x11=Bn Q/\Af (Ta t d k s=⟨s.legs,s.heads,s.blk,P,Q,s.kinds⟩)/\Af (Bw W wx)/\Af (wx.ownsRow W.heap.size 9 1 v s.kinds.length (s.kinds.map Value.string))/\Af (wx.heap[l]?=some (oW f)))
   case first=>
    rcases Nat.eq_zero_or_pos k with U|U
    . have dk:decide (0<k)=false:=by simp;omega
      have HG:=I (show Ta t d k s=⟨s.legs,s.heads,s.blk,s.lng,s.sht,s.kinds⟩ from iN (by omega));clear U;rw[dk];go_wp2;go_meet;exact⟨_,_,rfl,rfl,HG,HX,OX,QX⟩
    have dk:decide (0<k)=true:=by simpa using U
    have HG:=I (show Ta t d k s=⟨s.legs,s.heads,s.blk,(mx s.lng (f.dp-(Ey t d (k-1)).ar)),(mn s.sht (f.dp-(Ey t d (k-1)).ar)),s.kinds⟩ by rw[Ta,iP U,<-Hf.1];rfl);have c7:k-1<d.length:=by omega
    obtain⟨m',c8,h2⟩:=Qh (H3.1 (k-1) c7);have h3:Aa t.fs m'=(Ey t d (k-1)):=by unfold Ey;rw[c8];rfl
    obtain⟨⟨-,-,-,-,c9,-⟩,-⟩:=d8.1 m' h2;rw[h3]at c9;obtain⟨z0,z1⟩:=kM HC.1 HE.1 a0 U;rw[<-Hf.1]at z0 z1;have a7:=fE HB HX.1;have c0:=(Z.1 (k-1) c7).1;rw[c8]at c0;have c0:=zD c0 S a7.1;have c4:=zD c9 V a7.1;have x2:X.cell? (aD w.heap.size 2)=some (Kx b a t.fs.length fc):=zm (j:=2) (Ac HX.1 QT.1) rfl;have xl:=Ag (Ac HX.1 QT.1);have h4:=As S a7.1.size;have j2:=As V a7.1.size;have n3:=Hk QX.1;have nl:=Ag QX.1;have j3:(0:Int)<=(k:Int)-1:=by omega
    have j4:(k:Int)-1<(d.length:Int):=by omega
    have e1:IntKind.i64.wrap ((k:Int)-1)=(k:Int)-1:=by rw[wI];omega
    have e2:((k:Int)-1).toNat=k-1:=by omega
    have e3:IntKind.i64.wrap (f.dp-(Ey t d (k-1)).ar)=(f.dp-(Ey t d (k-1)).ar):=by rw[wI];omega
    clear c8 h3 c9 c7 U;rw[dk];go_wp2;go_quiet (fail);clear x2 xl h4 j2 n3 nl j3 j4 e1 e2 e3 c0 c4;go_wp2;go_meet;have HY:=dr X nq;exact⟨mx s.lng (f.dp-(Ey t d (k-1)).ar),mn s.sht (f.dp-(Ey t d (k-1)).ar),by rw[Xz],by rw[Ya],HG,fE HX HY,I (Sk OX.1 HY),fO QX HY⟩
   clear HX OX QX;obtain⟨P,Q,rfl,rfl,HG,a8,OB,QB⟩:=hcut;have d0:=fE HB a8.1;have c1:=zD t1 S d0.1;have h5:=As S d0.1.size;cases hh:(Cm d k).2
   . rw[hh]at c1;have HH:=I hh;clear hh;have n3:=Hk QB.1;have n4:=Ks QB.1;have nl:=Ag QB.1;have j5:IntKind.i64.wrap (s.blk+f.ar)=s.blk+f.ar:=by rw[wI];omega
     have j6:IntKind.i64.wrap (s.blk+f.ar-f.dp)=s.blk+f.ar-f.dp:=by rw[wI];omega
     have j7:IntKind.i64.wrap (s.legs+1)=s.legs+1:=by rw[wI];omega
     go_wp2;go_quiet (fail);obtain⟨ka,kc,rfl,R⟩:=iR OB.1;have b3:=I R;clear R n3 n4 nl j5 j6 j7 c1 h5;go_wp2_with fail;go_loopw [16,17] (λx y w4=>∃j:Nat,j<=s.kinds.length/\x=.bool (Ao (s.kinds.take j) f.ty)/\y=Bn j/\Af (Bw wc w4)) (λ_ y _=>s.kinds.length-(intOf y).toNat);exact⟨0,Bg _,rfl,rfl,I (dr _ _)⟩;obtain⟨j,hj,rfl,rfl,B⟩:=hrel;by_cases a2:j<s.kinds.length
     . obtain⟨b4,k9,rfl,h6,h7⟩:=b3.1.cells (by omega);have k0:=zD (h7 j a2) h6 B.1;have l0:=As h6 B.1.size;have n5:=D_ (Ac B.1 QB.1);have nl:=Ag (Ac B.1 QB.1);clear h7;cases e1:(Ao (s.kinds.take j) f.ty)
       . cases e2:((Bl s.kinds j).toList==f.ty.toList)
         . go_wp2;go_quiet (fail);go_wp2;go_roundw;exact⟨j+1,by omega,by rw[mW s.kinds j a2 f.ty,e1,show((s.kinds.getD j ByteArray.empty).toList==f.ty.toList)=false from e2];rfl,by go_num,fE B (dr _ _)⟩;simp[intOf];omega
         go_wp2;go_quiet (fail);go_wp2;go_roundw;exact⟨j+1,by omega,by rw[mW s.kinds j a2 f.ty,e1,show((s.kinds.getD j ByteArray.empty).toList==f.ty.toList)=true from e2];rfl,by go_num,fE B (dr _ _)⟩;simp[intOf];omega
       go_wp2;go_quiet (fail);go_wp2;go_roundw;exact⟨j+1,by omega,by rw[mW s.kinds j a2 f.ty,e1];rfl,by go_num,fE B (dr _ _)⟩;simp[intOf];omega
     obtain rfl:j=s.kinds.length:=by omega
     rw[List.take_length];have L:=fE a8 B.1;have O5:=I (Sk OB.1 B.1);have Q5:=fO QB B.1;clear B b3 a2 hj OB QB a8 d0;cases a9:(Ao s.kinds f.ty)
     . have HK:=I a9;clear a9;have n5:=D_ Q5.1;have nl:=Ag Q5.1;have g:=I (show By t d (k+1)=⟨(s.legs+1),s.heads,(s.blk+f.ar-f.dp),P,Q,(s.kinds++ [f.ty])⟩ by rw[mS,<-b8.1,HG.1,Jv];rw[iN (by rw[HH.1];decide),<-Hf.1];exact QG _ _ HK.1);go_wp2_with (at_builtin;refine wpList_append_own _ rfl _ _ 36 rfl W.heap.size 9 i0 (.string ByteArray.empty) 1 16 underlying36 hi i7 i8 i9 rfl (by decide) _ _ _ rfl (O5.1.alloc _) (aD wr.heap.size 0) 1 1 [.string f.ty] rfl rfl ?c1 ?c2 ?c3 ?c4 ?c5 ?_)
       case c1=>exact Hh wr [.string f.ty] 9
       case c2=>intro u hu;simp at hu;subst hu;rfl
       case c3=>unfold maxLen;omega
       case c4=>omega
       case c5=>have:=L.1.size;simp;omega
       intro v' WX a3 a4 _;have j8:=I ((L.1.alloc L.1.size _).grown a4 (by have:=L.1.size;simp;omega) (λj hj=>Lt O5.1 j hj));have OX:=I (show WX.ownsRow W.heap.size 9 1 v' (s.kinds++ [f.ty]).length ((s.kinds++ [f.ty]).map Value.string) by rw[Gh,Ii];exact a3);clear a3 a4 n5 nl O5 Q5 L;go_wp2;go_roundw;exact⟨k+1,_,by omega,by rw[g.1],by rw[g.1],by rw[g.1],by rw[g.1],by rw[g.1],rfl,by go_num,I (by rw[g.1];exact OX.1),j8⟩;simp[intOf];omega
     have HK:=I a9;clear a9;have g:=I (show By t d (k+1)=⟨(s.legs+1),s.heads,(s.blk+f.ar-f.dp),P,Q,s.kinds⟩ by rw[mS,<-b8.1,HG.1,Jv];rw[iN (by rw[HH.1];decide),<-Hf.1];exact QE _ _ HK.1);go_wp2;go_roundw;exact⟨k+1,_,by omega,by rw[g.1],by rw[g.1],by rw[g.1],by rw[g.1],by rw[g.1],rfl,by go_num,I (by rw[g.1];exact O5.1),L⟩;simp[intOf];omega
   rw[hh]at c1;have HH:=I hh;clear hh;have g:=I (show By t d (k+1)=⟨s.legs,(s.heads+1),s.blk,P,Q,s.kinds⟩ by rw[mS,<-b8.1,HG.1,Jv];rw[iP HH.1];rfl);go_wp2;go_roundw;exact⟨k+1,_,by omega,by rw[g.1],by rw[g.1],by rw[g.1],by rw[g.1],by rw[g.1],rfl,by go_num,I (by rw[g.1];exact OB.1),a8⟩;simp[intOf];omega
 obtain rfl:k=d.length:=by omega
 obtain⟨ka,kc,rfl,R⟩:=iR hO.1;have HW:=fE HB F.1;have qt:=Ac F.1 QT.1;have M:=Ac F.1 QC.1;have x0:=zw qt;have x1:=zu qt;have x2:wr.cell? (aD w.heap.size 2)=some (Kx b a t.fs.length fc):=zm (j:=2) qt rfl;have y0:=zw M;have y1:=zu M;have y2:=zC M;have y3:=Hk M;have y4:=Ks M;have y5:=Lg M;have y6:=Mf M;have y7:=Ic M;have y8:=Jg M;have y9:=Mg M;have h8:=Ol M;have h9:=Qk M;have i1:=Qj M;have i2:=Ui M;have xl:=Ag qt;have yl:=Ag M;have C1:=I (λdd os=>Fa (iU t za zc aa ac (some (aD b a)) fc (grow (redrawn wr dd) os) (HF.1.below (Ab HW.1 (bR wr dd os))) Y d (some (aD b2 r)) dc ⟨by omega,by omega⟩ (HD.1.below (Ab HW.1 (bR wr dd os))) (fstN d) HM.1.1 d3));have C2:=I (λdd os=>Fa (eW t za zc aa ac (some (aD b a)) fc (grow (redrawn wr dd) os) (HF.1.below (Ab HW.1 (bR wr dd os))) Y d (some (aD b2 r)) dc ⟨by omega,by omega⟩ (HD.1.below (Ab HW.1 (bR wr dd os))) (lstN d) HM.1.2 d5));have C3:=I (λdd os=>Fa (Vy t c za zc aa ac (some (aD b a)) fc p (grow (redrawn wr dd) os) G.1 HC.1 (HF.1.below (Ab HW.1 (bR wr dd os))) d (some (aD b2 r)) dc HE.1 (HD.1.below (Ab HW.1 (bR wr dd os)))));have C4:=I (λdd os=>Fa (PD t c za zc aa ac (some (aD b a)) fc p (grow (redrawn wr dd) os) G.1 (HZ.1.below (Ab HW.1 (bR wr dd os))) (HA.1.below (Ab HW.1 (bR wr dd os))) (Aa t.fs (fstN d)).fq (Aa t.fs (lstN d)).to (eO G.1 d3).1 (eO G.1 d5).2 (Bm t c d).1 (Bm t c d).2 (yT G.1 HC.1 HE.1)));rw[UY G.1 HC.1 HE.1]at C4;have j9:∀w:Wd,(Instr.field 122 (.agg #[.string (Aa t.fs (fstN d)).num,.string (Aa t.fs (fstN d)).fq,.string (Aa t.fs (fstN d)).to,(Aa t.fs (fstN d)).dp,(Aa t.fs (fstN d)).ar,.string (Aa t.fs (fstN d)).ty,(Aa t.fs (fstN d)).n0,(Aa t.fs (fstN d)).n1,(Aa t.fs (fstN d)).n2]) 1).run prog w=.ok (.string (Aa t.fs (fstN d)).fq) w:=λ_=>by kernel_rfl
 have k1:∀w:Wd,(Instr.field 122 (.agg #[.string (Aa t.fs (lstN d)).num,.string (Aa t.fs (lstN d)).fq,.string (Aa t.fs (lstN d)).to,(Aa t.fs (lstN d)).dp,(Aa t.fs (lstN d)).ar,.string (Aa t.fs (lstN d)).ty,(Aa t.fs (lstN d)).n0,(Aa t.fs (lstN d)).n1,(Aa t.fs (lstN d)).n2]) 2).run prog w=.ok (.string (Aa t.fs (lstN d)).to) w:=λ_=>by kernel_rfl
 clear qt M R hO;go_wp2_with fail;have r0:=cR x0;have r1:=cR x1;have r2:=cR x2;have s0:=cR y0;have s1:=cR y1;have s2:=cR y2;have s3:=cR y3;have s4:=cR y4;have s5:=cR y5;have s6:=cR y6;have s7:=cR y7;have s8:=cR y8;have s9:=cR y9;have k2:=cR h8;have k3:=cR h9;have k4:=cR i1;have k5:=cR i2;refine SY ?_;repeat (first|go_big_quiet_step (with_reducible first|exact C1.1 _ _|exact C2.1 _ _|exact C3.1 _ _|exact C4.1 _ _)|quiet_step (with_reducible first|exact C1.1 _ _|exact C2.1 _ _|exact C3.1 _ _|exact C4.1 _ _))
 refine wpQuiet_nil ?_;intro _ k6;obtain⟨⟨dq,i3⟩,i4⟩:=k6;subst i4;have i5:=fE HW (bR wr dq i3);clear r0 r1 r2 s0 s1 s2 s3 s4 s5 s6 s7 s8 s9 k2 k3 k4 k5 C1 C2 C3 C4 x0 x1 x2 y0 y1 y2 y3 y4 y5 y6 y7 y8 y9 h8 h9 i1 i2 xl yl F j9 k1 HW;generalize grow (redrawn wr dq) i3=W3 at*;go_wp2_with fail;have d1:=I (Ab i5.1 (J W3 (.cells ((Bo t c d).map (Value.int .i64)).toArray 3)));refine(qO 1 (by decide) (by decide) (Bo t c d) (some (aD W3.heap.size 0)) 11 (W3.alloc (.cells ((Bo t c d).map (Value.int .i64)).toArray 3)) rfl (zW.new W3 (Bo t c d) 3)).mono ?_;rintro e w5 ⟨vr,b5,rfl,a5,b6,i6⟩;have L:=fE d1 i6;have k7:=I b6;have k8:w.heap.size<=b5:=Bf d1.1.size a5;clear i6 b6 a5 d1 i5;go_wp2;go_ret;exact⟨vr,b5,rfl,k8,k7.1,L.1⟩
def Pn(t:At)(c:Ad)(d:Ai):List (BA×Int):=if Bk t c d=0 then(zk 1).zip (Bo t c d) else []
def Zu(w:Wd)(L:List (BA×Int))(er:Int)(e:Ending)(w':Wd):Prop:=∃a cap,e=.returned (.tuple #[.slice a L.length cap,er])/\Jk w' a L/\Below w.heap.size w w'
def Uj{t:At}{c:Ad}{d:Ai}(h:Bk t c d=0):Pn t c d=(zk 1).zip (Bo t c d):=iP h
def nT{t:At}{c:Ad}{d:Ai}(h:Bk t c d≠0):Pn t c d= []:=iN h
theorem Rf(h:q.length=N.length):(N.zip q).length=q.length:=by simp_all
def gU.list{t:At}{c:Ad}{d:Ai}{e:Ending}(h:gU w (zk 1) (Bo t c d) (Bk t c d) e w'):Zu w (Pn t c d) (Bk t c d) e w':=by
 obtain⟨h,f⟩:=h;rcases h with⟨a,rfl⟩|⟨b,a,rfl,g,i⟩;exact⟨none,0,by rw[nT a];rfl,.inl (nT a),f⟩;exact⟨_,_,by rw[Uj a,Rf g,a],by rw[Uj a];exact i.at g,f⟩
def Wa{c:Value}{b:Int}(d:v=c)(h:a=b):Ending.returned (.tuple #[v,a])=.returned (.tuple #[c,b]):=by rw[h,d]
def fZ(t:At)(c:Ad)(i:Ae)(g:Nat)(j:Ae)(ac:Nat)(fa:Ae)(fc:Nat)(p:Bd)(w:Wd)(o:(t.zn.length<=g/\g<=2^47/\t.ai.length<=ac/\ac<=2^47))(C:c.cs.length<=p.cc/\p.cc<=9223372036854775807)(q:Ea w t c i j fa p)(d:Ai)(x:Ae)(D:Nat)(E:d.length<=2^47)(hd:Al Ei w x d):
 Calls prog 208 #[Az t i g j ac fa fc,Ay c p,CU x d.length D] w (Zu w (Pn t c d) (Bk t c d)):=by
 try delta Ay Az
 have y:=I q;have L:=I hd;clear q hd;go_in;go_wp2_with fail;have A:=I (Ab (J w (Ap t i g j ac fa fc)) (J _ (Aj c p)));have M:=I (zd (o':=(Aj c p)) (zh w (Ap t i g j ac fa fc)));have B:=I (zh (w.alloc (Ap t i g j ac fa fc)) (Aj c p));rw[zr]at B;have⟨N,m⟩:=aT (w.heap.size+1);rw[<-m]at B;simp only[<-m];clear m;generalize (w.alloc (Ap t i g j ac fa fc)).alloc (Aj c p)=W at*;refine ca (FI t c i g j ac fa fc p W o C (y.1.below A.1) d x D E (L.1.below A.1)) λU h=>?_;have b:=fE A h;have F:=fO M h;have G:=fO B h;clear h A M B;by_cases k:Bk t c d=0
 . have r:=I (Uj k);have V:=I k;have⟨P,Q,R⟩:=aR k;have S:=I (iV t c i g j ac fa fc p U P Q (y.1.below b.1).z (y.1.below b.1).a (y.1.below b.1).f d x D R (L.1.below b.1));clear P Q R;have⟨x0,x1,x2,xl⟩:=Ev F.1;have⟨y0,y1,y2,y3,y4,y5,y6,y7,y8,y9,X,Y,Z,a0,yl⟩:=Ek G.1;rw[k];clear k;go_wp2_with fail;refine S.1.mono ?_;rintro e w2 ⟨v,T,rfl,n,l,s⟩;have H:=fE b s;obtain⟨a2,c2,rfl,u⟩:=Jk.of_own l rfl;have K:=I u;clear s S l n u;go_wp2;go_ret2;exact⟨a2,c2,Wa (by rw[r.1,Rf rfl] <;> rfl) V.1.symm,by rw[r.1];exact K.1,H.1⟩
 have r:=I (nT k);have e1:=CN k
 clear k;go_wp2;go_ret2;exact⟨none,0,Wa (by rw[r.1];rfl) rfl,.inl r.1,b.1⟩
def Sf(V:List (Int×Int×BA))(i:Nat):Int×Int×BA:=V.getD i (0,0,ByteArray.empty)
def Us(w:Wd)(a:Ae)(V:List (Int×Int×BA)):Prop:=V= []\/∃b off,a=some (aD b off)/\b<w.heap.size/\∀i,i<V.length->w.cell? (aD b (off+i*3))=some (Bn (Sf V i).1)/\w.cell? (aD b (off+i*3+1))=some (Bn (Sf V i).2.1)/\w.cell? (aD b (off+i*3+2))=some (.string (Sf V i).2.2)
def Us.below{a:Ae}(h:Us w a V)(c:Bw w w'):Us w' a V:=by
 rcases h with h|⟨b,e,h,d,f⟩;exact .inl h;exact .inr ⟨b,e,h,As d c.size,λi hi=>⟨zj (f i hi).1 d c,zj (f i hi).2.1 d c,zj (f i hi).2.2 d c⟩⟩
def Us.cells{a:Ae}(h:Us w a V)(c:0<V.length):∃b off,a=some (aD b off)/\b<w.heap.size/\∀i,i<V.length->w.cell? (aD b (off+i*3))=some (Bn (Sf V i).1)/\w.cell? (aD b (off+i*3+1))=some (Bn (Sf V i).2.1)/\w.cell? (aD b (off+i*3+2))=some (B_ (Sf V i).2.2):=by
 rcases h with rfl|h;simp at c;exact h
theorem yY:∀(V:List (Int×Int×BA)) (i:Nat),i<V.length->(Je V)[i*3]?=some (Bn (Sf V i).1)/\(Je V)[i*3+1]?=some (Bn (Sf V i).2.1)/\(Je V)[i*3+2]?=some (B_ (Sf V i).2.2)
 |[],i,h=>by simp at h
 |x::V,0,_=>⟨rfl,rfl,rfl⟩
 |x::V,i+1,h=>by
  have a:=yY V i (by simpa using h);have e:Je (x::V)=Bn x.1::Bn x.2.1::.string x.2.2::Je V:=rfl;grind[Sf]
theorem Us.of_own(h:w.ownsRow b 69 3 v V.length (Je V)):∃a c,v=CU a V.length c/\Us w a V:=by
 rcases h.2 with⟨e,f⟩|⟨g,c,m,rfl,e,d,n,o,p,q⟩;exact⟨none,0,by rw[e,f],.inl (List.length_eq_zero_iff.1 f)⟩;refine⟨_,_,rfl,.inr ⟨g,0,rfl,Ag d,λi hi=>?_⟩⟩;have⟨j,k,l⟩:=yY V i hi;grind[zm]
def Ef(c:Ad)(k:Nat)(ix:Int)(q:LI)(j:Nat):List (Int×Int×BA):=(In c k q j).map λs=>((k:Int),ix,s)
theorem OF{c:Ad}{ix:Int}(a:(Ah c.rs j).sc=(k:Int))(b:Aw q (Eb c k (Ah c.rs j).ex)=0):Ef c k ix q (j+1)=Ef c k ix q j++ [((k:Int),ix,(Ah c.rs j).name)]:=by
 grind[Ef,yJ]
theorem KZ(c:Ad)(k:Nat)(ix:Int)(q:LI)(j:Nat):(Ef c k ix q j).length<=j:=by
 grind[Ef,yI]
def mF(w:Wd)(V:List (Int×Int×BA))(e:Ending)(w':Wd):Prop:=∃v base,e=.returned v/\w.heap.size<=base/\w'.ownsRow base 69 3 v V.length (Je V)/\Below w.heap.size w w'
def MX(c:Ad)(p:Bd)(B:Nat)(w:Wd)(s:B<=w.heap.size)(a0:c.cs.length<=p.cc/\p.cc<=9223372036854775807)(hC:Ax c=0)(hc:Kb B w c p)(k:Nat)(hk:k<4)(G:Int)(Q:G=(k:Int))(ix:Int)(q0 q:LI)(hQ:bZ k q0 q)(ta:Ae)(tc:Nat)(m:Nat)(hm:m=q0.length)(hA:Jk w ta ((zk k).zip q0)):
 Calls prog 136 #[Ay c p,G,ix,CU ta m tc] w (mF w (Ef c k ix q c.rs.length)):=by
 try delta Ay Az
 have⟨i0,hi,a1,a3,a4⟩:=info_parts QJ;have HC:=I hc;have HA:=I hA;have HQ:=I hQ;have a5:=I (oB hC);have a6:=I hC;have t:=I Q;have HM:=I hm;have⟨b4,b5,b6,b7⟩:=mT hC;clear hc hA hQ hC Q hm;go_in;go_wp2_with fail;have HB:=I (J w (Aj c p));have QC:=I (zh w (Aj c p));have⟨cb,H⟩:=aT w.heap.size;rw[<-H]at QC;simp only[<-H];clear H;generalize w.alloc (Aj c p)=W at*;refine(nO c.cs p.ca p.cc B W (Bf s HB.1.size) a0 (by omega) (HC.1.keep (HB.1.mono s)).cs a5.1).mono ?_;rintro e u ⟨va,vc,rfl,hI,K⟩;have g:=fE HB K;have f:=fO QC K;have HI:=I hI;have z:B<=u.heap.size:=Bf s g.1.size;have R:=I (HC.1.keep (g.1.mono s));have a7:=I (HA.1.below g.1);clear K HB QC hI HC HA;go_wp2_with fail;go_loopw [9,11] (λx y wr=>∃(j:Nat) (v:Value),j<=c.rs.length/\y=.int .i64 j/\v=x/\Af (wr.ownsRow u.heap.size 69 3 v (Ef c k ix q j).length (Je (Ef c k ix q j)))/\Af (Bw u wr)) (λ_ y _=>c.rs.length-(intOf y).toNat);exact⟨0,_,Bg _,rfl,rfl,I (World.ownsRow_nil _ _ _ _),I (An _ _)⟩;obtain⟨j,v,hj,rfl,rfl,hO,a⟩:=hrel;by_cases S:j<c.rs.length
 . have⟨b,a8,T,hb,U⟩:=(R.1.keep (a.1.mono z)).rs.cells (by omega);have⟨r0,r1,a9,b0,a2,d,⟨e0,e1,e2,e3⟩,E,i⟩:=U j S;have b1:b<wr.heap.size:=by have:=a.1.size;omega
   have y8:wr.cell? (aD cb 8)=some (CU (some (aD b a8)) c.rs.length p.rc):=by rw[<-T];exact EE 8 (Ac a.1 f.1) rfl
   have yl:=Ag (Ac a.1 f.1);have HF:=I E;have b2:=I i;clear U i E b0 a9 T;have BX:=J wr (oR (Ah c.rs j) a2 d);have A:=I (zh wr (oR (Ah c.rs j) a2 d));have C:=fE a BX;have OX:=I (Sk hO.1 BX);have b3:B<=wr.heap.size:=Bf z a.1.size;have V:=I (b2.1.keep (Below.mono BX b3));go_upto_region 7 with fail;clear y8 yl r0 r1 e0 e1 e2 e3 b1 BX;have⟨rb,L⟩:=aT wr.heap.size;rw[<-L]at A;simp only[<-L];clear L;generalize (wr.alloc (oR (Ah c.rs j) a2 d))=X at*;have n0:=zw A.1;have n1:=zu A.1;have nl:=Ag A.1;by_cases M:(Ah c.rs j).sc=(k:Int)
   . have es:((Ah c.rs j).sc==G)=true:=by rw[t.1];simpa using M
     have⟨g1,g2,g3⟩:=KY a6.1 hk HQ.1.ok S M;have n2:=zC A.1;have n3:=Hk A.1;have n4:=Ks A.1;have n5:=Lg A.1;have y7:=Ic (Ac C.1 f.1);have yl:=Ag (Ac C.1 f.1);have Y:B<=X.heap.size:=Bf z C.1.size;have CV:=I (oX B c.cs p.ca p.cc G k t.1 hk va vc q0 q HQ.1 ta tc m HM.1 (Ah c.rs j).ex a2 d X Y HF.1 g1 g2 V.1 g3 (HI.1.below C.1) (R.1.keep (C.1.mono z)).cs (a7.1.below C.1));have HS:=I M;clear g1 g2 g3 M;go_wp2_with fail;refine CV.1.mono ?_;rintro e w4 ⟨rfl,D⟩;have N:=fE C D;have O4:=I (Sk OX.1 D);have Q4:=fO A D;clear CV D n0 n1 n2 n3 n4 n5 nl y7 yl Y;have⟨Z,l⟩:=aT (Aw q (Bj (Ec c.cs c.cs.length) k (Ah c.rs j).ex));rw[<-l];by_cases P:Z=0
     . have n:=I (OF (ix:=ix) HS.1 (show Aw q (Eb c k (Ah c.rs j).ex)=0 from l.symm.trans P));have e0:(Z==0)=true:=by simpa using P
       have n1:=zu Q4.1;have nl:=Ag Q4.1;have b8:=KZ c k ix q j;clear P l;go_wp2_with (at_builtin;refine wpList_append_own _ rfl _ _ 65 rfl u.heap.size 69 i0 (.agg #[.int .i64 0,.int .i64 0,B_ ByteArray.empty]) 3 32 underlying65 hi a1 a3 a4 rfl (by decide) _ _ _ rfl (O4.1.alloc _) (aD w4.heap.size 0) 1 1 [.int .i64 G,.int .i64 ix,B_ (Ah c.rs j).name] rfl rfl ?c1 ?c2 ?c3 ?c4 ?c5 ?_)
       case c1=>exact Hh w4 [.int .i64 G,.int .i64 ix,B_ (Ah c.rs j).name] 69
       case c2=>intro x hx;simp at hx;rcases hx with rfl|rfl|rfl <;> rfl
       case c3=>unfold maxLen;omega
       case c4=>omega
       case c5=>have:=N.1.size;simp;omega
       intro v' w5 o r _;have H5:=I ((N.1.alloc N.1.size _).grown r (by have:=N.1.size;simp;omega) (λm hm'=>Lt O4.1 m hm'));have F:=I (show w5.ownsRow u.heap.size 69 3 v' (Ef c k ix q (j+1)).length (Je (Ef c k ix q (j+1))) by
        rw[n.1,Gh,Je,List.flatMap_append,<-t.1];exact o)
       clear o r;go_wp2;go_roundw;(try((repeat apply eX);refine⟨?_,rfl⟩));exact⟨j+1,_,by omega,by go_num,rfl,F,H5⟩;simp[intOf];omega
     have n:=I (show Ef c k ix q (j+1)=Ef c k ix q j by unfold Ef;rw[xP (show Aw q (Eb c k (Ah c.rs j).ex)≠0 from λh=>P (l.trans h))]);have e0:(Z==0)=false:=by simpa using P
     have F:=I (show w4.ownsRow u.heap.size 69 3 v (Ef c k ix q (j+1)).length (Je (Ef c k ix q (j+1))) by rw[n.1];exact O4.1);clear P l;go_wp2;go_roundw;(try((repeat apply eX);refine⟨?_,rfl⟩));exact⟨j+1,_,by omega,by go_num,rfl,F,N⟩;simp[intOf];omega
   have es:((Ah c.rs j).sc==G)=false:=by rw[t.1];simpa using M
   have n:=I (show Ef c k ix q (j+1)=Ef c k ix q j by unfold Ef;rw[AO M]);have F:=I (show X.ownsRow u.heap.size 69 3 v (Ef c k ix q (j+1)).length (Je (Ef c k ix q (j+1))) by rw[n.1];exact OX.1);clear M;go_wp2;go_roundw;(try((repeat apply eX);refine⟨?_,rfl⟩));exact⟨j+1,_,by omega,by go_num,rfl,F,C⟩;simp[intOf];omega
 obtain rfl:j=c.rs.length:=by omega
 have y8:=Jg (Ac a.1 f.1);have yl:=Ag (Ac a.1 f.1);go_wp2;go_ret;exact⟨v,u.heap.size,rfl,g.1.size,hO.1,Ab g.1 a.1⟩
def PP(c:Ad)(p:Bd)(B:Nat)(w:Wd)(g:B<=w.heap.size)(U:c.cs.length<=p.cc/\p.cc<=9223372036854775807)(P:Ax c=0)(hc:Kb B w c p)(k:Nat)(V:k<4)(z:Int)(A:z=(k:Int))(Q q:LI)(hQ:bZ k Q q)(X:Ae)(tc:Nat)(m:Nat)(hm:m=Q.length)(hA:Jk w X ((zk k).zip Q)):
 CV 137 #[Ay c p,z,CU X m tc] w (Gs c k q c.ks.length):=by
 try delta Ay Az
 have Y:=I hc;have HA:=I hA;have Z:=I hQ;have a0:=I (oB P);have C:=I P;have n:=I A;have HM:=I hm;have⟨a7,a8,a9,b0⟩:=mT P;clear hc hA hQ P A hm;delta CV;go_in;go_wp2_with fail;have R:=I (J w (Aj c p));have QC:=I (zh w (Aj c p));have⟨cb,o⟩:=aT w.heap.size;rw[<-o]at QC;simp only[<-o];clear o;generalize w.alloc (Aj c p)=W at*;refine(nO c.cs p.ca p.cc B W (Bf g R.1.size) U (by omega) (Y.1.keep (R.1.mono g)).cs a0.1).mono ?_;rintro e w1 ⟨va,vc,rfl,hI,r⟩;have h:=fE R r;have t:=fO QC r;have HI:=I hI;have u:B<=w1.heap.size:=Bf g h.1.size;have D:=I (Y.1.keep (h.1.mono g));have a1:=I (HA.1.below h.1);clear r R QC hI Y HA;go_wp2_with fail;go_loopw [7,9] (λx y wr=>∃(j:Nat) (s:Int),j<=c.ks.length/\y=Bn j/\x=Bn s/\Af (s=Gs c k q j)/\Af (Bw w1 wr)) (λ_ y _=>c.ks.length-(intOf y).toNat);exact⟨0,_,Bg _,rfl,rfl,I rfl,I (An _ _)⟩;obtain⟨j,s,hj,rfl,rfl,i,a⟩:=hrel;have y7:=Ic (Ac a.1 t.1);have y9:=Mg (Ac a.1 t.1);have yl:=Ag (Ac a.1 t.1);by_cases E:j<c.ks.length
 . have⟨b,b1,F,hb,G⟩:=(D.1.keep (a.1.mono u)).ks.cells (by omega);have⟨r0,a3,a2,H,⟨e0,e1,e2,e3⟩,l,d⟩:=G j E;have b2:b<wr.heap.size:=by have:=a.1.size;omega
   rw[F]at y9;have K:B<=wr.heap.size:=Bf u a.1.size;have HF:=I l;have a4:=I d;clear G d l F a3;by_cases v:(Aq c.ks j).sc=(k:Int)
   . have es:((Aq c.ks j).sc==z)=true:=by rw[n.1];simpa using v
     have⟨g1,g2,g3,g4⟩:=vU C.1 V Z.1.ok E v;have L:=AN C.1 V Z.1.ok j hj;rw[<-i.1]at L;have⟨y,S⟩:=aT (Aw q (Bj (Ec c.cs c.cs.length) k (Aq c.ks j).ex));have a5:wA y:=by rw[S];exact g4
     unfold wA at a5;have f:=I (show s+y=Gs c k q (j+1) by rw[pP v,<-i.1,S];rfl);have T:=I (λdd os=>Fa (oX B c.cs p.ca p.cc z k n.1 V va vc Q q Z.1 X tc m HM.1 (Aq c.ks j).ex a2 H (grow (redrawn wr dd) os) (Bf K (bR wr dd os).size) HF.1 g1 g2 (a4.1.keep ((bR wr dd os).mono K)) g3 (HI.1.below (Ab a.1 (bR wr dd os))) (D.1.keep ((Ab a.1 (bR wr dd os)).mono u)).cs (a1.1.below (Ab a.1 (bR wr dd os)))));rw[<-S]at T;have ew:IntKind.i64.wrap (s+y)=s+y:=by rw[wI];omega
     clear g1 g2 g3 g4 v S L;go_wp2_with fail;have t0:=cR y7;have t1:=cR y9;have t2:=cR e0;have t3:=cR e1;have t4:=cR e2;have t5:=cR e3;refine SY ?_;repeat go_big_quiet_step (with_reducible exact T.1 _ _)
     refine wpQuiet_nil ?_;intro _ a6;obtain⟨⟨dq,M⟩,N⟩:=a6;subst N;have H2:=fE a (bR wr dq M);clear T t0 t1 t2 t3 t4 t5 y7 y9 yl e0 e1 e2 e3 r0;generalize grow (redrawn wr dq) M=W2 at*;go_wp2;go_roundw;(try((repeat apply eX);refine⟨?_,rfl⟩));exact⟨j+1,_,by omega,by go_num,rfl,f,H2⟩;simp[intOf];omega
   have es:((Aq c.ks j).sc==z)=false:=by rw[n.1];simpa using v
   have f:=I (show s=Gs c k q (j+1) by rw[pS v];exact i.1);clear v;go_wp2;go_roundw;(try((repeat apply eX);refine⟨?_,rfl⟩));exact⟨j+1,_,by omega,by go_num,rfl,f,a⟩;simp[intOf];omega
 obtain rfl:j=c.ks.length:=by omega
 go_wp2;go_ret;exact⟨ze i.1,Ab h.1 a.1⟩
def SH:wi (zk 1) ⟨#[98,108,111,99,107]⟩=some 3:=by decide+kernel
def LO{c:Ad}(a:k<c.xs.length):Ci (Jf c) k=Bj (Ec c.cs c.cs.length) 1 (Au c.xs k):=by
 unfold Ci Jf Au;rw[Cr,List.getElem?_map,Cr,Cz a];rfl
def yH(c:Ad)(p:Bd)(B:Nat)(w:Wd)(N:B<=w.heap.size)(b0:c.cs.length<=p.cc/\p.cc<=9223372036854775807)(hC:Ax c=0)(hc:Kb B w c p)(q:LI)(hq:Ob 1 q)(ta:Ae)(tc:Nat)(hA:Jk w ta ((zk 1).zip q)):
 CV 211 #[Ay c p,CU ta q.length tc] w (Nw c q):=by
 try delta Ay Az
 have HC:=I hc;have HA:=I hA;have b1:=I (oB hC);have a0:=(mT hC).1;have A:q.length=11:=hq.len;have u:q.length=(zk 1).length:=hq.len;by_cases V:c.xs.length=0
 . have hr:Af (Nw c q=Am q 3):=I (iP (by simpa[Jf] using V));have b2:=I ((yW ⟨#[98,108,111,99,107]⟩ u).trans (by rw[SH];rfl):Pu ((zk 1).zip q) ⟨#[98,108,111,99,107]⟩=3);have a1:((zk 1).zip q).length=q.length:=by rw[List.length_zip];omega
   have X:3<q.length:=by omega
   have e3:(3:Int)<(q.length:Int):=by omega
   have e0:((c.xs.length:Int)==0)=true:=by rw[V];rfl
   have a3:q.length<=140737488355328:=by omega
   have b3:=I u;have x:=I a1;clear hc hA hq V u a1 A a0;delta CV;go_in;go_wp2_with fail;have Y:=I (J w (Aj c p));generalize w.alloc (Aj c p)=W at*;have A1:=HA.1.below Y.1;obtain⟨b,a,rfl,hb,r⟩:=A1.cells (by rw[x.1];omega);have d1:=(r 3 (by rw[x.1];omega)).2;rw[qL b3.1 X]at d1;have HF:=I (xH ((zk 1).zip q) ⟨#[98,108,111,99,107]⟩ (some (aD b a)) tc W A1 (by rw[x.1];exact a3));rw[x.1,b2.1]at HF;clear r A1;refine HF.1.mono ?_;rintro e s ⟨rfl,rfl⟩;clear HF;go_wp2;go_ret;exact hU hr Y
 have X:0<c.xs.length:=by omega
 have hr:=I (show Nw c q=Aw q (Bj (Ec c.cs c.cs.length) 1 (Au c.xs 0)) by rw[Nw,iN (by simpa[Jf] using V),LO X]);have e0:((c.xs.length:Int)==0)=false:=by simpa using V
 have P:=nZ hC X;have c5:(0:Int)<(c.xs.length:Int):=by omega
 clear hc hA V;delta CV;go_in;go_wp2_with fail;have Y:=I (J w (Aj c p));have QC:=I (zh w (Aj c p));have⟨m,Q⟩:=aT w.heap.size;rw[<-Q]at QC;simp only[<-Q];clear Q;generalize w.alloc (Aj c p)=W at*;have a4:=Bf N Y.1.size;have⟨b,a,a5,b4,r⟩:=(HC.1.keep (Y.1.mono N)).xs.cells X;have⟨R,g,_,⟨c1,c2,c3,c4⟩,C,t⟩:=r.at 0 X;simp only[Nat.zero_mul,Nat.add_zero]at c1 c2 c3 c4;have HF:=I C;have a6:W.cell? (aD m 10)=some (CU (some (aD b a)) c.xs.length p.xc):=by rw[<-a5];exact EE 10 QC.1 rfl
 have d:W.drew.cell? (aD m 7)=some (CU p.ca c.cs.length p.cc)/\W.drew.cell? (aD m 10)=some (CU (some (aD b a)) c.xs.length p.xc)/\W.drew.cell? (aD b a)=some (.int .i64 (Au c.xs 0).op)/\W.drew.cell? (aD b (a+1))=some (.int .i64 (Au c.xs 0).num)/\W.drew.cell? (aD b (a+2))=some (B_ (Au c.xs 0).name)/\W.drew.cell? (aD b (a+3))=some (CU R (Au c.xs 0).args.length g):=⟨EE 7 QC.1 rfl,a6,c1,c2,c3,c4⟩;have BL:=I Y.1.drew;have n:B<=W.drew.heap.size:=a4;have y:m<W.drew.heap.size:=Ag QC.1;have Z:b<W.drew.heap.size:=As b4 n;have S:=I (HC.1.keep (BL.1.mono N));have a7:Af (Et B W.drew R (Au c.xs 0).args):=I (t.keep ((An W.heap.size W).drew.mono a4));have a8:=I (HA.1.below BL.1);have T:=I (nO c.cs p.ca p.cc B W.drew n b0 (by omega) S.1.cs b1.1);obtain⟨Wd,U⟩:∃Wd,W.drew=Wd:=⟨_,rfl⟩;rw[U]at d BL n y Z S a7 a8 T;clear r C t a5 c1 c2 c3 c4 A u;go_wp2_with fail;refine Ys (λw'=>w'.cell? (aD m 7)=some (CU p.ca c.cs.length p.cc)/\w'.cell? (aD m 10)=some (CU (some (aD b a)) c.xs.length p.xc)/\w'.cell? (aD b a)=some (.int .i64 (Au c.xs 0).op)/\w'.cell? (aD b (a+1))=some (.int .i64 (Au c.xs 0).num)/\w'.cell? (aD b (a+2))=some (B_ (Au c.xs 0).name)/\w'.cell? (aD b (a+3))=some (CU R (Au c.xs 0).args.length g)) [] (by kernel_rfl) U ?_;clear U a6;refine CG (i:=0) (v:=.pointer (some (aD m 7))) rfl d ?_;try simp only[Act.put,O]
 refine CG (i:=1) (v:=CU p.ca c.cs.length p.cc) rfl d ?_;try simp only[Act.put,O]
 refine CG (i:=3) (v:=.pointer (some (aD m 7))) rfl d ?_;try simp only[Act.put,O]
 refine CG (i:=4) (v:=CU p.ca c.cs.length p.cc) rfl d ?_;try simp only[Act.put,O]
 refine CG (i:=5) (v:=CU ta q.length tc) rfl d ?_;try simp only[Act.put,O]
 refine CG (i:=6) (v:=.pointer (some (aD m 10))) rfl d ?_;try simp only[Act.put,O]
 refine CG (i:=7) (v:=CU (some (aD b a)) c.xs.length p.xc) rfl d ?_;try simp only[Act.put,O]
 refine CG (i:=8) (v:=.pointer (some (aD b a))) rfl d ?_;try simp only[Act.put,O]
 refine CG (i:=9) (v:=.agg #[(Au c.xs 0).op,(Au c.xs 0).num,B_ (Au c.xs 0).name,CU R (Au c.xs 0).args.length g]) rfl d ?_;try simp only[Act.put,O]
 refine QY (i:=2) rfl λK hK=>?_;go_simp;refine T.1.mono ?_;rintro e s ⟨va,vc,rfl,hI,f⟩;have HI:=I hI;have b5:=fE BL f;have b6:B<=s.heap.size:=Bf n f.size;have b7:=I (S.1.keep (f.mono n));have b8:=I (a7.1.keep (f.mono n));have b9:=I (a8.1.below f);have k:s.cell? (aD m 7)=some (CU p.ca c.cs.length p.cc)/\s.cell? (aD m 10)=some (CU (some (aD b a)) c.xs.length p.xc)/\s.cell? (aD b a)=some (.int .i64 (Au c.xs 0).op)/\s.cell? (aD b (a+1))=some (.int .i64 (Au c.xs 0).num)/\s.cell? (aD b (a+2))=some (B_ (Au c.xs 0).name)/\s.cell? (aD b (a+3))=some (CU R (Au c.xs 0).args.length g):=⟨zD d.1 y f,zD d.2.1 y f,zD d.2.2.1 Z f,zD d.2.2.2.1 Z f,zD d.2.2.2.2.1 Z f,zD d.2.2.2.2.2 Z f⟩;have M:m<s.heap.size:=As y f.size;have z:b<s.heap.size:=As Z f.size;have HV:=I (oX B c.cs p.ca p.cc 1 1 rfl (by decide) va vc q q hq.self ta tc q.length rfl (Au c.xs 0) R g s b6 HF.1 P.1 P.2.1 b8.1 P.2.2 HI.1 b7.1.cs b9.1);clear hI f T;refine hK.1 _ _ (λ_ _=>k) ?_;clear hK K;try simp only[Act.put,O]
 refine QY (i:=10) rfl λK hK=>?_;go_simp;refine HV.1.mono ?_;rintro e w3 ⟨rfl,l⟩;have c0:=fE b5 l;have a9:w3.cell? (aD m 7)=some (CU p.ca c.cs.length p.cc)/\w3.cell? (aD m 10)=some (CU (some (aD b a)) c.xs.length p.xc)/\w3.cell? (aD b a)=some (.int .i64 (Au c.xs 0).op)/\w3.cell? (aD b (a+1))=some (.int .i64 (Au c.xs 0).num)/\w3.cell? (aD b (a+2))=some (B_ (Au c.xs 0).name)/\w3.cell? (aD b (a+3))=some (CU R (Au c.xs 0).args.length g):=⟨zD k.1 M l,zD k.2.1 M l,zD k.2.2.1 z l,zD k.2.2.2.1 z l,zD k.2.2.2.2.1 z l,zD k.2.2.2.2.2 z l⟩;clear l HV;refine hK.1 _ _ (λ_ _=>a9) ?_;clear hK K;try simp only[Act.put,O]
 refine QY (i:=11) rfl λK hK=>?_;go_simp;refine hK.1 _ _ (λ_ h=>h) ?_;clear hK K;try simp only[Act.put,O]
 refine zM (by kernel_rfl) ?_;clear d k a9;go_wp2;go_ret;exact hU hr c0
def Xd{t:At}{c:Ad}{d:Ai}(h:Bk t c d=0):Xc t c d=Nw c (Bo t c d):=iP h
def VF{t:At}{c:Ad}{d:Ai}(h:Bk t c d≠0):Xc t c d=0:=iN h
def IA(t:At)(c:Ad)(f:Ae)(b:Nat)(g:Ae)(ac:Nat)(fa:Ae)(fc:Nat)(p:Bd)(w:Wd)(k:(t.zn.length<=b/\b<=2^47/\t.ai.length<=ac/\ac<=2^47))(l:c.cs.length<=p.cc/\p.cc<=9223372036854775807)(m:Ea w t c f g fa p)(d:Ai)(s:Ae)(A:Nat)(u:d.length<=2^47)(hd:Al Ei w s d):
 CV 131 #[Az t f b g ac fa fc,Ay c p,CU s d.length A] w (.tuple #[(Xc t c d),(Bk t c d)]):=by
 try delta Ay Az
 have B:=I m;have H:=I hd;clear m hd;delta CV;go_in;go_wp2_with fail;have o:=I (Ab (J w (Ap t f b g ac fa fc)) (J _ (Aj c p)));have K:=I (zd (o':=(Aj c p)) (zh w (Ap t f b g ac fa fc)));have q:=I (zh (w.alloc (Ap t f b g ac fa fc)) (Aj c p));rw[zr]at q;have⟨C,h⟩:=aT (w.heap.size+1);rw[<-h]at q;simp only[<-h];clear h;generalize (w.alloc (Ap t f b g ac fa fc)).alloc (Aj c p)=W at*;refine(fZ t c f b g ac fa fc p W k l (B.1.below o.1) d s A u (H.1.below o.1)).mono ?_;rintro e D ⟨L,M,rfl,r,i⟩;have j:=fE o i;have v:=fO q i;clear i o K q;by_cases a:Bk t c d=0
 . have x:=I (Xd a);have N:=I a;have⟨E,y,F⟩:=aR a;rw[Uj a]at r;have G:=I (yH c p D.heap.size D (Bv _) l y (B.1.below j.1).c (Bo t c d) (eI E y F) L M r);rw[Uj a,Rf (show(Bo t c d).length=(zk 1).length from rfl)];clear E y F r;have⟨T,U,V,X,Y,Z,y6,y7,y8,y9,P,Q,R,S,yl⟩:=Ek v.1;rw[a];clear a;go_wp2_with fail;refine G.1.mono ?_;rintro e w2 ⟨rfl,n⟩;have z:=fE j n;clear n G;go_wp2;go_ret2;exact⟨zJ x.1.symm N.1.symm,z.1⟩
 have x:=I (VF a);have e1:=CN a
 clear a r;go_wp2;go_ret2;exact⟨zJ x.1.symm rfl,j.1⟩
def Zp(t:At)(c:Ad)(d:Ai):List (Int×Int×BA):=if Bk t c d=0 then(Wy c 1 (Bo t c d)).map λs=>(1,0,s) else []
def Wg(t:At)(c:Ad)(d:Ai):Int:=if Bk t c d=0 then zoy c 1 (Bo t c d) else 0
theorem tU(q:LI):Rt 1 q=q:=iN (by decide)
def sZ{t:At}{c:Ad}{d:Ai}(h:Bk t c d≠0):Zp t c d= []:=iN h
def KO{t:At}{c:Ad}{d:Ai}(h:Bk t c d≠0):Wg t c d=0:=iN h
theorem FO{t:At}{c:Ad}{d:Ai}(h:Bk t c d=0):Zp t c d=(Wy c 1 (Bo t c d)).map λs=>(1,0,s):=iP h
theorem IQ{t:At}{c:Ad}{d:Ai}(h:Bk t c d=0):Wg t c d=zoy c 1 (Bo t c d):=iP h
theorem uM{t:At}{c:Ad}{d:Ai}(h:Bk t c d=0):Zp t c d=Ef c 1 0 (Bo t c d) c.rs.length:=by
 grind[FO,Ef,SV,Wy,tU]
theorem PG{t:At}{c:Ad}{d:Ai}(h:Bk t c d=0):Wg t c d=Gs c 1 (Bo t c d) c.ks.length:=by
 grind[IQ,SU,zoy,tU]
def cL(w:Wd)(V:List (Int×Int×BA))(er:Int)(e:Ending)(w':Wd):Prop:=∃a cap,e=.returned (.tuple #[.slice a V.length cap,er])/\Us w' a V/\Below w.heap.size w w'
theorem wM.of_own{l:LB}(h:w.ownsRow b 9 1 v l.length (l.map Value.string)):∃a c,v=CU a l.length c/\wM w a l:=by
 rcases h.2 with⟨f,j⟩|⟨g,c,d,rfl,f,k,m,n,o,p⟩;exact⟨none,0,by rw[f,j],.inl (List.length_eq_zero_iff.1 j)⟩;refine⟨_,_,rfl,.inr ⟨g,d,_,rfl,k,λi hi=>?_⟩⟩;have e:(d.toList.take (l.length*1))[i]?=some (B_ (Bl l i)):=by
  rw[p];simp[Bl,hi]
 grind
def GW(t:At)(c:Ad)(g:Ae)(b:Nat)(h:Ae)(ac:Nat)(fa:Ae)(fc:Nat)(p:Bd)(w:Wd)(n:(t.zn.length<=b/\b<=2^47/\t.ai.length<=ac/\ac<=2^47))(o:c.cs.length<=p.cc/\p.cc<=9223372036854775807)(q:Ea w t c g h fa p)(d:Ai)(z:Ae)(F:Nat)(A:d.length<=2^47)(hd:Al Ei w z d):
 Calls prog 128 #[Az t g b h ac fa fc,Ay c p,CU z d.length F] w (cL w (Zp t c d) (Bk t c d)):=by
 try delta Ay Az
 have G:=I q;have Q:=I hd;clear q hd;go_in;go_wp2_with fail;have u:=I (Ab (J w (Ap t g b h ac fa fc)) (J _ (Aj c p)));have R:=I (zd (o':=(Aj c p)) (zh w (Ap t g b h ac fa fc)));have x:=I (zh (w.alloc (Ap t g b h ac fa fc)) (Aj c p));rw[zr]at x;have⟨H,i⟩:=aT (w.heap.size+1);rw[<-i]at x;simp only[<-i];clear i;generalize (w.alloc (Ap t g b h ac fa fc)).alloc (Aj c p)=W at*;refine(fZ t c g b h ac fa fc p W n o (G.1.below u.1) d z F A (Q.1.below u.1)).mono ?_;rintro e K ⟨S,T,rfl,y,j⟩;have k:=fE u j;have B:=fO x j;clear j u R x;by_cases a:Bk t c d=0
 . have m:=I a;have⟨L,C,M⟩:=aR a;rw[Uj a]at y;have N:=I (MX c p K.heap.size K (Bv _) o C (G.1.below k.1).c 1 (by decide) 1 rfl 0 (Bo t c d) (Bo t c d) (eI L C M).self S T (Bo t c d).length rfl y);rw[Uj a,Rf (show(Bo t c d).length=(zk 1).length from rfl)];clear L C M y;have⟨y0,y1,y2,y3,y4,y5,y6,y7,y8,y9,U,V,X,Y,yl⟩:=Ek B.1;rw[a];clear a;go_wp2_with fail;refine N.1.mono ?_;rintro e w2 ⟨v,P,rfl,l,f,r⟩;have D:=fE k r;obtain⟨Z,c3,rfl,s⟩:=Us.of_own f;have E:=I s;clear r N f l s;go_wp2;go_ret2;exact⟨Z,c3,Wa (by rw[uM m.1] <;> rfl) m.1.symm,by rw[uM m.1];exact E.1,D.1⟩
 have e1:=CN a
 have m:=I a;clear a y;go_wp2;go_ret2;exact⟨none,0,Wa (by rw[sZ m.1];rfl) rfl,.inl (sZ m.1),k.1⟩
def zjX(t:At)(c:Ad)(f:Ae)(b:Nat)(g:Ae)(ac:Nat)(fa:Ae)(fc:Nat)(p:Bd)(w:Wd)(k:(t.zn.length<=b/\b<=2^47/\t.ai.length<=ac/\ac<=2^47))(l:c.cs.length<=p.cc/\p.cc<=9223372036854775807)(m:Ea w t c f g fa p)(d:Ai)(u:Ae)(A:Nat)(v:d.length<=2^47)(hd:Al Ei w u d):
 CV 130 #[Az t f b g ac fa fc,Ay c p,CU u d.length A] w (.tuple #[(Wg t c d),(Bk t c d)]):=by
 try delta Ay Az
 have B:=I m;have H:=I hd;clear m hd;delta CV;go_in;go_wp2_with fail;have o:=I (Ab (J w (Ap t f b g ac fa fc)) (J _ (Aj c p)));have K:=I (zd (o':=(Aj c p)) (zh w (Ap t f b g ac fa fc)));have q:=I (zh (w.alloc (Ap t f b g ac fa fc)) (Aj c p));rw[zr]at q;have⟨C,h⟩:=aT (w.heap.size+1);rw[<-h]at q;simp only[<-h];clear h;generalize (w.alloc (Ap t f b g ac fa fc)).alloc (Aj c p)=W at*;refine(fZ t c f b g ac fa fc p W k l (B.1.below o.1) d u A v (H.1.below o.1)).mono ?_;rintro e D ⟨L,M,rfl,r,i⟩;have j:=fE o i;have x:=fO q i;clear i o K q;by_cases a:Bk t c d=0
 . have s:=I a;have⟨E,y,F⟩:=aR a;rw[Uj a]at r;have G:=I (PP c p D.heap.size D (Bv _) l y (B.1.below j.1).c 1 (by decide) 1 rfl (Bo t c d) (Bo t c d) (eI E y F).self L M (Bo t c d).length rfl r);rw[Uj a,Rf (show(Bo t c d).length=(zk 1).length from rfl)];clear E y F r;have⟨S,T,U,V,X,Y,Z,y7,y8,y9,N,P,Q,R,yl⟩:=Ek x.1;rw[a];clear a;go_wp2_with fail;refine G.1.mono ?_;rintro e w2 ⟨rfl,n⟩;have z:=fE j n;clear n G;go_wp2;go_ret2;exact⟨zJ (PG s.1).symm s.1.symm,z.1⟩
 have e1:=CN a
 have s:=I a;clear a r;go_wp2;go_ret2;exact⟨zJ (KO s.1).symm rfl,j.1⟩
