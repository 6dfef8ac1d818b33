/- a part of the proof -/
import Derived.Test.YtafdcbmgdfliiaaGreatG6
set_option linter.all false
set_option maxRecDepth 100000
set_option maxHeartbeats 3000000
namespace Go.Proofs.YtafdcbmgdfliiaaGreat
open Go.RowKit Go.Sort Go.Proofs.Tryz
variable {o x y:Int}{R l:List (Int×Int)}{w w':Wd}{N c g k n:Nat}{v:Value}{S:Int->Bool}{p:Int×Int}{e:TypeId}
def Ee(nm:List UInt8)(o:Int)(l:List (Int×Int))(x y fr tz:Int):Int:=
 if zG nm o l≠0 then zG nm o l else if(Io x y&&Jb fr&&Jb tz)=false then 5 else 0
def Jp(nm:List UInt8)(o:Int)(l:List (Int×Int))(x y fr tz:Int):Int×Int:=
 if Ee nm o l x y fr tz≠0 then(0,Ee nm o l x y fr tz) else(Nv (Gx o l fr tz) x (y-x).toNat,0)
def zdh(nm:List UInt8)(o:Int)(l:List (Int×Int))(x y fr tz:Int):Int×Int:=
 if Ee nm o l x y fr tz≠0 then(0,Ee nm o l x y fr tz) else(if Ga fr tz=0 then 0 else bF (Gx o l fr tz) x (Ga fr tz) (y-x).toNat,0)
theorem aY{nm:List UInt8}{b c:Int}(h:Ee nm o l x y b c=0):zG nm o l=0/\(0<=x/\x<=y/\y<=52596000)/\(0<=b/\b<1440)/\(0<=c/\c<1440):=by
 grind[Ee,Io,Jb]
def uJ{nm:List UInt8}{a b:Int}(h:Ee nm o l x y a b=0):Jp nm o l x y a b=(Nv (Gx o l a b) x (y-x).toNat,0):=iN (by simp[h])
def vK{nm:List UInt8}{a b:Int}(h:Ee nm o l x y a b=0):zdh nm o l x y a b=(if Ga a b=0 then 0 else bF (Gx o l a b) x (Ga a b) (y-x).toNat,0):=iN (by simp[h])
def tJ(s:BA)(o x y g i:Int)(l:List (Int×Int))(a:Ae)(cap:Nat)(w:Wd)(u:s.size<=maxLen)(v:l.length<=1000000)(r:Cj w a l):
 CV 228 #[.agg #[B_ s,o,CU a l.length cap],.agg #[x,y],g,i] w (Ee s.data.toList o l x y g i):=by
 have z:=I (λW (h:Bw w W)=>r.below h);delta CV;go_in;go_wp2_with fail;have⟨A,n,j⟩:=Ss w s o a l.length cap x y;generalize ((w.alloc (oZ s o a l.length cap)).alloc (oQ x y))=W at*;refine ca (gT s o l a cap _ u v (z.1 _ j)) λC k=>?_;have d:=Ab j k;replace n:=n.below k;have⟨D,E,F⟩:=I n |>.1;by_cases c:zG s.data.toList o l=0
 . have B:=bMa c
   cases m:Io x y
   . have f:Af (Ee s.data.toList o l x y g i=5):=I (by simp[Ee,c,m]);go_wp2_with (first|(go_at_call 154;refine ca (Zk _ _ _) λp b=>?_)|(go_at_call 266;refine cb (zfR _ _) ?_));go_ret;exact⟨ze f.1.symm,Ab d b⟩
   cases q:Jb g
   . have f:Af (Ee s.data.toList o l x y g i=5):=I (by simp[Ee,c,m,q]);go_wp2_with (first|(go_at_call 154;refine ca (Zk _ _ _) λp b=>?_)|(go_at_call 266;refine cb (zfR _ _) ?_));go_ret;exact⟨ze f.1.symm,Ab d b⟩
   cases t:Jb i
   . have f:Af (Ee s.data.toList o l x y g i=5):=I (by simp[Ee,c,m,q,t]);go_wp2_with (first|(go_at_call 154;refine ca (Zk _ _ _) λp b=>?_)|(go_at_call 266;refine cb (zfR _ _) ?_));go_ret;exact⟨ze f.1.symm,Ab d b⟩
   have f:Af (Ee s.data.toList o l x y g i=0):=I (by simp[Ee,c,m,q,t]);go_wp2_with (first|(go_at_call 154;refine ca (Zk _ _ _) λp b=>?_)|(go_at_call 266;refine cb (zfR _ _) ?_));go_ret;exact⟨ze f.1.symm,Ab d b⟩
 have f:Af (Ee s.data.toList o l x y g i=zG s.data.toList o l):=I (by simp[Ee,c]);have B:=CN c
 go_wp2;go_ret;exact⟨ze f.1.symm,d⟩
def uI(s:BA)(o x y d f:Int)(l:List (Int×Int))(a:Ae)(cap:Nat)(w:Wd)(r:s.size<=maxLen)(t:l.length<=1000000)(q:Cj w a l):
 CV 277 #[.agg #[B_ s,o,CU a l.length cap],.agg #[x,y],d,f] w (Ee s.data.toList o l x y d f):=by
 have u:=I (λW (h:Bw w W)=>q.below h);delta CV;go_in;go_wp2_with fail;have⟨v,n,j⟩:=Ss w s o a l.length cap x y;generalize ((w.alloc (oZ s o a l.length cap)).alloc (oQ x y))=W at*;refine ca (gG s o l a cap _ r t (u.1 _ j)) λF k=>?_;have c:=Ab j k;replace n:=n.below k;have⟨G,H,K⟩:=I n |>.1;by_cases g:zG s.data.toList o l=0
 . have z:=bMa g
   cases p:Io x y
   . have i:Af (Ee s.data.toList o l x y d f=5):=I (by simp[Ee,g,p]);go_wp2_with (first|(go_at_call 289;refine ca (Uk _ _ _) λm b=>?_));go_ret;exact⟨ze i.1.symm,Ab c b⟩
   by_cases A:(0<=d/\d<1440)/\(0<=f/\f<1440)
   . have i:Af (Ee s.data.toList o l x y d f=0):=I (by simp[Ee,g,p,Jb];omega);obtain⟨⟨B,C⟩,D,E⟩:=A;go_wp2_with (first|(go_at_call 289;refine ca (Uk _ _ _) λm b=>?_));go_ret;exact⟨ze i.1.symm,Ab c b⟩
   have i:Af (Ee s.data.toList o l x y d f=5):=I (by simp[Ee,g,p,Jb];omega);by_cases B:d<0
   . go_wp2_with (first|(go_at_call 289;refine ca (Uk _ _ _) λm b=>?_));go_ret;exact⟨ze i.1.symm,Ab c b⟩
   by_cases C:1439<d
   . go_wp2_with (first|(go_at_call 289;refine ca (Uk _ _ _) λm b=>?_));go_ret;exact⟨ze i.1.symm,Ab c b⟩
   by_cases D:f<0
   . go_wp2_with (first|(go_at_call 289;refine ca (Uk _ _ _) λm b=>?_));go_ret;exact⟨ze i.1.symm,Ab c b⟩
   have E:1439<f:=by omega
   go_wp2_with (first|(go_at_call 289;refine ca (Uk _ _ _) λm b=>?_));go_ret;exact⟨ze i.1.symm,Ab c b⟩
 have i:Af (Ee s.data.toList o l x y d f=zG s.data.toList o l):=I (by simp[Ee,g]);have z:=CN g
 go_wp2;go_ret;exact⟨ze i.1.symm,c⟩
def kP(w:Wd)(g:Nat)(R:List (Int×Int)):Prop:=
 g<w.heap.size/\∀k,k<R.length->w.cell? (aD g (k*2))=some (Bn (Cs R k).1)/\w.cell? (aD g (k*2+1))=some (Bn (Cs R k).2)
def kP.below(h:kP w g R)(a:Bw w w'):kP w' g R:=
 ⟨As h.1 a.size,λk hk=>⟨(a.cell (p:=aD g (k*2)) h.1).trans (h.2 k hk).1,(a.cell (p:=aD g (k*2+1)) h.1).trans (h.2 k hk).2⟩⟩
theorem uS(h:w.ownsRow c 186 2 v R.length (Iq R)):
 (v=Ls/\R= [])\/∃g b,v=Kx g 0 R.length b/\kP w g R:=by
 rcases h.2 with⟨d,l⟩|⟨g,b,m,d,p⟩;exact .inl ⟨d,List.length_eq_zero_iff.1 l⟩;have a:v.ownBlock=some g:=by rw[d];rfl
 have e:=(h.lt g a).2;have f:=h.cells a;refine .inr ⟨g,b,d,e,λk hk=>?_⟩;simp_all[uU,gL]
theorem OZ(R:List (Int×Int))(a b:Int):(Ow R a b).length<=R.length+1:=by grind[Ow]
theorem MG(S:Int->Bool)(x:Int):∀n:Nat,(Ez S x n).length<=n:=by
 intro n;induction n<;>grind[Ez,OZ]
theorem KA{a b:Int}(h:Ga a b=0)(c:0<=a/\a<1440)(d:0<=b/\b<1440):Ez (Gx o l a b) x n= []:=by
 have:=uT (S:=Gx o l a b) (x:=x) 0 n (λt _ _=>by
  grind[Gx,xB])
 grind[Ez]
theorem vI{nm:List UInt8}{a b:Int}(h:Ee nm o l x y a b=0):
 Ly o l x y a b=Ez (Gx o l a b) x (y-x).toNat/\(Ly o l x y a b).length<=52596000/\
 (∀k,k<(Ly o l x y a b).length->0<=(Cs (Ly o l x y a b) k).1/\(Cs (Ly o l x y a b) k).1<(Cs (Ly o l x y a b) k).2/\(Cs (Ly o l x y a b) k).2<=52596000)/\
 (∀k,k<=(Ly o l x y a b).length->0<=Ku (Ly o l x y a b) k/\Ku (Ly o l x y a b) k<=52596000):=by
 have⟨i,⟨m,n,p⟩,q,r⟩:=aY h;have e:Ly o l x y a b=Ez (Gx o l a b) x (y-x).toNat:=MP i m n p q r;have c:=oH (Gx o l a b) x (y-x).toNat;have d:=vJ (Gx o l a b) x (y-x).toNat;have f:=pB (Gx o l a b) x (y-x).toNat;have g:=MG (Gx o l a b) x (y-x).toNat;rw[e];generalize Ez (Gx o l a b) x (y-x).toNat=R at*;refine⟨rfl,by omega,λk hk=>by grind,λk hk=>?_⟩;have s:=vE (λj hj=>(c j hj).2.1) 0 k (Bg _) hk;have t:=vE (λj hj=>(c j hj).2.1) k R.length hk (Bv _);grind[Ku]
def GC(s:BA)(o x y d f:Int)(l:List (Int×Int))(a:Ae)(cap:Nat)(w:Wd)(X:s.size<=maxLen)(G:l.length<=1000000)(H:Cj w a l):
 CV 158 #[.agg #[B_ s,o,CU a l.length cap],.agg #[x,y],d,f] w (.tuple #[Bn (Jp s.data.toList o l x y d f).1,Bn (Jp s.data.toList o l x y d f).2]):=by
 have K:=I (λW (h:Bw w W)=>H.below h);clear H;delta CV;go_in;go_wp2_with fail;have⟨C,D,t⟩:=Ss w s o a l.length cap x y;generalize ((w.alloc (oZ s o a l.length cap)).alloc (oQ x y))=W at*;refine ca (tJ s o x y d f l a cap _ X G (K.1 _ t)) λw1 n=>?_;have p:=Ab t n;replace D:=D.below n;replace C:=C.below n;have⟨Y,Z,t2⟩:=I D |>.1;have⟨z0,z1,z2,z3⟩:=I C |>.1;clear n t;clear W;by_cases q:Ee s.data.toList o l x y d f=0
 . have hn:=bMa q
   have⟨u,⟨h1,h2,h3⟩,L,M⟩:=aY q;have⟨N,f2,P,Q⟩:=vI q;have E:=I (uJ q);have u:=I u;have Hf:=I L;have Ht:=I M;clear q L M;go_wp2_with fail;refine(tR s o x y d f l a cap _ G (K.1 _ p) u.1 Hf.1 Ht.1).mono ?_;rintro e S ⟨v,rfl,j,z⟩;have A:=Ab p z;clear z z0 z1 z2 z3 Y Z t2 C D p;generalize hR:Ly o l x y d f=R at*;clear hR;have F1:=I N;have F3:=I P;have T:=I Q;clear N P Q;have c:Af ((Jp s.data.toList o l x y d f).1=Ku R R.length/\(Jp s.data.toList o l x y d f).2=0):=I (by
    rw[E.1];refine⟨?_,rfl⟩;rw[F1.1,vJ])
   rcases uS j with⟨rfl,rfl⟩|⟨g,U,rfl,r⟩
   . clear j;go_wp2_with fail;go_loop [13,34] (λm i=>m=Bn 0/\i=Bn 0) (λ_ _=>0);exact⟨rfl,rfl⟩;obtain⟨rfl,rfl⟩:=hrel;go_wp2;go_ret2;exact⟨zJ (by rw[c.1.1];rfl) (by rw[c.1.2]),A⟩
   clear j;go_wp2_with fail;go_loopw [13,34] (λm i wr=>∃k:Nat,k<=R.length/\i=Bn k/\m=Bn (Ku R k)/\Bw S wr) (λ_ i _=>R.length-(intOf i).toNat);exact⟨0,Bg _,rfl,rfl,An _ _⟩;obtain⟨k,hk,rfl,rfl,b⟩:=hrel;by_cases B:k<R.length
   . have⟨c1,c2⟩:=(r.below b).2 k B;have a0:=(r.below b).1;have b1:=F3.1 k B;have b2:=T.1 k (by omega);have b3:=T.1 (k+1) (by omega);have F:Af (Ku R (k+1)=Ku R k+((Cs R k).2-(Cs R k).1)):=I rfl;go_wp2;go_roundw;exact⟨k+1,by omega,by go_num,by rw[F.1],b.alloc b.size _⟩;simp[intOf];omega
   obtain rfl:k=R.length:=by omega
   go_wp2;go_ret2;exact⟨zJ (by rw[c.1.1]) (by rw[c.1.2]),Ab A b⟩
 have V:Af (Jp s.data.toList o l x y d f=(0,Ee s.data.toList o l x y d f)):=I (by simp[Jp,q]);have hn:=CN q
 clear q;go_wp2;go_ret2;exact⟨zJ (by rw[V.1]) (by rw[V.1]),p⟩
def Nz(s:BA)(o x y c d:Int)(l:List (Int×Int))(a:Ae)(cap:Nat)(w:Wd)(hs:s.size<=maxLen)(K:l.length<=1000000)(L:Cj w a l):
 CV 165 #[.agg #[B_ s,o,CU a l.length cap],.agg #[x,y],c,d] w (.tuple #[Bn (zdh s.data.toList o l x y c d).1,Bn (zdh s.data.toList o l x y c d).2]):=by
 have M:=I (λW (h:Bw w W)=>L.below h);clear L;delta CV;go_in;go_wp2_with fail;have⟨E,F,u⟩:=Ss w s o a l.length cap x y;generalize ((w.alloc (oZ s o a l.length cap)).alloc (oQ x y))=W at*;refine ca (tJ s o x y c d l a cap _ hs K (M.1 _ u)) λw1 p=>?_;have q:=Ab u p;replace F:=F.below p;replace E:=E.below p;have⟨t0,t1,t2⟩:=I F |>.1;have⟨z0,z1,z2,z3⟩:=I E |>.1;clear p u;clear W;by_cases r:Ee s.data.toList o l x y c d=0
 . have hn:=bMa r
   have⟨z,⟨h1,h2,h3⟩,N,P⟩:=aY r;have⟨Q,f2,S,T⟩:=vI r;have G:=I (vK r);have z:=I z;have U:=I N;have V:=I P;clear r N P;go_wp2_with fail;refine(tR s o x y c d l a cap _ K (M.1 _ q) z.1 U.1 V.1).mono ?_;rintro e X ⟨v,rfl,j,B⟩;have C:=Ab q B;clear B z0 z1 z2 z3 t0 t1 t2 E F q;generalize hR:Ly o l x y c d=R at*;clear hR;have Y:=I Q;have F3:=I S;have Z:=I T;clear Q S T;have f:Af ((zdh s.data.toList o l x y c d).1=Kf R (Ga c d) R.length/\(zdh s.data.toList o l x y c d).2=0):=I (by
    rw[G.1];refine⟨?_,rfl⟩;by_cases H:Ga c d=0
    . rw[iP H,Y.1,KA H U.1 V.1];rfl
    rw[iN H,Y.1,IG])
   rcases uS j with⟨rfl,rfl⟩|⟨g,a0,rfl,t⟩
   . clear j;go_wp2_with fail;go_loop [13,34] (λm i=>m=Bn 0/\i=Bn 0) (λ_ _=>0);exact⟨rfl,rfl⟩;obtain⟨rfl,rfl⟩:=hrel;go_wp2;go_ret2;exact⟨zJ (by rw[f.1.1];rfl) (by rw[f.1.2]),C⟩
   clear j;go_wp2_with fail;go_loopw [13,34] (λm i wr=>∃k:Nat,k<=R.length/\i=Bn k/\m=Bn (Kf R (Ga c d) k)/\Bw X wr) (λ_ i _=>R.length-(intOf i).toNat);exact⟨0,Bg _,rfl,rfl,An _ _⟩;obtain⟨k,hk,rfl,rfl,b⟩:=hrel;by_cases D:k<R.length
   . have⟨c1,c2⟩:=(t.below b).2 k D;have a1:=(t.below b).1;have b1:=F3.1 k D;have b2:=Z.1 k (by omega);have b3:=Z.1 (k+1) (by omega);have b4:=PZ R (Ga c d) k;by_cases n:Ga c d<=(Cs R k).2-(Cs R k).1
     . have A:Af (Kf R (Ga c d) (k+1)=Kf R (Ga c d) k+1):=I (by rw[Kf,iP n]);go_wp2;go_roundw;exact⟨k+1,by omega,by go_num,by rw[A.1],b.alloc b.size _⟩;simp[intOf];omega
     have A:Af (Kf R (Ga c d) (k+1)=Kf R (Ga c d) k):=I (by rw[Kf,iN n];omega);go_wp2;go_roundw;exact⟨k+1,by omega,by go_num,by rw[A.1],b.alloc b.size _⟩;simp[intOf];omega
   obtain rfl:k=R.length:=by omega
   go_wp2;go_ret2;exact⟨zJ (by rw[f.1.1]) (by rw[f.1.2]),Ab C b⟩
 have hz:Af (zdh s.data.toList o l x y c d=(0,Ee s.data.toList o l x y c d)):=I (by simp[zdh,r]);have hn:=CN r
 clear r;go_wp2;go_ret2;exact⟨zJ (by rw[hz.1]) (by rw[hz.1]),q⟩
def BJ{nm:List UInt8}(h:zG nm o l=0)(a b t:Int):Rg ((t+Cw o l t)%1440) a b=Gx o l a b t:=by
 rw[<-gN l none o t (Ue h).2.2.2];rfl
def ztK(S:Int->Bool)(x ln:Int)(N k:Nat)(p:Int×Int):Prop:=(k<=N/\p=Le S x ln k)\/(k=N+1/\p.1=bF S x ln N)
def ztK.yes{a:Int}(h:ztK S x a N k p)(c:k<N)(b:S (x+k)=true):ztK S x a N (k+1) (p.1,p.2+1):=by
 rcases h with⟨_,rfl⟩|⟨h,_⟩;exact .inl ⟨by omega,by rw[Le,iP b]⟩;omega
theorem ztK.no{a:Int}(h:ztK S x a N k p)(c:k<N)(b:S (x+k)=false):ztK S x a N (k+1) (p.1+(if a<=p.2/\0<p.2 then 1 else 0),0):=by
 rcases h with⟨_,rfl⟩|⟨h,_⟩;exact .inl ⟨by omega,by grind[Le]⟩;omega
def ztK.close{a:Int}(h:ztK S x a N N p):ztK S x a N (N+1) (p.1+(if a<=p.2/\0<p.2 then 1 else 0),0):=by
 rcases h with⟨_,rfl⟩|⟨h,_⟩;exact .inr ⟨rfl,rfl⟩;omega
def ztK.fin{a:Int}(h:ztK S x a N k p)(b:N<k):p.1=bF S x a N:=by
 rcases h with⟨_,_⟩|⟨_,h⟩;omega;exact h
def AJ{nm:List UInt8}(h:zG nm o l=0)(t:Int):-840<=Cw o l t/\Cw o l t<=840:=by
 rw[<-gN l none o t (Ue h).2.2.2];exact He h t
def FX(s:BA)(o x y c d:Int)(l:List (Int×Int))(a:Ae)(cap:Nat)(w:Wd)(M:s.size<=maxLen)(A:l.length<=1000000)(F:Cj w a l):
 CV 287 #[.agg #[B_ s,o,CU a l.length cap],.agg #[x,y],c,d] w (.tuple #[Bn (Jp s.data.toList o l x y c d).1,Bn (Jp s.data.toList o l x y c d).2]):=by
 have B:=I (λW (h:Bw w W)=>F.below h);delta CV;go_in;go_wp2_with fail;have⟨v,z,j⟩:=Ss w s o a l.length cap x y;generalize ((w.alloc (oZ s o a l.length cap)).alloc (oQ x y))=W at*;refine ca (uI s o x y c d l a cap _ M A (B.1 _ j)) λG f=>?_;have g:=Ab j f;replace z:=z.below f;replace v:=v.below f;have⟨P,Q,R⟩:=I z |>.1;have⟨S,T,U,V⟩:=I v |>.1;by_cases n:Ee s.data.toList o l x y c d=0
 . have X:=bMa n
   have⟨p,⟨h1,h2,h3⟩,⟨Y,Z⟩,⟨a0,a1⟩⟩:=aY n;have q:=I (uJ n);have C:=I (BJ p c d);have D:=I (AJ p);obtain⟨N,H⟩:∃N:Nat,(y-x).toNat=N:=⟨_,rfl⟩;rw[H]at q;have a2:y-x<=N:=by omega
   have a3:(N:Int)<=y-x:=by omega
   go_wp2_with fail;go_loopw [11,12] (λm i wr=>∃k:Nat,k<=N/\i=Bn (x+k)/\m=Bn (Nv (Gx o l c d) x k)/\Bw G wr) (λ_ i _=>(y-intOf i).toNat);exact⟨0,Bg _,by simp,rfl,An _ _⟩;obtain⟨k,hk,rfl,rfl,b⟩:=hrel;have⟨P,Q,R⟩:=I (z.below b) |>.1;have⟨S,T,U,V⟩:=I (v.below b) |>.1;have b1:=pB (Gx o l c d) x k;by_cases a4:k<N
   . have b2:=D.1 (x+k);have K:=I (C.1 (x+k));have E1:Af (x+(k:Int)+1=x+((k+1:Nat):Int)):=I (by omega);cases u:Gx o l c d (x+k)
     . have r:Af (Nv (Gx o l c d) x (k+1)=Nv (Gx o l c d) x k):=I (by rw[Nv,iN (by rw[u];decide)];omega);have E:Rg ((x+(k:Int)+Cw o l (x+k))%1440) c d=false:=K.1.trans u;go_wp2_with (first|(go_at_call 278;refine ca (Tc s o _ l a cap _ A (B.1 _ (Ab g b))) λw2 t=>?_)|(go_at_call 172;refine cb (Si _ _ (by omega) (by omega)) ?_)|(go_at_call 240;refine cb (Th _ _ _ _) ?_));go_roundw;exact⟨k+1,by omega,by go_num,by rw[r.1],b.trans (t.mono b.size)⟩;simp[intOf];omega
     have r:Af (Nv (Gx o l c d) x (k+1)=Nv (Gx o l c d) x k+1):=I (by rw[Nv,iP u]);have E:Rg ((x+(k:Int)+Cw o l (x+k))%1440) c d=true:=K.1.trans u;go_wp2_with (first|(go_at_call 278;refine ca (Tc s o _ l a cap _ A (B.1 _ (Ab g b))) λw2 t=>?_)|(go_at_call 172;refine cb (Si _ _ (by omega) (by omega)) ?_)|(go_at_call 240;refine cb (Th _ _ _ _) ?_));go_roundw;exact⟨k+1,by omega,by go_num,by rw[r.1],b.trans (t.mono b.size)⟩;simp[intOf];omega
   obtain rfl:k=N:=by omega
   go_wp2;go_ret2;exact⟨zJ (by rw[q.1]) (by rw[q.1]),Ab g b⟩
 have L:Af (Jp s.data.toList o l x y c d=(0,Ee s.data.toList o l x y c d)):=I (by simp[Jp,n]);have X:=CN n
 go_wp2;go_ret2;exact⟨zJ (by rw[L.1]) (by rw[L.1]),g⟩
def US(s:BA)(o x y c d:Int)(l:List (Int×Int))(a:Ae)(cap:Nat)(w:Wd)(hs:s.size<=maxLen)(H:l.length<=1000000)(X:Cj w a l):
 CV 257 #[.agg #[B_ s,o,CU a l.length cap],.agg #[x,y],c,d] w (.tuple #[Bn (zdh s.data.toList o l x y c d).1,Bn (zdh s.data.toList o l x y c d).2]):=by
 have K:=I (λW (h:Bw w W)=>X.below h);delta CV;go_in;go_wp2_with fail;have⟨L,M,z⟩:=Ss w s o a l.length cap x y;generalize ((w.alloc (oZ s o a l.length cap)).alloc (oQ x y))=W at*;refine ca (uI s o x y c d l a cap _ hs H (K.1 _ z)) λY t=>?_;have g:=Ab z t;replace M:=M.below t;replace L:=L.below t;have⟨t0,t1,t2⟩:=I M |>.1;have⟨z0,z1,z2,z3⟩:=I L |>.1;by_cases A:Ee s.data.toList o l x y c d=0
 . have hn:=bMa A
   have⟨B,⟨h1,h2,h3⟩,⟨a0,a1⟩,⟨a2,a3⟩⟩:=aY A;have j:=I (vK A);have P:=I (BJ B c d);have Q:=I (AJ B);obtain⟨N,Z⟩:∃N:Nat,(y-x).toNat=N:=⟨_,rfl⟩;rw[Z]at j;have a4:y-x<=N:=by omega
   have a5:(N:Int)<=y-x:=by omega
   obtain⟨n,u⟩:∃n:Int,Ga c d=n:=⟨_,rfl⟩;have R:=I u;have S:0<=n/\n<1440:=by rw[<-u];unfold Ga;omega
   obtain⟨a6,a7⟩:=S;rw[u]at j;go_wp2_with fail;rw[show(d-c+1440)%1440=n from R.1];have hS:=I (λk=>NG (Gx o l c d) x n k);go_loopw [12,13,14] (λm r i wr=>∃(k:Nat) (p:Int×Int),k<=N+1/\i=Bn (x+k)/\m=Bn p.1/\r=Bn p.2/\Af (ztK (Gx o l c d) x n N k p)/\(0<=p.1/\p.1<=60000000+k/\0<=p.2/\p.2<=k)/\Bw Y wr) (λ_ _ i _=>(y+1-intOf i).toNat);exact⟨0,(0,0),Bg _,by simp,rfl,rfl,I (.inl ⟨Bg _,rfl⟩),by simp,An _ _⟩;obtain⟨k,p,hk,rfl,rfl,rfl,f,T,b⟩:=hrel;obtain⟨a8,a9,b0,b1⟩:=T;have⟨t0,t1,t2⟩:=I (M.below b) |>.1;have⟨z0,z1,z2,z3⟩:=I (L.below b) |>.1;by_cases F:k<N
   . have b2:=Q.1 (x+k);have hi:=I (P.1 (x+k));cases D:Gx o l c d (x+k)
     . have q:=I (f.1.no F D);have U:Rg ((x+(k:Int)+Cw o l (x+k))%1440) c d=false:=hi.1.trans D;go_wp2_with (first|(go_at_call 278;refine ca (Tc s o _ l a cap _ H (K.1 _ (Ab g b))) λw2 v=>?_)|(go_at_call 172;refine cb (Si _ _ (by omega) (by omega)) ?_)|(go_at_call 240;refine cb (Th _ _ _ _) ?_))
       all_goals
        go_roundw
        case rel=>exact⟨k+1,(p.1+(if n<=p.2/\0<p.2 then 1 else 0),0),by omega,by go_num,congrArg _ (by split <;> omega),rfl,q,by split <;> simp only <;> omega,b.trans (v.mono b.size)⟩
        case measure=>simp[intOf];omega
     have q:=I (f.1.yes F D);have U:Rg ((x+(k:Int)+Cw o l (x+k))%1440) c d=true:=hi.1.trans D;go_wp2_with (first|(go_at_call 278;refine ca (Tc s o _ l a cap _ H (K.1 _ (Ab g b))) λw2 v=>?_)|(go_at_call 172;refine cb (Si _ _ (by omega) (by omega)) ?_)|(go_at_call 240;refine cb (Th _ _ _ _) ?_));go_roundw;exact⟨k+1,(p.1,p.2+1),by omega,by go_num,rfl,rfl,q,by simp only;omega,b.trans (v.mono b.size)⟩;simp[intOf];omega
   by_cases b3:k<=N
   . obtain rfl:k=N:=by omega
     have q:=I (f.1.close);go_wp2_with (first|(go_at_call 278;refine ca (Tc s o _ l a cap _ H (K.1 _ (Ab g b))) λw2 v=>?_)|(go_at_call 172;refine cb (Si _ _ (by omega) (by omega)) ?_)|(go_at_call 240;refine cb (Th _ _ _ _) ?_))
     all_goals
      go_roundw
      case rel=>exact⟨k+1,(p.1+(if n<=p.2/\0<p.2 then 1 else 0),0),by omega,by go_num,congrArg _ (by split <;> omega),rfl,q,by split <;> simp only <;> omega,b⟩
      case measure=>simp[intOf];omega
   have G:=I (f.1.fin (by omega));by_cases E:n=0
   . have V:=bTa E
     have C:=I E;go_wp2;go_ret2;exact⟨zJ (by rw[j.1,C.1];rfl) (by rw[j.1]),Ab g b⟩
   have V:=RZ E
   have C:=I E;go_wp2;go_ret2;exact⟨zJ (by rw[j.1,G.1,iN C.1]) (by rw[j.1]),Ab g b⟩
 have hz:Af (zdh s.data.toList o l x y c d=(0,Ee s.data.toList o l x y c d)):=I (by simp[zdh,A]);have hn:=CN A
 go_wp2;go_ret2;exact⟨zJ (by rw[hz.1]) (by rw[hz.1]),g⟩
def Zq(t:At)(c:Ad)(i j:Nat):Int:=(Aa t.fs j).ar+c.rl-((Aa t.fs i).dp-c.rp)
def Un(t:At)(c:Ad)(i j:Nat):Int:=(Jp (zp t (Aa t.fs i).fq).name.data.toList (zp t (Aa t.fs i).fq).off (zp t (Aa t.fs i).fq).sh ((Aa t.fs i).dp-c.rp) ((Aa t.fs j).ar+c.rl) c.nf c.nt).1
def Vw(t:At)(c:Ad)(i:Nat):Int:=(Ej (zp t (Aa t.fs i).fq).name.data.toList (zp t (Aa t.fs i).fq).off (zp t (Aa t.fs i).fq).sh ((Aa t.fs i).dp-c.rp)).1
def Vv(t:At)(c:Ad)(j:Nat):Int:=(Ej (zp t (Aa t.fs j).to).name.data.toList (zp t (Aa t.fs j).to).off (zp t (Aa t.fs j).to).sh ((Aa t.fs j).ar+c.rl)).1
def Nt(t:At)(c:Ad)(i j:Nat):Int:=mx (Vw t c i-Vv t c j) (Vv t c j-Vw t c i)
def Ov(t:At)(c:Ad)(i:Nat):Int:=(Kt (zp t (Aa t.fs i).fq).name.data.toList (zp t (Aa t.fs i).fq).off (zp t (Aa t.fs i).fq).sh ((Aa t.fs i).dp-c.rp)).2.1
def Mx(t:At)(c:Ad)(j:Nat):Int:=(Kt (zp t (Aa t.fs j).to).name.data.toList (zp t (Aa t.fs j).to).off (zp t (Aa t.fs j).to).sh ((Aa t.fs j).ar+c.rl)).2.1
def zq4(w0 w:Wd)(z:Cy)(e:Ending)(w':Wd):Prop:=∃a cap,e=.returned (.agg #[.string z.name,z.off,.slice a z.sh.length cap])/\Cj w0 a z.sh/\z.name.size<=140737488355328/\z.sh.length<=140737488355328/\Below w.heap.size w w'
def iW(d w:Wd)(f:Nat)(t:At)(c:Ad)(P:Dh)(e:Hl d f t c P)(g:Bw d w)(s:BA):Calls prog 94 #[Ua f 0,B_ s] w (zq4 d w (zp t s)):=by
 have⟨a,b,m,h,i,j⟩:=NK e.zn (Ab g (J w jQ)) s;have k:=I h;have hS':=e.below g;have l:=BN hS'.box;have n:=hS'.lt;go_in;go_wp2_with fail;refine bP (v:=.agg #[B_ (zp t s).name,(zp t s).off,CU a (zp t s).sh.length b]) (by simp[results,results94,go_sem]) rfl ?_;exact⟨a,b,rfl,k.1,i,j,J _ _⟩
theorem gY{nm:List UInt8}{t:Int}:-840<=(Ej nm o l t).1/\(Ej nm o l t).1<=840:=by
 by_cases h:(Ej nm o l t).2=0;exact(eL h).2.2;grind[Ej]
def Um(w:Wd){a b:Nat}(h:a≠b)(o c:Nat)(d:Value):(w.setCell (aD a c) d).cell? (aD b o)=w.cell? (aD b o):=by
 have e:(w.setCell (aD a c) d).heap[b]?=w.heap[b]?:=Below.heap_setCell _ _ _ _ (Ne.symm h);simp only[World.cell?,e]
def KN(V w:Wd)(y:Nat)(t:At)(c:Ad)(P:Dh)(hS:Hl V y t c P)(a5:Bw V w)(i j:Nat)(W:i<t.fs.length)(X:j<t.fs.length)(g:Nat)(v0 v1 v2 v3 v4 v5 v6 v7 v8 v9 z:Value)(hg:V.heap.size<=g)(hC:w.heap[g]?=some (.cells #[v0,v1,v2,v3,v4,v5,v6,v7,v8,v9,z] 3 (0,0)))(c0:0<Zq t c i j)(a6:(zp t (Aa t.fs i).fq).sh.length<=1000000)(c1:(zp t (Aa t.fs j).to).sh.length<=1000000):Calls prog 97 #[Ua y 0,Kx g 0 11 11,i,j] w λe w'=>e=.returned (.tuple #[])/\w'.heap[g]?=some (.cells #[v0,v1,v2,v3,(Zq t c i j),(Un t c i j),v6,v7,(Nt t c i j),(Ov t c i),(Mx t c j)] 3 (0,0))/\Bw V w':=by
 have H:=I hS;obtain⟨fb,a3,c2,Y,a7⟩:=Qg hS.fs (by omega);obtain⟨⟨-,p1,-⟩,-⟩:=a7 i W;obtain⟨⟨-,-,p2,-⟩,-⟩:=a7 j X;obtain⟨o0,o1,o2,o3⟩:=Lu hS.okT W;obtain⟨o4,o5,o6,o7⟩:=Lu hS.okT X;obtain⟨⟨k1,k2⟩,⟨k3,k4⟩,-,-,-,⟨k5,k6⟩,k7,k8⟩:=Ul hS.okC;have c3:=I c2;have i8:=I p1;have i9:=I p2;have c4:=I a5;have n9:=hS.lt;have HC:=I hC;have HS:=I (hS.below a5);clear hS a7 c2 p1 p2 a5 hC;go_in;go_wp2_with fail;refine ca (vG w y t c P HS.1 i j W X) λw1 a8=>?_;have a9:=I (Ab a8 (J w1 (oQ ((Aa t.fs i).dp-c.rp) ((Aa t.fs j).ar+c.rl))));have c5:=a8.size;clear a8 HS;obtain⟨G,Z⟩:=aT w1.heap.size;have S0:=I (show(w1.alloc (oQ ((Aa t.fs i).dp-c.rp) ((Aa t.fs j).ar+c.rl))).heap[G]?=some (oQ ((Aa t.fs i).dp-c.rp) ((Aa t.fs j).ar+c.rl)) by rw[Z];exact zh w1 _);have c6:w.heap.size<=G:=by rw[Z];exact c5
 go_wp2_with fail;simp only[<-Z];change Calls _ _ _ (w1.alloc _) _;generalize (w1.alloc (oQ ((Aa t.fs i).dp-c.rp) ((Aa t.fs j).ar+c.rl)))=W1 at*;clear Z c5;clear w1;have HB:=I (Ab c4.1 a9.1);have HG:=I ((a9.1.block g (Ag HC.1)).trans HC.1);have f:g≠G:=by have:=Ag HC.1;omega
 clear HC a9 c4;clear c6;clear w;refine cb (Pe W1 y t c P (H.1.below HB.1) i W fb a3 c3.1) ?_;have P1:=zj i8.1 Y HB.1;have c7:=As Y HB.1.size;go_wp2_with fail;refine(iW V W1 y t c P H.1 HB.1 _).mono ?_;rintro e w2 ⟨za,zc,rfl,c8,c9,_,a0⟩;have A:=I (Ab HB.1 a0);have S2:=I ((a0.block G (Ag S0.1)).trans S0.1);have G2:=I ((a0.block g (Ag HG.1)).trans HG.1);have b0:=I c8;have b1:=I (Bf c9 (show 2^47<=maxLen by unfold maxLen;omega));clear c8 c9 a0 S0 P1 HB c7 HG;clear W1;have Q2:=zj i9.1 Y A.1;have d0:=As Y A.1.size;go_wp2_with fail;refine cb (Pe w2 y t c P (H.1.below A.1) j X fb a3 c3.1) ?_;go_wp2_with fail;refine(iW V w2 y t c P H.1 A.1 _).mono ?_;rintro e w3 ⟨ya,yc,rfl,d1,d2,_,a1⟩;have d3:=I (Ab A.1 a1);have S3:=I ((a1.block G (Ag S2.1)).trans S2.1);have G3:=I ((a1.block g (Ag G2.1)).trans G2.1);have d4:=I d1;have d5:=I (Bf d2 (show 2^47<=maxLen by unfold maxLen;omega));clear d1 d2 a1 S2 A Q2 d0 G2;clear w2;have s0:=zw S3.1;have s1:=zu S3.1;have d6:=Ag S3.1;have y4:=Ks G3.1;have y5:=Lg G3.1;have u4:=CH G3.1;have u5:=E_ 5 G3.1;have j0:=Ag G3.1;have e5:(0:Int)<(Aa t.fs j).ar+c.rl-((Aa t.fs i).dp-c.rp):=c0;go_wp2_with fail;obtain⟨d,h⟩:∃d:Wd,d=((((w3.setCell (aD g 4) (Bn ((Aa t.fs j).ar+c.rl-((Aa t.fs i).dp-c.rp)))).setCell (aD g 5) (Bn 0)).alloc (Pc (zp t (Aa t.fs i).fq) za zc)).alloc (Pc (zp t (Aa t.fs j).to) ya yc)):=⟨_,rfl⟩;rw[<-h];have Q3:=zg (i:=5) (u:=Bn 0) (zg (i:=4) (u:=Bn ((Aa t.fs j).ar+c.rl-((Aa t.fs i).dp-c.rp))) G3.1);have G4:=I (show d.heap[g]?=some (.cells #[v0,v1,v2,v3,Bn ((Aa t.fs j).ar+c.rl-((Aa t.fs i).dp-c.rp)),Bn 0,v6,v7,v8,v9,z] 3 (0,0)) by rw[h];exact zd (zd Q3));have b2:((w3.setCell (aD g 4) (Bn ((Aa t.fs j).ar+c.rl-((Aa t.fs i).dp-c.rp)))).setCell (aD g 5) (Bn 0)).heap.size=w3.heap.size:=by simp
 have k:=I (show d.heap[w3.heap.size]?=some (Pc (zp t (Aa t.fs i).fq) za zc) by rw[h,<-b2];exact zd (zh _ _));have m:=I (show d.heap[w3.heap.size+1]?=some (Pc (zp t (Aa t.fs j).to) ya yc) by rw[h,<-b2,<-zr];exact zh _ _);have S4:=I (show d.heap[G]?=some (oQ ((Aa t.fs i).dp-c.rp) ((Aa t.fs j).ar+c.rl)) by rw[h];exact zd (zd (by rw[Below.heap_setCell _ _ _ _ (Ne.symm f),Below.heap_setCell _ _ _ _ (Ne.symm f)];exact S3.1)));have a2:=I (show Bw V d by rw[h];exact Ab (Ab ((d3.1.setCell (p:=aD g 4) hg _).setCell (p:=aD g 5) hg _) (J _ _)) (J _ _));obtain⟨zf,K⟩:=aT w3.heap.size;obtain⟨zt,L⟩:=aT (w3.heap.size+1);rw[<-K]at k;rw[<-L]at m;simp only[<-L];simp only[<-K];have b:g≠zf:=by omega
 have M:g≠zt:=by omega
 have a4:g≠y:=by omega
 clear h Q3 b2 K L s0 s1 d6 y4 y5 u4 u5 j0 S3 G3 d3 e5;clear w3;have N:=zw k.1;have Q:=zu k.1;have R:=zC k.1;have d7:=zw m.1;have f0:=zu m.1;have f1:=zC m.1;have b3:=zw S4.1;have b4:=zu S4.1;have S:=I (H.1.below a2.1);have d8:=Jg S.1.box;have d9:=Mg S.1.box;have f2:=S.1.lt;have f3:=I (GC (zp t (Aa t.fs i).fq).name (zp t (Aa t.fs i).fq).off ((Aa t.fs i).dp-c.rp) ((Aa t.fs j).ar+c.rl) c.nf c.nt (zp t (Aa t.fs i).fq).sh za zc d.drew b1.1 a6 (b0.1.below (a2.1.drew)));have l1:=Ag k.1;have l3:=Ag S4.1;have l4:=Ag G4.1;have l5:y<d.drew.heap.size:=S.1.lt;have D0:Af (d.drew.cell? (aD zf 0)=some (B_ (zp t (Aa t.fs i).fq).name)):=I N;have D1:Af (d.drew.cell? (aD zf 1)=some (Bn (zp t (Aa t.fs i).fq).off)):=I Q;have D2:Af (d.drew.cell? (aD zf 2)=some (CU za (zp t (Aa t.fs i).fq).sh.length zc)):=I R;have D3:Af (d.drew.cell? (aD G 0)=some (Bn ((Aa t.fs i).dp-c.rp))):=I b3;have D4:Af (d.drew.cell? (aD G 1)=some (Bn ((Aa t.fs j).ar+c.rl))):=I b4;have D5:Af (d.drew.cell? (aD y 8)=some (Bn c.nf)):=I d8;have D6:Af (d.drew.cell? (aD y 9)=some (Bn c.nt)):=I d9;have D7:Af (d.drew.heap[g]?=some (.cells #[v0,v1,v2,v3,Bn ((Aa t.fs j).ar+c.rl-((Aa t.fs i).dp-c.rp)),Bn 0,v6,v7,v8,v9,z] 3 (0,0))):=I G4.1;go_region_held3 (λw'=>w'.cell? (aD zf 0)=some (B_ (zp t (Aa t.fs i).fq).name)/\w'.cell? (aD zf 1)=some (Bn (zp t (Aa t.fs i).fq).off)/\w'.cell? (aD zf 2)=some (CU za (zp t (Aa t.fs i).fq).sh.length zc)/\w'.cell? (aD G 0)=some (Bn ((Aa t.fs i).dp-c.rp))/\w'.cell? (aD G 1)=some (Bn ((Aa t.fs j).ar+c.rl))/\w'.cell? (aD y 8)=some (Bn c.nf)/\w'.cell? (aD y 9)=some (Bn c.nt)) (first|exact⟨N,Q,R,b3,b4,d8,d9⟩|exact⟨m0,m1,m2,m3,m4,m5,m6⟩|exact⟨(Um _ b _ _ _).trans m0,(Um _ b _ _ _).trans m1,(Um _ b _ _ _).trans m2,(Um _ f _ _ _).trans m3,(Um _ f _ _ _).trans m4,(Um _ a4 _ _ _).trans m5,(Um _ a4 _ _ _).trans m6⟩)
  (first|(go_at_call 158;refine ca (f3.1) λw5 a=>?_;have m0:=zj D0.1 l1 a;have m1:=zj D1.1 l1 a;have m2:=zj D2.1 l1 a;have m3:=zj D3.1 l3 a;have m4:=zj D4.1 l3 a;have m5:=zj D5.1 l5 a;have m6:=zj D6.1 l5 a;have q5:=(a.block _ l4).trans D7.1;have y5:w5.cell? (aD g 5)=some (Bn 0):=EE 5 q5 rfl;have u5:=E_ 5 q5;have l6:=Ag q5))
 have G5:Af ((w5.setCell (aD g 5) (Bn (Jp (zp t (Aa t.fs i).fq).name.data.toList (zp t (Aa t.fs i).fq).off (zp t (Aa t.fs i).fq).sh ((Aa t.fs i).dp-c.rp) ((Aa t.fs j).ar+c.rl) c.nf c.nt).1)).heap[g]?=some (.cells #[v0,v1,v2,v3,Bn ((Aa t.fs j).ar+c.rl-((Aa t.fs i).dp-c.rp)),(Un t c i j),v6,v7,v8,v9,z] 3 (0,0))):=I (zg (i:=5) (u:=Bn (Jp (zp t (Aa t.fs i).fq).name.data.toList (zp t (Aa t.fs i).fq).off (zp t (Aa t.fs i).fq).sh ((Aa t.fs i).dp-c.rp) ((Aa t.fs j).ar+c.rl) c.nf c.nt).1) q5);have n:=I ((Below.heap_setCell w5 (aD g 5) (Bn (Jp (zp t (Aa t.fs i).fq).name.data.toList (zp t (Aa t.fs i).fq).off (zp t (Aa t.fs i).fq).sh ((Aa t.fs i).dp-c.rp) ((Aa t.fs j).ar+c.rl) c.nf c.nt).1) _ (Ne.symm b)).trans ((a.block _ l1).trans k.1));have q:=I ((Below.heap_setCell w5 (aD g 5) (Bn (Jp (zp t (Aa t.fs i).fq).name.data.toList (zp t (Aa t.fs i).fq).off (zp t (Aa t.fs i).fq).sh ((Aa t.fs i).dp-c.rp) ((Aa t.fs j).ar+c.rl) c.nf c.nt).1) _ (Ne.symm M)).trans ((a.block _ (show zt<d.drew.heap.size from Ag m.1)).trans m.1));have S5:=I ((Below.heap_setCell w5 (aD g 5) (Bn (Jp (zp t (Aa t.fs i).fq).name.data.toList (zp t (Aa t.fs i).fq).off (zp t (Aa t.fs i).fq).sh ((Aa t.fs i).dp-c.rp) ((Aa t.fs j).ar+c.rl) c.nf c.nt).1) _ (Ne.symm f)).trans ((a.block _ l3).trans S4.1));have b5:=I ((Ab (a2.1.drew) a).setCell (p:=aD g 5) hg (Bn (Jp (zp t (Aa t.fs i).fq).name.data.toList (zp t (Aa t.fs i).fq).off (zp t (Aa t.fs i).fq).sh ((Aa t.fs i).dp-c.rp) ((Aa t.fs j).ar+c.rl) c.nf c.nt).1));clear m0 m1 m2 m3 m4 m5 m6 q5 y5 u5 l1 l3 l4 l5 l6 D0 D1 D2 D3 D4 D5 D6 D7 f3 a N Q R d7 f0 f1 b3 b4 d8 d9 f2 S a2 k m S4 G4;generalize w5.setCell (aD g 5) (Bn (Jp (zp t (Aa t.fs i).fq).name.data.toList (zp t (Aa t.fs i).fq).off (zp t (Aa t.fs i).fq).sh ((Aa t.fs i).dp-c.rp) ((Aa t.fs j).ar+c.rl) c.nf c.nt).1)=W5 at*;clear w5;clear d;have f4:=zw n.1;have f5:=zu n.1;have f6:=zC n.1;have f7:=zw q.1;have f8:=zu q.1;have f9:=zC q.1;have j1:=zw S5.1;have j2:=zu S5.1;have j3:=Ag n.1;have j4:=Ag q.1;have j5:=Ag S5.1;go_wp2_with fail;refine ca (mV (zp t (Aa t.fs i).fq).name (zp t (Aa t.fs i).fq).off ((Aa t.fs i).dp-c.rp) (zp t (Aa t.fs i).fq).sh za zc W5 b1.1 a6 (b0.1.below b5.1)) λw6 B=>?_;have r:=I ((B.block _ (Ag n.1)).trans n.1);have s:=I ((B.block _ (Ag q.1)).trans q.1);have S6:=I ((B.block _ (Ag S5.1)).trans S5.1);have G6:=I ((B.block _ (Ag G5.1)).trans G5.1);have b6:=I (Ab b5.1 B);clear B f4 f5 f6 f7 f8 f9 j1 j2 j3 j4 j5 n q S5 G5 b5;try clear W5
 have g0:=zw r.1;have g1:=zu r.1;have g2:=zC r.1;have g3:=zw s.1;have g4:=zu s.1;have g5:=zC s.1;have j6:=zw S6.1;have j7:=zu S6.1;have j8:=Ag r.1;have j9:=Ag s.1;have k0:=Ag S6.1;go_wp2_with fail;refine ca (mV (zp t (Aa t.fs j).to).name (zp t (Aa t.fs j).to).off ((Aa t.fs j).ar+c.rl) (zp t (Aa t.fs j).to).sh ya yc w6 d5.1 c1 (d4.1.below b6.1)) λw7 C=>?_;have D:=I ((C.block _ (Ag r.1)).trans r.1);have E:=I ((C.block _ (Ag s.1)).trans s.1);have S7:=I ((C.block _ (Ag S6.1)).trans S6.1);have G7:=I ((C.block _ (Ag G6.1)).trans G6.1);have g6:=I (Ab b6.1 C);clear C g0 g1 g2 g3 g4 g5 j6 j7 j8 j9 k0 r s S6 G6 b6;clear w6;have ea:(Ej (zp t (Aa t.fs i).fq).name.data.toList (zp t (Aa t.fs i).fq).off (zp t (Aa t.fs i).fq).sh ((Aa t.fs i).dp-c.rp)).1=Vw t c i:=rfl;have eb:(Ej (zp t (Aa t.fs j).to).name.data.toList (zp t (Aa t.fs j).to).off (zp t (Aa t.fs j).to).sh ((Aa t.fs j).ar+c.rl)).1=Vv t c j:=rfl;rw[ea,eb];have ba:=gY (nm:=(zp t (Aa t.fs i).fq).name.data.toList) (o:=(zp t (Aa t.fs i).fq).off) (l:=(zp t (Aa t.fs i).fq).sh) (t:=((Aa t.fs i).dp-c.rp));have bb:=gY (nm:=(zp t (Aa t.fs j).to).name.data.toList) (o:=(zp t (Aa t.fs j).to).off) (l:=(zp t (Aa t.fs j).to).sh) (t:=((Aa t.fs j).ar+c.rl));rw[ea]at ba;rw[eb]at bb;obtain⟨o8,o9⟩:=ba;obtain⟨p0,p3⟩:=bb;clear ea eb;have g7:=zw D.1;have g8:=zu D.1;have g9:=zC D.1;have h0:=zw E.1;have h1:=zu E.1;have h2:=zC E.1;have k9:=zw S7.1;have l0:=zu S7.1;have l2:=Ag D.1;have l7:=Ag E.1;have l8:=Ag S7.1;have l9:=Ag G7.1;have y8:=Jg G7.1;have u8:=CH G7.1;go_upto_region 9 with fail
 have em:(if Vw t c i-Vv t c j<Vv t c j-Vw t c i then Vv t c j-Vw t c i else Vw t c i-Vv t c j)=Nt t c i j:=rfl;rw[em];clear em;have G8:Af ((w7.setCell (aD g 8) (Bn (Nt t c i j))).heap[g]?=some (.cells #[v0,v1,v2,v3,Bn ((Aa t.fs j).ar+c.rl-((Aa t.fs i).dp-c.rp)),(Un t c i j),v6,v7,(Nt t c i j),v9,z] 3 (0,0))):=I (zg (i:=8) (u:=Bn (Nt t c i j)) G7.1);have v:=I ((Below.heap_setCell w7 (aD g 8) (Bn (Nt t c i j)) _ (Ne.symm b)).trans D.1);have x:=I ((Below.heap_setCell w7 (aD g 8) (Bn (Nt t c i j)) _ (Ne.symm M)).trans E.1);have S8:=I ((Below.heap_setCell w7 (aD g 8) (Bn (Nt t c i j)) _ (Ne.symm f)).trans S7.1);have b7:=I (g6.1.setCell (p:=aD g 8) hg (Bn (Nt t c i j)));clear y8 u8 g7 g8 g9 h0 h1 h2 k9 l0 l2 l7 l8 l9 D E S7 G7 g6;generalize w7.setCell (aD g 8) (Bn (Nt t c i j))=W8 at*;clear w7;have h3:=zw v.1;have h4:=zu v.1;have h5:=zC v.1;have h6:=zw x.1;have h7:=zu x.1;have h8:=zC x.1;have m7:=zw S8.1;have m8:=zu S8.1;have m9:=Ag v.1;have n0:=Ag x.1;have n1:=Ag S8.1;go_wp2_with fail;refine ca (tL (zp t (Aa t.fs i).fq).name (zp t (Aa t.fs i).fq).off ((Aa t.fs i).dp-c.rp) (zp t (Aa t.fs i).fq).sh za zc W8 b1.1 a6 (b0.1.below b7.1)) λw9 F=>?_;have h9:=I ((F.block _ (Ag v.1)).trans v.1);have i0:=I ((F.block _ (Ag x.1)).trans x.1);have S9:=I ((F.block _ (Ag S8.1)).trans S8.1);have G9:=I ((F.block _ (Ag G8.1)).trans G8.1);have i1:=I (Ab b7.1 F);clear F h3 h4 h5 h6 h7 h8 m7 m8 m9 n0 n1 v x S8 G8 b7;clear W8;have ea:(Kt (zp t (Aa t.fs i).fq).name.data.toList (zp t (Aa t.fs i).fq).off (zp t (Aa t.fs i).fq).sh ((Aa t.fs i).dp-c.rp)).2.1=Ov t c i:=rfl;rw[ea];clear ea;have y9:=Mg G9.1;have u9:=CH G9.1;have n2:=Ag G9.1;go_upto_region 10 with fail
 have GA:Af ((w9.setCell (aD g 9) (Bn (Ov t c i))).heap[g]?=some (.cells #[v0,v1,v2,v3,Bn ((Aa t.fs j).ar+c.rl-((Aa t.fs i).dp-c.rp)),(Un t c i j),v6,v7,(Nt t c i j),(Ov t c i),z] 3 (0,0))):=I (zg (i:=9) (u:=Bn (Ov t c i)) G9.1);have T:=I ((Below.heap_setCell w9 (aD g 9) (Bn (Ov t c i)) _ (Ne.symm b)).trans h9.1);have U:=I ((Below.heap_setCell w9 (aD g 9) (Bn (Ov t c i)) _ (Ne.symm M)).trans i0.1);have SA:=I ((Below.heap_setCell w9 (aD g 9) (Bn (Ov t c i)) _ (Ne.symm f)).trans S9.1);have b8:=I (i1.1.setCell (p:=aD g 9) hg (Bn (Ov t c i)));clear y9 u9 n2 h9 i0 S9 G9 i1;generalize w9.setCell (aD g 9) (Bn (Ov t c i))=WA at*;clear w9;have i2:=zw T.1;have i3:=zu T.1;have i4:=zC T.1;have i5:=zw U.1;have i6:=zu U.1;have i7:=zC U.1;have n3:=zw SA.1;have n4:=zu SA.1;have n5:=Ag T.1;have n6:=Ag U.1;have n7:=Ag SA.1;go_wp2_with fail;refine ca (tL (zp t (Aa t.fs j).to).name (zp t (Aa t.fs j).to).off ((Aa t.fs j).ar+c.rl) (zp t (Aa t.fs j).to).sh ya yc WA d5.1 c1 (d4.1.below b8.1)) λwB b9=>?_;have GB:=I ((b9.block _ (Ag GA.1)).trans GA.1);have n8:=I (Ab b8.1 b9);clear b9 i2 i3 i4 i5 i6 i7 n3 n4 n5 n6 n7 T U SA GA b8;clear WA;have ea:(Kt (zp t (Aa t.fs j).to).name.data.toList (zp t (Aa t.fs j).to).off (zp t (Aa t.fs j).to).sh ((Aa t.fs j).ar+c.rl)).2.1=Mx t c j:=rfl;rw[ea];clear ea;have yB:=Ol GB.1;have uB:=CH GB.1;have p4:=Ag GB.1;go_wp2_with fail;go_end0
 exact⟨rfl,zg (i:=10) (u:=Bn (Mx t c j)) GB.1,n8.1.setCell (p:=aD g 10) hg _⟩
structure DV where
 legs:Int
 heads:Int
 blk:Int
 lng:Int
 sht:Int
 kinds:LB
def Mj(f:Ft)(s:DV):DV:=⟨s.legs+1,s.heads,s.blk+(f.ar-f.dp),s.lng,s.sht,if Ao s.kinds f.ty=true then s.kinds else s.kinds++ [f.ty]⟩
def zsk(s:DV):DV:=⟨s.legs,s.heads+1,s.blk,s.lng,s.sht,s.kinds⟩
def Ve(n:Int)(s:DV):DV:=⟨s.legs,s.heads,s.blk,mx s.lng n,mn s.sht n,s.kinds⟩
def Jv(t:At)(d:Ai)(k:Nat)(s:DV):DV:=if(Cm d k).2=true then zsk s else Mj (Ey t d k) s
def Ta(t:At)(d:Ai)(k:Nat)(s:DV):DV:=if 0<k then Ve ((Ey t d k).dp-(Ey t d (k-1)).ar) s else s
def By(t:At)(d:Ai):Nat->DV
 |0=>⟨0,0,0,0,1440, []⟩
 |k+1=>Ta t d k (Jv t d k (By t d k))
structure Qv(k:Nat)(s:DV):Prop where
 l0:0<=s.legs
 l1:s.legs<=k
 h0:0<=s.heads
 h1:s.heads<=k
 b0:0<=s.blk
 b1:s.blk<=k*1440
 g0:0<=s.lng
 g1:s.lng<=1440
 s0:0<=s.sht
 s1:s.sht<=1440
 kl:s.kinds.length<=k
theorem Qv.a{t:At}{c:Ad}{d:Ai}(b:zY t=0)(e:Cc t c d=0)(f:k<d.length){s:DV}(h:Qv k s):Qv (k+1) (Jv t d k s):=by
 have g:=bM b e f;obtain⟨i,j,l,m,n,o,p,q,r,u,v⟩:=h;unfold Jv;split;constructor <;> simp only[zsk] <;> omega;refine⟨by grind[Mj],by grind[Mj],by grind[Mj],by grind[Mj],by grind[Mj],by grind[Mj],by grind[Mj],by grind[Mj],by grind[Mj],by grind[Mj],?_⟩;grind[Mj]
def Qv.b{t:At}{c:Ad}{d:Ai}(q:zY t=0)(e:Ax c=0)(f:Cc t c d=0)(g:k<d.length){s:DV}(h:Qv n s):Qv n (Ta t d k s):=by
 unfold Ta;split;rename_i a;have r:=kM e f g a;obtain⟨i,j,a,l,m,o,u,v,w,x,p⟩:=h;refine⟨i,j,a,l,m,o,?_,?_,?_,?_,p⟩ <;> simp only[Ve,mx,mn] <;> split <;> omega;exact h
def Qv.to{t:At}{c:Ad}{d:Ai}(e:zY t=0)(g:Ax c=0)(f:Cc t c d=0):∀k,k<=d.length->Qv k (By t d k)
 |0,_=>by constructor <;> simp[By]
 |k+1,hk=>(Qv.to e g f k (by omega)).a e f (by omega) |>.b e g f (by omega)
def yO:(prog.info? 9).map (λi=>(i.zero,i.size,i.bytes))=some (some (B_ ByteArray.empty),1,16):=by kernel_rfl
def iR{l:LB}(h:w.ownsRow c e 1 v l.length (l.map Value.string)):∃a b,v=CU a l.length b/\Lz w a l:=by
 by_cases d:0<l.length;have⟨a,b,f,i,_⟩:=Lz.of_own h d;exact⟨a,b,f,i⟩;have j:l= []:=by cases l with|nil=>rfl|cons x l=>simp at d
 subst j;rcases h.2 with⟨rfl,_⟩|⟨g,b,k,rfl,_⟩;exact⟨none,0,rfl,.inl rfl⟩;exact⟨_,b,rfl,.inl rfl⟩
def dX{a:Nat}{b:LV}(h:w.ownsRow (g+1) e a v n b)(i:Nat)(u:Value):(w.setCell (aD g i) u).ownsRow (g+1) e a v n b:=
 h.kept (Lib.grownBy_setCell w g i u) (.inr (λhk=>by have:=Lt h g hk;omega))
theorem Sk{a:Nat}{b:Nat}{c:LV}(h:w.ownsRow a e b v n c)(d:Bw w w'):w'.ownsRow a e b v n c:=
 h.kept (zP none d) (by grind)
def Bo(t:At)(c:Ad)(d:Ai):LI:= [(By t d d.length).legs,(By t d d.length).heads,(By t d d.length).kinds.length,(By t d d.length).blk,Zq t c (fstN d) (lstN d),Un t c (fstN d) (lstN d),(By t d d.length).lng,(By t d d.length).sht,Nt t c (fstN d) (lstN d),Ov t c (fstN d),Mx t c (lstN d)]
def zAa(w:Wd)(sb:Nat)(t:At)(c:Ad)(P:Dh)(hS:Hl w sb t c P)(d:Ai)(a:Ae)(cap:Nat)(hd:Cc t c d=0)(ha:Al Ei w a d):Calls prog 44 #[.pointer (some (aD sb 0)),CU a d.length cap] w λe w'=>∃b,w.heap.size<=b/\e=.returned (CU (some (aD b 0)) 11 11)/\zW w' (some (aD b 0)) (Bo t c d)/\Bw w w':=by
 obtain⟨i0,hi,d4,d5,d6⟩:=info_parts yO;obtain⟨h1,h2,h3,_⟩:=Ka hd;obtain⟨W,d7,A,b1⟩:=Jl hd;obtain⟨b,F,rfl,K,b2⟩:=Ok ha (by omega);obtain⟨fb,a3,b3,z,b4⟩:=Qg hS.fs (by omega);have HT:=I b2;have b5:=I b4;have b6:=I b3;have o:=I hS;have HD:=I hd;have H3:=I h3;have g0:∀w:Wd,(Instr.makeSlice 22 (.int .i64 11) (.int .i64 11)).run prog w=.ok (CU (some (aD w.heap.size 0)) 11 11) (w.alloc (.cells #[.int .i64 0,.int .i64 0,.int .i64 0,.int .i64 0,.int .i64 0,.int .i64 0,.int .i64 0,.int .i64 0,.int .i64 0,.int .i64 0,.int .i64 0] 3)):=λ_=>by kernel_rfl
 clear hS ha b2 b4 b3 hd h3 W A;go_enter func44,ntmps44
 go_wp2_with fail;go_loopw [6,16] (λkv i wr=>∃(k:Nat) (v:Value),k<=d.length/\i=.int .i64 k/\kv=v/\Af (wr.ownsRow (w.heap.size+1) 9 1 v (By t d k).kinds.length ((By t d k).kinds.map Value.string))/\Af (wr.heap[w.heap.size]?=some (.cells #[(By t d k).legs,(By t d k).heads,.int .i64 0,(By t d k).blk,.int .i64 0,.int .i64 0,(By t d k).lng,(By t d k).sht,.int .i64 0,.int .i64 0,.int .i64 0] 3 (0,0)))/\Af (Bw w wr)) (λ_ i _=>d.length-(intOf i).toNat)
 case atStart=>exact⟨0,_,Bg _,rfl,rfl,I (World.ownsRow_nil _ _ _ _),I (zh w _),I (J w _)⟩
 obtain⟨k,v,hk,rfl,rfl,hO,X,hB⟩:=hrel;by_cases G:k<d.length
 . obtain⟨m,W,b7⟩:=Qh (H3.1 k G);have L:=zj (HT.1 k G).1 K hB.1;have c1:=zj (HT.1 k G).2 K hB.1;rw[W]at L;have g1:=As K hB.1.size;obtain⟨s,M⟩:∃s,s=By t d k:=⟨_,rfl⟩;rw[<-M]at hO X;have b8:=Qv.to o.1.okT o.1.okC HD.1 k hk;rw[<-M]at b8;obtain⟨g2,g3,g4,g5,g6,g7,g8,g9,h4,h5,h6⟩:=b8;have h7:k<6:=by omega
   have d8:=bM o.1.okT HD.1 G;obtain⟨q0,q1,q2,q3⟩:=d8;have HF:=I (show Aa t.fs m=Ey t d k by unfold Ey;rw[W];rfl);obtain⟨⟨-,-,-,pd,pa,pt,-⟩,-⟩:=b5.1 m b7;rw[HF.1]at pd pa pt;have a5:=I pd;have b9:=I pa;have c6:=I pt;have a6:=I M;have Hm:=I W;obtain⟨f,hf⟩:∃f,f=Ey t d k:=⟨_,rfl⟩;rw[<-hf]at HF a5 b9 c6 q0 q1 q2 q3;have Hf:=I hf;have c7:=I (λh0:0<k=>kM o.1.okC HD.1 G h0);clear pd pa pt M W hf;have C:=I (Ab hB.1 (J wr (oT (m:Int) (Cm d k).2)));have U:=I (zd (o':=(oT (m:Int) (Cm d k).2)) X.1);have O1:=I (hO.1.alloc (oT (m:Int) (Cm d k).2));have T1:=I (zh wr (oT (m:Int) (Cm d k).2));clear hB X hO;go_wp2_with fail;generalize wr.alloc (oT (m:Int) (Cm d k).2)=W1 at*;refine cb (Pe W1 sb t c P (o.1.below C.1) m b7 fb a3 b6.1) ?_;clear L c1;have x1:=zu T1.1;have xl:=Ag T1.1;have Y:=Ag U.1;have B:=As z C.1.size;go_upto_if 26 with(fail)
   go_cut [6] (λkv wx=>∃v,kv=v/\Af (wx.ownsRow (w.heap.size+1) 9 1 v (Jv t d k s).kinds.length ((Jv t d k s).kinds.map Value.string))/\Af (wx.heap[w.heap.size]?=some (.cells #[(Jv t d k s).legs,(Jv t d k s).heads,.int .i64 0,(Jv t d k s).blk,.int .i64 0,.int .i64 0,(Jv t d k s).lng,(Jv t d k s).sht,.int .i64 0,.int .i64 0,.int .i64 0] 3 (0,0)))/\Af (Bw w wx))
   case first=>
    cases hh:(Cm d k).2
    . have HH:=I hh;clear hh;have y0:=zw U.1;have u0:=CH U.1;go_upto_region 11 with fail
      have H:Af ((W1.setCell (aD w.heap.size 0) (.int .i64 (s.legs+1))).heap[w.heap.size]?=some (.cells #[.int .i64 (s.legs+1),s.heads,.int .i64 0,s.blk,.int .i64 0,.int .i64 0,s.lng,s.sht,.int .i64 0,.int .i64 0,.int .i64 0] 3 (0,0))):=I (zg (i:=0) (u:=.int .i64 (s.legs+1)) U.1);have O2:=I (dX O1.1 0 (.int .i64 (s.legs+1)));have g:=I (C.1.setCell (p:=aD w.heap.size 0) (Bv _) (.int .i64 (s.legs+1)));clear y0 u0 x1 xl Y B U O1 T1 C;generalize W1.setCell (aD w.heap.size 0) (.int .i64 (s.legs+1))=V at*;clear W1;have y3:=Hk H.1;have u3:=CH H.1;have Y:=Ag H.1;have c2:=zj a5.1 z g.1;have c3:=zj b9.1 z g.1;have B:=As z g.1.size;have d9:IntKind.i64.wrap (f.ar-f.dp)=f.ar-f.dp:=by rw[wI];omega
      have f0:IntKind.i64.wrap (s.blk+(f.ar-f.dp))=s.blk+(f.ar-f.dp):=by rw[wI];omega
      go_region
      have N:Af ((V.setCell (aD w.heap.size 3) (.int .i64 (s.blk+(f.ar-f.dp)))).drew.heap[w.heap.size]?=some (.cells #[.int .i64 (s.legs+1),s.heads,.int .i64 0,.int .i64 (s.blk+(f.ar-f.dp)),.int .i64 0,.int .i64 0,s.lng,s.sht,.int .i64 0,.int .i64 0,.int .i64 0] 3 (0,0))):=I (zg (i:=3) (u:=.int .i64 (s.blk+(f.ar-f.dp))) H.1);have Z:Af ((V.setCell (aD w.heap.size 3) (.int .i64 (s.blk+(f.ar-f.dp)))).drew.ownsRow (w.heap.size+1) 9 1 u6 s.kinds.length (s.kinds.map Value.string)):=I (dX O2.1 3 (.int .i64 (s.blk+(f.ar-f.dp))));have r:=I ((g.1.setCell (p:=aD w.heap.size 3) (Bv _) (.int .i64 (s.blk+(f.ar-f.dp)))).drew);clear y3 u3 Y c2 c3 B d9 f0 H O2 g;generalize (V.setCell (aD w.heap.size 3) (.int .i64 (s.blk+(f.ar-f.dp)))).drew=W3 at*;clear V;have c5:=zj c6.1 z r.1;have B:=As z r.1.size;obtain⟨ka,kc,rfl,E⟩:=iR Z.1;have Q:=I E;clear E;go_wp2_with fail;refine cb (IB s.kinds f.ty ka kc W3 Q.1 (by omega)) ?_;cases R:Ao s.kinds f.ty
      . have HA:=I (show Jv t d k s=⟨s.legs+1,s.heads,s.blk+(f.ar-f.dp),s.lng,s.sht,s.kinds++ [f.ty]⟩ by rw[Jv,iN (by rw[HH.1];decide),<-Hf.1,Mj,iN (by rw[R];decide)]);have HK:=I R;clear R Q;go_wp2_with (at_builtin;refine wpList_append_own _ rfl _ _ 36 rfl (w.heap.size+1) 9 i0 (B_ ByteArray.empty) 1 16 underlying36 hi d4 d5 d6 rfl (by decide) _ _ _ rfl (Z.1.alloc _) (aD W3.heap.size 0) 1 1 [B_ f.ty] rfl rfl ?c1 ?c2 ?c3 ?c4 ?c5 ?_)
        case c1=>exact Hh W3 [B_ f.ty] 9
        case c2=>intro u hu;simp at hu;subst hu;rfl
        case c3=>unfold maxLen;omega
        case c4=>omega
        case c5=>have:=Ag N.1;simp;omega
        intro v' WX S D _;have c8:Value.ownBlock (CU ka s.kinds.length kc)≠some w.heap.size:=λhk=>by have:=Lt Z.1 _ hk;omega
        have GX:=I ((D.block _ (by have:=Ag N.1;simp;omega) (Ne.symm c8)).trans (zd N.1));have l:=I ((r.1.alloc r.1.size _).grown D (by have:=r.1.size;simp;omega) (λj hj=>by have:=Lt Z.1 j hj;omega));have OX:=I (show WX.ownsRow (w.heap.size+1) 9 1 v' (s.kinds++ [f.ty]).length ((s.kinds++ [f.ty]).map Value.string) by rw[Gh,Ii];exact S);clear S D c8 c5 B N Z r;go_wp2;go_meet
        case rel=>exact⟨_,rfl,I (by rw[HA.1];exact OX.1),I (by rw[HA.1];exact GX.1),l⟩
      have HA:=I (show Jv t d k s=⟨s.legs+1,s.heads,s.blk+(f.ar-f.dp),s.lng,s.sht,s.kinds⟩ by rw[Jv,iN (by rw[HH.1];decide),<-Hf.1,Mj,iP R]);clear R Q c5 B;go_wp2;go_meet
      case rel=>exact⟨_,rfl,I (by rw[HA.1];exact Z.1),I (by rw[HA.1];exact N.1),r⟩
    have HA:=I (show Jv t d k s=⟨s.legs,s.heads+1,s.blk,s.lng,s.sht,s.kinds⟩ by rw[Jv,iP hh];rfl);clear hh;have y1:=zu U.1;have u1:=CH U.1;go_wp2_with fail;have GX:Af ((W1.setCell (aD w.heap.size 1) (.int .i64 (s.heads+1))).heap[w.heap.size]?=some (.cells #[s.legs,.int .i64 (s.heads+1),.int .i64 0,s.blk,.int .i64 0,.int .i64 0,s.lng,s.sht,.int .i64 0,.int .i64 0,.int .i64 0] 3 (0,0))):=I (zg (i:=1) (u:=.int .i64 (s.heads+1)) U.1);have OX:=I (dX O1.1 1 (.int .i64 (s.heads+1)));have l:=I (C.1.setCell (p:=aD w.heap.size 1) (Bv _) (.int .i64 (s.heads+1)));clear y1 u1 x1 xl Y B U O1 T1 C;generalize W1.setCell (aD w.heap.size 1) (.int .i64 (s.heads+1))=WX at*;clear W1;go_meet
    case rel=>exact⟨_,rfl,I (by rw[HA.1];exact OX.1),I (by rw[HA.1];exact GX.1),l⟩
   clear x1 xl Y B U O1 T1 C;obtain⟨v,rfl,OX,GX,l⟩:=hcut;have x:=I (show By t d (k+1)=Ta t d k (Jv t d k s) by rw[By,<-a6.1]);generalize (Jv t d k s)=q at*;rcases Nat.eq_zero_or_pos k with a0|a0
   . have x:=I (x.1.trans (iN (by omega)));have dk:decide (0<k)=false:=by simp;omega
     go_wp2;go_roundw
     case rel=>exact⟨k+1,_,by omega,by go_num,rfl,I (by rw[x.1];exact OX.1),I (by rw[x.1];exact GX.1),l⟩
     case measure=>simp[intOf];omega
   have x:=I (x.1.trans (iP a0));rw[<-Hf.1]at x;have dk:decide (0<k)=true:=by simpa using a0
   have a7:k-1<d.length:=by omega
   obtain⟨m',A,a4⟩:=Qh (H3.1 (k-1) a7);have f1:=I (show Aa t.fs m'=(Ey t d (k-1)) by unfold Ey;rw[A];rfl);obtain⟨⟨-,-,-,-,a8,-⟩,-⟩:=b5.1 m' a4;rw[f1.1]at a8;obtain⟨z0,z1⟩:=c7.1 a0;rw[<-Hf.1]at z0 z1;have f2:b<wc.heap.size:=As K l.1.size;have f3:fb<wc.heap.size:=As z l.1.size;have L:=zj (HT.1 (k-1) a7).1 K l.1;rw[A]at L;have c2:=zj a5.1 z l.1;have c3:=zj a8 z l.1;have c9:=I (o.1.below l.1);have C1:=I (λdd os=>Fa ((Pe (grow (redrawn wc dd) os) sb t c P (c9.1.below (bR wc dd os)) m' a4 fb a3 b6.1).mono (λe w' h=>aI h.1 (show Below (grow (redrawn wc dd) os).heap.size (grow (redrawn wc dd) os) w' from h.2 ▸ An _ _))));have a9:(0:Int)<=(k:Int)-1:=by omega
   have b0:(k:Int)-1<(d.length:Int):=by omega
   have e1:IntKind.i64.wrap ((k:Int)-1)=(k:Int)-1:=by rw[wI];omega
   have e2:((k:Int)-1).toNat=k-1:=by omega
   have gX:wc.heap[w.heap.size]?=some (.cells #[q.legs,q.heads,.int .i64 0,q.blk,.int .i64 0,.int .i64 0,q.lng,q.sht,.int .i64 0,.int .i64 0,.int .i64 0] 3 (0,0)):=GX.1;have T:(Ey t d (k-1)).ar=f.dp-(f.dp-(Ey t d (k-1)).ar):=by omega
   have f4:0<=(Ey t d (k-1)).ar/\(Ey t d (k-1)).ar<=60000000:=by have:=bM o.1.okT HD.1 a7;omega
   obtain⟨h8,h9⟩:=f4;clear T a8 A;go_wp2_with fail;have r0:=λdd os=>cR L dd os
   have r2:=λdd os=>cR c2 dd os
   have r3:=λdd os=>cR c3 dd os
   refine wQ (by kernel_rfl) (by kernel_rfl) ?_;repeat go_big_quiet_step (first|(with_reducible exact C1.1 _ _))
   refine wpQuiet_nil ?_;intro _ f5;obtain⟨⟨dq,d0⟩,d1⟩:=f5;subst d1;have a1:=bR wc dq d0;have g:=I (Ab l.1 a1);have H:=I ((a1.block _ (Ag GX.1)).trans GX.1);have O2:=I (Sk OX.1 a1);clear a1 r0 r2 r3 L c2 c3 C1 c9 gX f2 f3 a9 b0 e1 e2 OX GX l;generalize grow (redrawn wc dq) d0=V at*;obtain⟨y,T⟩:∃y,y=f.dp-(Ey t d (k-1)).ar:=⟨_,rfl⟩;rw[<-T]at z0 z1 x;rw[<-T];clear T;have y6:=Mf H.1;have u6:=E_ 6 H.1;have Y:=Ag H.1;go_upto_region 17 with fail
   have em:(if q.lng<y then y else q.lng)=mx q.lng y:=rfl;rw[em];clear em;have N:Af ((V.setCell (aD w.heap.size 6) (.int .i64 (mx q.lng y))).heap[w.heap.size]?=some (.cells #[q.legs,q.heads,.int .i64 0,q.blk,.int .i64 0,.int .i64 0,(mx q.lng y),q.sht,.int .i64 0,.int .i64 0,.int .i64 0] 3 (0,0))):=I (zg (i:=6) (u:=.int .i64 (mx q.lng y)) H.1);have Z:=I (dX O2.1 6 (.int .i64 (mx q.lng y)));have r:=I (g.1.setCell (p:=aD w.heap.size 6) (Bv _) (.int .i64 (mx q.lng y)));clear y6 u6 Y H O2 g;generalize V.setCell (aD w.heap.size 6) (.int .i64 (mx q.lng y))=W3 at*;clear V;have y7:=Ic N.1;have u7:=CH N.1;have Y:=Ag N.1;go_upto_region 18 with fail
   have em:(if y<q.sht then y else q.sht)=mn q.sht y:=rfl;rw[em];clear em;have G4:Af ((W3.setCell (aD w.heap.size 7) (.int .i64 (mn q.sht y))).heap[w.heap.size]?=some (.cells #[q.legs,q.heads,.int .i64 0,q.blk,.int .i64 0,.int .i64 0,(mx q.lng y),(mn q.sht y),.int .i64 0,.int .i64 0,.int .i64 0] 3 (0,0))):=I (zg (i:=7) (u:=.int .i64 (mn q.sht y)) N.1);have O4:=I (dX Z.1 7 (.int .i64 (mn q.sht y)));have f6:=I (r.1.setCell (p:=aD w.heap.size 7) (Bv _) (.int .i64 (mn q.sht y)));clear y7 u7 Y N Z r;generalize W3.setCell (aD w.heap.size 7) (.int .i64 (mn q.sht y))=W4 at*;clear W3;go_wp2;go_roundw
   case rel=>exact⟨k+1,_,by omega,by go_num,rfl,I (by rw[x.1];exact O4.1),I (by rw[x.1];exact G4.1),f6⟩
   case measure=>simp[intOf];omega
 obtain rfl:k=d.length:=by omega
 clear hk G;have y2:=zC X.1;have u2:=CH X.1;have lg:=Ag X.1;obtain⟨ka,kc,rfl,E⟩:=iR hO.1;clear E;go_upto_region 20 with fail
 obtain⟨s,M⟩:∃s,s=By t d d.length:=⟨_,rfl⟩;rw[<-M]at X;rw[<-M];have a6:=I M;clear M;have H:Af ((wr.setCell (aD w.heap.size 2) (.int .i64 (s.kinds.length:Int))).heap[w.heap.size]?=some (.cells #[s.legs,s.heads,(s.kinds.length:Int),s.blk,.int .i64 0,.int .i64 0,s.lng,s.sht,.int .i64 0,.int .i64 0,.int .i64 0] 3 (0,0))):=I (zg (i:=2) (u:=.int .i64 (s.kinds.length:Int)) X.1);have g:=I (hB.1.setCell (p:=aD w.heap.size 2) (Bv _) (.int .i64 (s.kinds.length:Int)));clear y2 u2 lg X hO hB;generalize wr.setCell (aD w.heap.size 2) (.int .i64 (s.kinds.length:Int))=V at*;obtain⟨W,-,A,-⟩:=Jl HD.1;have L:=zj (HT.1 0 (by omega)).1 K g.1;have c1:=zj (HT.1 (d.length-1) (by omega)).1 K g.1;rw[W,Nat.zero_mul,Nat.add_zero]at L;rw[A]at c1;have i1:=As K g.1.size;obtain⟨n,hn⟩:∃n,d.length=n+1:=⟨d.length-1,by omega⟩;have f7:n<=5:=by omega
 have e1:((n+1:Nat):Int)-1=(n:Int):=by omega
 have e2:((n+1:Nat):Int)=(n:Int)+1:=by omega
 have e3:IntKind.i64.wrap ((n:Int)+1-1)=(n:Int):=by rw[wI];omega
 have e4:((n:Int)+1-1)=(n:Int):=by omega
 have e5:IntKind.i64.wrap (n:Int)=(n:Int):=by rw[wI];omega
 have e6:IntKind.i64.wrap (((n+1:Nat):Int)-1)=(n:Int):=by rw[wI];omega
 have a9:(0:Int)<=(n:Int):=by omega
 have b0:(n:Int)<(n:Int)+1:=by omega
 have f8:n<n+1:=by omega
 have FE:=I (KN w V.drew sb t c P o.1 (g.1.drew) (fstN d) (lstN d) d7 b1 w.heap.size _ _ _ _ _ _ _ _ _ _ _ (Bv _) H.1 (oG o.1.okT o.1.okC HD.1) (Bf (Vz o.1.okT _) (by omega)) (Bf (Vz o.1.okT _) (by omega)));clear W A h1 h2 f7;rw[hn]at c1 ⊢;rw[Nat.add_sub_cancel]at c1;have i2:=I hn;clear hn;go_region_held3 (λw'=>w'.cell? (aD b F)=some (.int .i64 (fstN d:Int))/\w'.cell? (aD b (F+n*2))=some (.int .i64 (lstN d:Int))) (first|exact⟨L,c1⟩|exact⟨m0,m1⟩)
  (first|(go_at_call 97;refine(FE.1).mono ?_;rintro e w5 ⟨rfl,d2,a2⟩;have m0:=((a2.cell (p:=aD b F) K).trans ((g.1.cell (p:=aD b F) K).symm)).trans L;have m1:=((a2.cell (p:=aD b (F+n*2)) K).trans ((g.1.cell (p:=aD b (F+n*2)) K).symm)).trans c1))
 have d3:=I d2;have f9:=I a2;clear d2 a2 m0 m1 L c1 e1 e2 e3 e4 e5 e6 a9 b0 f8 FE;go_wp2;go_ret;refine⟨w.heap.size,Bv _,rfl,.inr ⟨w.heap.size,0,rfl,Ag d3.1,λi hi=>?_⟩,f9.1⟩;refine zm d3.1 ?_;have M:=a6.1;subst M;rw[Nat.zero_add];have hl:(Bo t c d).length=11:=rfl;rw[hl]at hi;rcases i with _|_|_|_|_|_|_|_|_|_|_|i
 all_goals first|rfl|omega
def gE(w:Wd)(f:Nat)(t:At)(c:Ad)(P:Dh)(g:Hl w f t c P)(d:Ai)(a:Ae)(cap:Nat)(i:Cc t c d=0)(j:Al Ei w a d):Calls prog 44 #[Ua f 0,CU a d.length cap] w λe w'=>∃b,e=.returned (Kx b 0 11 11)/\zW w' (some (aD b 0)) (Bo t c d)/\Bw w w':=
 (zAa w f t c P g d a cap i j).mono λ_ _ ⟨b,_,h⟩=>⟨b,h⟩
def Bk(t:At)(c:Ad)(d:Ai):Int:=if zY t≠0 then zY t else if Ax c≠0 then Ax c else Cc t c d
theorem pW{t:At}{c:Ad}{d:Ai}(h:zY t≠0):Bk t c d=zY t:=iP h
theorem pY{t:At}{c:Ad}{d:Ai}(h:zY t=0)(a:Ax c≠0):Bk t c d=Ax c:=by grind[Bk]
theorem pX{t:At}{c:Ad}{d:Ai}(h:zY t=0)(a:Ax c=0):Bk t c d=Cc t c d:=by grind[Bk]
def oY{a b:Int}(h:a=b):Ending.returned (.tuple #[v,a])=.returned (.tuple #[v,b]):=by rw[h]
inductive UQ(w:Wd)(t:At)(c:Ad)(d:Ai)(e:Ending)(w':Wd):Prop
 |bad (h:Bk t c d≠0) (he:e=.returned (.tuple #[.pointer none,(Bk t c d)]))
 |ok (sb:Nat) (P:Dh) (h:Bk t c d=0) (hd:Cc t c d=0) (he:e=.returned (.tuple #[.pointer (some (aD sb 0)),.int .i64 0])) (hs:Hl w' sb t c P) (hn:P.nights=qE c)
def MJ(w:Wd)(t:At)(c:Ad)(d:Ai)(e:Ending)(w':Wd):Prop:=UQ w t c d e w'/\Below w.heap.size w w'
def FJ(t:At)(c:Ad)(k:Ae)(q:Nat)(l:Ae)(r:Nat)(fa:Ae)(fc:Nat)(p:Bd)(A:Rn t c k q l r fa fc p)(w:Wd)(B:Ea w t c k l fa p)(d:Ai)(u:Ae)(C:Nat)(K:d.length<=2^47)(D:Al Ei w u d):Calls prog 43 #[Az t k q l r fa fc,Ay c p,CU u d.length C] w (MJ w t c d):=by
 try delta Ay Az
 have L:=I B;have M:=I D;have N:=I A;go_in;go_wp2_with fail;have f:=I (Ab (J w (Ap t k q l r fa fc)) (J _ (Aj c p)));generalize (w.alloc (Ap t k q l r fa fc)).alloc (Aj c p)=Q at*;refine(N.1 Q (L.1.below f.1)).mono ?_;rintro e R ⟨m,n⟩;have b:=I (Ab f.1 n);rcases m with⟨h,rfl⟩|⟨h,v,rfl⟩|⟨E,P,rfl,F,_,G⟩
 . have H:=CN h
   have a:=I h;go_wp2;go_ret2;exact⟨.bad (by rw[pW a.1];exact a.1) (oY (pW a.1).symm),b.1⟩
 . have H:=CN v
   have a:=I h;have g:=I v;go_wp2;go_ret2;exact⟨.bad (by rw[pY a.1 g.1];exact g.1) (oY (pY a.1 g.1).symm),b.1⟩
 have s:=I F;have x:=I G;go_wp2_with fail;refine ca (gD R E t c P s.1 d u C K (M.1.below b.1)) λS i=>?_;have o:=I (Ab b.1 i);have y:=I (s.1.below i);have z:=I (pX (d:=d) s.1.okT s.1.okC);by_cases j:Cc t c d=0
 . have a:=I j;rw[j];go_wp2;go_ret2;exact⟨.ok E P (by rw[z.1];exact a.1) a.1 rfl y.1 x.1,o.1⟩
 have H:=CN j
 have a:=I j;go_wp2;go_ret2;exact⟨.bad (by rw[z.1];exact a.1) (oY z.1.symm),o.1⟩
def We(w:Wd)(b:Nat)(N:LB)(q:LI):Prop:=∃C,w.heap[b]?=some (.cells C 116 (0,0))/\C.toList.take (q.length*2)=Lv N q q.length
inductive UX(w:Wd)(N:LB)(q:LI)(er:Int)(e:Ending)(w':Wd):Prop
 |bad (h:er≠0) (he:e=.returned (.tuple #[.slice none 0 0,er]))
 |ok (b:Nat) (h:er=0) (he:e=.returned (.tuple #[.slice (some (aD b 0)) q.length q.length,.int .i64 0])) (hq:q.length=N.length) (hr:We w' b N q)
def gU(w:Wd)(N:LB)(q:LI)(er:Int)(e:Ending)(w':Wd):Prop:=UX w N q er e w'/\Below w.heap.size w w'
def sP(t:At)(c:Ad)(g:Ae)(j:Nat)(i:Ae)(k:Nat)(fa:Ae)(fc:Nat)(p:Bd)(D:Rn t c g j i k fa fc p)(w:Wd)(E:Ea w t c g i fa p)(d:Ai)(s:Ae)(u:Nat)(N:d.length<=2^47)(F:Al Ei w s d):Calls prog 13 #[Az t g j i k fa fc,Ay c p,CU s d.length u] w (gU w (zk 1) (Bo t c d) (Bk t c d)):=by
 try delta Ay Az
 have Q:=I E;have G:=I F;have R:=I D;go_in;go_wp2_with fail;have a:=I (Ab (J w (Ap t g j i k fa fc)) (J _ (Aj c p)));generalize (w.alloc (Ap t g j i k fa fc)).alloc (Aj c p)=S at*;refine(FJ t c g j i k fa fc p R.1 S (Q.1.below a.1) d s u N (G.1.below a.1)).mono ?_;rintro e T ⟨l,m⟩;have f:=I (Ab a.1 m);rcases l with⟨h,rfl⟩|⟨U,P,h,n,rfl,H,_⟩
 . have Y:=CN h
   have v:=I h;go_wp2;go_ret2;exact⟨.bad v.1 rfl,f.1⟩
 have V:=I H;have v:=I h;have x:=I n;go_wp2_with fail;refine(gE T U t c P V.1 d s u x.1 (G.1.below f.1)).mono ?_;rintro e K ⟨b,rfl,L,o⟩;have W:=I L;have y:=I (Ab f.1 o);go_wp2_with fail;refine(qW 1 (by decide) (by decide) (Bo t c d) (some (aD b 0)) 11 K rfl W.1).mono ?_;rintro e X ⟨C,rfl,M,z,q,r⟩;have A:=I (Ab y.1 r);have B:Af (We X K.heap.size (zk 1) (Bo t c d)):=I ⟨C,M,q⟩;go_wp2;go_ret2;exact⟨.ok _ v.1 rfl rfl B.1,A.1⟩
