/- a part of the proof -/
import Derived.Test.YtafdcbmgdfliiaaGreatM2
set_option linter.all false
set_option maxRecDepth 100000
set_option maxHeartbeats 3000000
namespace Go.Proofs.YtafdcbmgdfliiaaGreat
open Go.RowKit Go.Sort Go.Proofs.Tryz
variable {K:List CP}{S p q:LI}{a b x:Int}{f:Int->List (LI)}{B:LI->Bool}{k m:Nat}
def lnkB(K:List CP)(a b:Int):Bool:=K.any λl=>l.i==a&&l.k==b
def lstI(p:LI):Int:=Am p (p.length-1)
def RngP(L:List gF)(p:LI):Prop:=∀x∈p,0<=x/\x<(L.length:Int)
def zEj(L:List gF)(K:List CP)(S E p:LI):Prop:=(1<=p.length/\p.length<=6)/\Am p 0∈S/\lstI p∈E/\(∀i,0<i->i<p.length->lnkB K (Am p (i-1)) (Am p i)=true)/\∃i,i<p.length/\Rj (Qa L (Am p i).toNat).duty=true
noncomputable def zC0(L:List gF)(K:List CP)(S E p:List Int):Bool:=@decide (zEj L K S E p) (Classical.propDecidable _)
theorem zC4{L:List gF}{E:LI}:zC0 L K S E p=true ↔ zEj L K S E p:=by grind[zC0]
def RS(K:List CP)(a:Int)(f:Int->List (LI)):List (LI):=K.flatMap λl=>if l.i==a then f l.k else []
def GS(K:List CP)(B:LI->Bool):Nat->LI->List (LI)
 |0,p=>if B p then [p] else []
 |d+1,p=>(if B p then [p] else [])++RS K (lstI p) λk=>GS K B d (p++ [k])
def MI(K:List CP)(B:LI->Bool)(S:LI):List (LI):=S.flatMap λx=>GS K B 5 [x]
theorem zD4(h:q∈RS K a f):∃l∈K,q∈f l.k:=by
 have⟨l,c,b⟩:=List.mem_flatMap.1 h;grind
theorem zEq:∀(d:Nat) (p:LI),q∈GS K B d p->B q=true
 |0,p,h=>by
  grind[GS]
 |d+1,p,h=>by
  rcases List.mem_append.1 h with h|h
  . simp_all
  have⟨l,_,a⟩:=zD4 h;exact zEq d _ a
def allP_B(h:q∈MI K B S):B q=true:=by
 have⟨x,_,h⟩:=List.mem_flatMap.1 h;exact zEq _ _ h
def zO(f:Nat->Nat):Nat->Nat
 |0=>0
 |n+1=>zO f n+f n
def SL(K:List CP)(g:CP->Nat):Nat:=(K.map g).sum
def CB(K:List CP)(a:Nat)(f:Nat->Nat):Nat:=SL K λl=>if l.i=(a:Int) then f l.k.toNat else 0
def RA(K:List CP):Nat->Nat->Nat
 |0,_=>1
 |d+1,a=>1+CB K a (RA K d)
theorem zCZ(l:CP)(K:List CP)(g:CP->Nat):SL (l::K) g=g l+SL K g:=by simp[SL]
def zDM(K M:List CP)(g:CP->Nat):SL (K++M) g=SL K g+SL M g:=by simp[SL]
theorem zC9{g h:CP->Nat}:∀{K:List CP},(∀l∈K,g l<=h l)->SL K g<=SL K h
 |[],_=>Bv _
 |l::K,H=>by
  have a:=zC9 λx hx=>H x (List.mem_cons_of_mem _ hx)
  grind[zCZ]
theorem zDj(g h:CP->Nat):∀K:List CP,SL K (λl=>g l+h l)=SL K g+SL K h
 |[]=>rfl
 |l::K=>by have:=zDj g h K;grind[zCZ]
theorem zDi(g:CP->Nat)(m:Nat):∀K:List CP,SL K (λl=>g l*m)=SL K g*m
 |[]=>by simp[SL]
 |l::K=>by have:=zDi g m K;grind[zCZ]
def zDL:∀K:List CP,SL K (λ_=>1)=K.length
 |[]=>rfl
 |l::K=>by rw[zCZ,zDL K,List.length_cons];omega
theorem zD5{a:Nat}{g:Nat->Nat}:(∀l∈K,0<=l.k)->(∀k:Nat,(f (k:Int)).length<=g k)->(RS K (a:Int) f).length<=CB K a g:=by
 induction K with
 |nil=>grind[RS]
 |cons l K ih=>
  intro b c;have d:=ih (λx hx=>b x (List.mem_cons_of_mem _ hx)) c;have h:=b l (List.mem_cons_self ..);rw[CB,zCZ];simp only[RS,List.flatMap_cons,Gh]at d ⊢;have:(if(l.i==(a:Int))=true then f l.k else []).length<=if l.i=(a:Int) then g l.k.toNat else 0:=by
   by_cases e:l.i=(a:Int)
   . grind
   rw[iN e,iN (by simpa using e)];exact Bg _
  grind[CB]
def zD1(p:LI)(k:Int):lstI (p++ [k])=k:=by simp[lstI,Am]
theorem zDy(b:∀l∈K,0<=l.k):∀(d a:Nat) (p:LI),lstI p=a->(GS K B d p).length<=RA K d a
 |0,a,p,h=>by grind[GS,RA]
 |d+1,a,p,h=>by
  rw[GS,RA,h,Gh];have c:=zD5 (a:=a) (f:=λk=>GS K B d (p++ [k])) (g:=RA K d) b λk=>zDy b d k _ (zD1 p k)
  grind
theorem zDr{f:Nat->Nat}{n:Nat}(h:m<=n):zO f m<=zO f n:=by
 induction n with
 |zero=>rw[Nat.le_zero.1 h];exact Bv _
 |succ n ih=>
  by_cases e:m=n+1
  . rw[e];exact Bv _
  have:=ih (by omega);simp only[zO];omega
theorem zDh(f g:Nat->Nat):∀n,zO (λk=>f k+g k) n=zO f n+zO g n
 |0=>rfl
 |n+1=>by have:=zDh f g n;grind[zO]
theorem zDn{H:Nat->Nat}(a:∀m n,m<=n->H m<=H n)(n:Nat):∀x,zO H n+x*H n<=zO H (n+x)
 |0=>by simp
 |x+1=>by
  have b:=zDn a n x;have c:=a n (n+x) (by omega);grind[zO]
theorem zDs{a:Nat}(n:Nat):zO (λb=>if a<b then if x=(b:Int) then m else 0 else 0) n<=if(a:Int)+1<=x/\x<n then m else 0:=by
 induction n with
 |zero=>simp[zO]
 |succ n h=>
  simp only[zO];by_cases c:x=(n:Int)
  . rw[iN (by omega)]at h;rw[iP c];split
    . rw[iP (by omega)];omega
    omega
  rw[iN c];by_cases d:(a:Int)+1<=x/\x<(n:Int)
  . rw[iP d]at h;rw[iP (by omega)];split <;> omega
  rw[iN d]at h;split <;> omega
theorem zDI:∀n,3*zO (λm=>1+m+m*m) n=n*n*n+2*n
 |0=>rfl
 |n+1=>by
  have h:=zDI n;grind[zO]
section
variable {K:List CP} {f H:Nat→Nat}
def SC(K:List CP)(a:Nat):Nat:=SL K λl=>if(a:Int)<=l.i then 1 else 0
theorem zDl{a b:Nat}(h:a<=b):SC K b<=SC K a:=zC9 λl _=>by
 grind
theorem zEc(g:∀l∈K,0<=l.i/\l.i<l.k)(d:∀m n,m<=n->H m<=H n)(j:∀c,f c<=H (SC K c)){N:Nat}(o:∀l∈K,l.i<(N:Int)):∀m a,a+m=N->SL K (λl=>if(a:Int)<=l.i then f l.k.toNat else 0)<=zO H (SC K a)
 |0,a,h=>by
  have p:SL K (λl=>if(a:Int)<=l.i then f l.k.toNat else 0)<=SL K (λ_=>0*0):=zC9 λl hl=>by
   grind
  rw[zDi (λ_=>0) 0]at p;omega
 |m+1,a,h=>by
  have p:=zEc g d j o m (a+1) (by omega);have q:SC K a=SL K (λl=>if l.i=(a:Int) then 1 else 0)+SC K (a+1):=by
   rw[SC,SC,<-zDj];congr 1;funext l
   by_cases e:l.i=(a:Int)
   . grind
   rw[iN e];by_cases b:(a:Int)<=l.i
   . grind
   rw[iN b,iN (by omega)]
  have r:SL K (λl=>if(a:Int)<=l.i then f l.k.toNat else 0)<=SL K (λl=>(if l.i=(a:Int) then 1 else 0)*H (SC K (a+1))+if((a+1:Nat):Int)<=l.i then f l.k.toNat else 0):=zC9 λl hl=>by
   have⟨t,u⟩:=g l hl;by_cases e:l.i=(a:Int)
   . rw[iP e,iP (by omega),iN (by omega)];have s:=j l.k.toNat;have v:=d _ _ (zDl (K:=K) (show a+1<=l.k.toNat by omega));omega
   grind
  rw[zDj,zDi]at r;have s:=zDn d (SC K (a+1)) (SL K (λl=>if l.i=(a:Int) then 1 else 0));grind
theorem zDo{a N:Nat}:∀(K:List CP),zO (λb=>if a<b then CB K b f else 0) N<=SL K λl=>if((a+1:Nat):Int)<=l.i then f l.k.toNat else 0
 |[]=>by
  have:∀n,zO (λb=>if a<b then CB [] b f else 0) n=0:=λn=>by
   induction n<;>simp_all[zO,CB,SL]
  simp_all
 |l::K=>by
  have h:=zDo (a:=a) (N:=N) K;have j:=zDs (x:=l.i) (a:=a) (m:=f l.k.toNat) N;have c:=zDh (λb=>if a<b then if l.i=(b:Int) then f l.k.toNat else 0 else 0) (λb=>if a<b then CB K b f else 0) N;grind[CB,zCZ]
def zDm{x:Int}{m:Nat}(n:Nat):zO (λb=>if x=(b:Int) then m else 0) n<=if 0<=x/\x<n then m else 0:=by
 induction n with
 |zero=>simp[zO]
 |succ n h=>
  simp only[zO];by_cases a:x=(n:Int)
  . rw[iN (by omega)]at h;rw[iP a,iP (by omega)];omega
  rw[iN a];by_cases c:0<=x/\x<(n:Int)
  . rw[iP c]at h;rw[iP (by omega)];omega
  rw[iN c]at h;omega
theorem zDg{f:Nat->Nat}{N:Nat}:∀(K:List CP),zO (λb=>CB K b f) N<=SL K λl=>if((0:Nat):Int)<=l.i then f l.k.toNat else 0
 |[]=>by
  have:∀n,zO (λb=>CB [] b f) n=0:=λn=>by
   induction n<;>simp_all[zO,CB,SL]
  simp_all
 |l::K=>by
  have d:=zDg (f:=f) (N:=N) K;have h:=zDm (x:=l.i) (m:=f l.k.toNat) N;have a:=zDh (λb=>if l.i=(b:Int) then f l.k.toNat else 0) (λb=>CB K b f) N;grind[CB,zCZ]
theorem zDA(p:∀l∈K,0<=l.i/\l.i<l.k)(q:∀m n,m<=n->H m<=H n){N d:Nat}(r:∀c,RA K d c<=H (SC K c))(j:∀l∈K,l.i<(N:Int))(h:∀(a:Nat) (g:Nat->Nat),CB K a g<=zO (λb=>if a<b then g b else 0) N)(a:Nat):RA K (d+2) a<=1+SC K a+zO H (SC K a):=by
 have s:RA K (d+2) a=1+(CB K a (λ_=>1)+CB K a λb=>CB K b (RA K d)):=by
  rw[RA,CB,CB,CB,<-zDj];congr 2;funext l;split <;> rfl
 have t:=h a λb=>CB K b (RA K d);have u:=zDo (f:=RA K d) (a:=a) (N:=N) K;have v:CB K a (λ_=>1)<=SC K a:=zC9 λl _=>by
  grind
 by_cases w:a+1<=N;have o:=zEc p q r j (N-(a+1)) (a+1) (by omega);have x:=zDr (f:=H) (zDl (K:=K) (show a<=a+1 by omega));omega;have o:SL K (λl=>if((a+1:Nat):Int)<=l.i then RA K d l.k.toNat else 0)<=SL K (λ_=>0*0):=zC9 λl hl=>by
  grind
 rw[zDi (λ_=>0) 0]at o;omega
end
section
variable {t:At} {c:Ad} {base:BA} {L:List gF}
theorem zDa{i:Nat}:∀n,∀l∈zz1 t c base L i n,l.i=i/\0<=l.k/\l.k<(n:Int)/\zAc t c base (Qa L i) (Qa L l.k.toNat)=true
 |0,l,h=>by cases h
 |n+1,l,h=>by
  rcases List.mem_append.1 h with h|h
  . have⟨a,b,f,d⟩:=zDa n l h;grind
  grind
theorem zC3:∀n,∀l∈SB t c base L n,0<=l.i/\l.i<(n:Int)/\0<=l.k/\l.k<(L.length:Int)/\zAc t c base (Qa L l.i.toNat) (Qa L l.k.toNat)=true
 |0,l,h=>by cases h
 |n+1,l,h=>by
  rcases List.mem_append.1 h with h|h
  . have⟨a,d,b⟩:=zC3 n l h;grind
  have⟨a,d,b,e⟩:=zDa _ l h;grind
theorem zDK{f:Nat->Nat}{a:Nat}:∀{K:List CP},(∀l∈K,l.i≠(a:Int))->CB K a f=0
 |[],_=>rfl
 |l::K,h=>by
  have b:=zDK (f:=f) λx hx=>h x (List.mem_cons_of_mem _ hx)
  grind[CB,zCZ]
variable (up:∀i k,i<L.length→k<L.length→zAc t c base (Qa L i) (Qa L k)=true→i<k)
include up
theorem zDJ{f:Nat->Nat}{a:Nat}(g:a<L.length):∀n,n<=L.length->CB (zz1 t c base L a n) a f<=zO (λb=>if a<b then f b else 0) n
 |0,_=>by simp[zz1,CB,SL]
 |n+1,hn=>by
  have d:=zDJ (f:=f) g n (by omega);rw[CB]at d;rw[zz1,CB,zDM,zO];by_cases e:zAc t c base (Qa L a) (Qa L n)=true
  all_goals grind[SL]
theorem zDt{f:Nat->Nat}{a:Nat}:∀n,n<=L.length->CB (SB t c base L n) a f<=if a<n then zO (λb=>if a<b then f b else 0) L.length else 0
 |0,_=>by simp[SB,CB,SL]
 |n+1,hn=>by
  have d:=zDt (f:=f) (a:=a) n (by omega);have g:CB (SB t c base L (n+1)) a f=CB (SB t c base L n) a f+CB (zz1 t c base L n L.length) a f:=by rw[SB,CB,zDM];rfl
  rw[g];by_cases e:a=n
  . grind[zDJ]
  rw[zDK (K:=zz1 t c base L n L.length) λl hl=>by have:=(zDa _ l hl).1;omega];grind
theorem zDx(P:Nat->Bool)(g:Int->Nat):∀n,((JB P n).map g).sum<=zO (λk=>g k) n
 |0=>Bv _
 |n+1=>by
  have h:=zDx P g n;grind[JB,zO]
theorem zD8(R:L.length<=2000)(A:(SB t c base L L.length).length<=20000)(B:LI->Bool)(P:Nat->Bool):(MI (SB t c base L L.length) B (JB P L.length)).length<=3000000000000:=by
 have⟨K,j⟩:=aT (SB t c base L L.length);have o:∀l∈K,0<=l.i/\l.i<(L.length:Int)/\0<=l.k/\l.k<(L.length:Int)/\l.i<l.k:=λl hl=>by
  rw[j]at hl;have⟨r,w,C,D,E⟩:=zC3 _ l hl;grind
 have p:∀(a:Nat) (g:Nat->Nat),CB K a g<=zO (λb=>if a<b then g b else 0) L.length:=λa g=>by
  grind[zDt]
 rw[<-j]at A ⊢;have s:∀l∈K,0<=l.i/\l.i<l.k:=λl hl=>⟨(o l hl).1,(o l hl).2.2.2.2⟩;have u:∀l∈K,l.i<(L.length:Int):=λl hl=>(o l hl).2.1;have F:∀a,RA K 2 a<=1+2*SC K a:=λa=>by
  have:=zDA (H:=λ_=>1) (d:=0) s (λ_ _ _=>Bv _) (λc=>Bv _) u p a;have h:∀n,zO (λ_=>1) n=n:=λn=>by
   induction n<;>simp_all[zO]
  grind
 have G:∀a,RA K 4 a<=1+SC K a+SC K a*SC K a:=λa=>by
  have:=zDA (H:=λn=>1+2*n) (d:=2) s (λ_ _ h=>Nat.add_le_add_left (Nat.mul_le_mul_left 2 h) 1) F u p a;have h:∀n,zO (λn=>1+2*n) n=n*n:=λn=>by
   induction n<;>grind[zO]
  simp_all
 have q:=zEc (f:=RA K 4) (H:=λn=>1+n+n*n) s (λm n h=>by have:=Nat.mul_le_mul h h;omega) G u L.length 0 (by omega);have M:SC K 0<=20000:=by
  have:SC K 0<=SL K λ_=>1:=zC9 λl _=>by split <;> omega
  rw[zDL]at this;omega
 have T:=zDr (f:=λn=>1+n+n*n) M;have U:=zDI 20000;have z:(MI K B (JB P L.length)).length<=((JB P L.length).map λx=>RA K 5 x.toNat).sum:=by
  have v:∀x∈JB P L.length,0<=x:=by
   have:∀n,∀x∈JB P n,0<=x:=λn=>by
    induction n<;>grind[JB]
   exact this _
  generalize JB P L.length=S at v;induction S with
  |nil=>exact Bv _
  |cons x S ih=>
   have r:=ih λy hy=>v y (List.mem_cons_of_mem _ hy)
   have w:=zDy (K:=K) (B:=B) (λl hl=>(o l hl).2.2.1) 5 x.toNat [x] (by grind[List.mem_cons_self,lstI,Am]);grind[MI]
 have V:=zDx up P (λx=>RA K 5 x.toNat) L.length;have W:zO (λk=>RA K 5 ((k:Nat):Int).toNat) L.length<=L.length+SL K λl=>if((0:Nat):Int)<=l.i then RA K 4 l.k.toNat else 0:=by
  have N:∀n,zO (λk=>RA K 5 ((k:Nat):Int).toNat) n=n+zO (λk=>CB K k (RA K 4)) n:=λn=>by
   induction n with
   |zero=>rfl
   |succ n ih=>
    have e:RA K 5 ((n:Nat):Int).toNat=1+CB K n (RA K 4):=rfl;grind[zO]
  have Q:∀K:List CP,zO (λk=>CB K k (RA (SB t c base L L.length) 4)) L.length<=SL K λl=>if((0:Nat):Int)<=l.i then RA (SB t c base L L.length) 4 l.k.toNat else 0:=zDg;rw[N];have:=Q K;rw[<-j]at this;omega
 omega
end
theorem zDf{f:Nat->Int}:∀(m k:Nat),(∀j,k<=j->j<k+m->f j=0)->Av f k m=0
 |0,_,_=>rfl
 |m+1,k,h=>by
  rw[Av,iN (by simp_all)];exact zDf m (k+1) λj h1 h2=>h j (by omega) (by omega)
def zDN{L:List Ai}:∀(m k j:Nat),k<=j->j<k+m->Rj (Ba L j)=true->Qe L k m=true
 |0,k,j,h1,h2,_=>by omega
 |m+1,k,j,h1,h2,h=>by
  rw[Qe];by_cases e:Rj (Ba L k)=true
  . rw[iP e]
  rw[iN e];have:k≠j:=λx=>e (x ▸ h)
  exact zDN m (k+1) j (by omega) (by omega) h
def CC(L:List gF)(p:LI):List Ai:=p.map λx=>(Qa L x.toNat).duty
theorem zDY{L:List gF}(h:k<p.length):Ba (CC L p) k=(Qa L (Am p k).toNat).duty:=by
 grind[Ba,CC,Am]
theorem zDc{P:Nat->Bool}:∀n,x∈JB P n->0<=x/\x<(n:Int)/\P x.toNat=true
 |0,h=>by cases h
 |n+1,h=>by
  rcases List.mem_append.1 h with h|h
  . have⟨a,c,b⟩:=zDc n h;grind
  grind
theorem zDS(h:lnkB K a b=true):∃l∈K,l.i=a/\l.k=b:=by
 have⟨l,c,d⟩:=List.any_eq_true.1 h;grind
structure NetG(t:At)(c:Ad)(base:BA)(L:List gF):Prop where
 tt:zY t=0
 tc:Ax c=0
 ab:Mo t base=true
 lg:∀i,i<L.length->zA2 t c (Qa L i)
section
variable {t:At} {c:Ad} {base:BA} {L:List gF} {p:LI} (G:NetG t c base L) (h:zEj L (SB t c base L L.length) (zzW base L) (zzZ base L) p)
include G h
omit G in
theorem zDu:RngP L p:=by
 obtain⟨n,d,o,f,q⟩:=h;intro x g;obtain⟨k,c,rfl⟩:=List.getElem_of_mem g;have e:p[k]=Am p k:=by simp[Am,c]
 rw[e];by_cases i:k=0;subst i;have⟨a,b,_⟩:=zDc _ d;exact⟨a,b⟩;have⟨l,j,r,m⟩:=zDS (f k (by omega) c);have⟨_,_,a,b,_⟩:=zC3 _ l j;omega
def zC2{k:Nat}(a:k<p.length):zA2 t c (Qa L (Am p k).toNat)/\(Qa L (Am p k).toNat).duty=Ba (CC L p) k:=by
 have:=zDu h (Am p k) (by simp[Am,a]);exact⟨G.lg _ (by omega),(zDY a).symm⟩
theorem zDO{k:Nat}(g:0<k)(b:k<p.length):Ll t c (Ba (CC L p) (k-1)) (Ba (CC L p) k)=true:=by
 have⟨d,i⟩:=zC2 G h (show k-1<p.length by omega);have⟨f,j⟩:=zC2 G h b;have⟨l,m,n,o⟩:=zDS (h.2.2.2.1 k g b);have⟨_,_,_,_,a⟩:=zC3 _ l m;rw[n,o]at a;rw[<-i,<-j];unfold zAc at a;simp only[Em]at a;have q:(Qa L (Am p (k-1)).toNat).dst=(Aa t.fs (lstN (Qa L (Am p (k-1)).toNat).duty)).to:=congrArg gF.dst d.e;have r:(Qa L (Am p (k-1)).toNat).rel=(Bm t c (Qa L (Am p (k-1)).toNat).duty).2:=congrArg gF.rel d.e;have s:(Qa L (Am p k).toNat).src=(Aa t.fs (fstN (Qa L (Am p k).toNat).duty)).fq:=congrArg gF.src f.e;have u:(Qa L (Am p k).toNat).rep=(Bm t c (Qa L (Am p k).toNat).duty).1:=congrArg gF.rep f.e;grind[Ll]
theorem zDC:Fu t c base (CC L p)=0:=by
 have m:(CC L p).length=p.length:=by simp[CC]
 obtain⟨i,a,b,l,j,f,g⟩:=h;unfold Fu;have r:Av (Rx t c (CC L p)) 0 ((CC L p).length-0)=0:=zDf _ _ λk _ hk=>by
  have q:=zC2 G ⟨i,a,b,l,j,f,g⟩ (show k<p.length by omega);rw[Rx,<-q.2];exact q.1.d
 have s:Av (Qc t c (CC L p)) 1 ((CC L p).length-1)=0:=zDf _ _ λk h0 hk=>by
  rw[Qc,iP (zDO G ⟨i,a,b,l,j,f,g⟩ (by omega) (by omega))]
 have u:Po t base (CC L p)=true:=by
  have⟨v,w⟩:=zC2 G ⟨i,a,b,l,j,f,g⟩ (show 0<p.length by omega);have⟨x,y⟩:=zC2 G ⟨i,a,b,l,j,f,g⟩ (show p.length-1<p.length by omega);have o:=(zDc _ a).2.2;have n:=(zDc _ b).2.2;unfold Po;rw[m,<-w,<-y];rw[show(Qa L (Am p 0).toNat).src=(Aa t.fs (fstN (Qa L (Am p 0).toNat).duty)).fq from congrArg gF.src v.e]at o;unfold lstI at n;rw[show(Qa L (Am p (p.length-1)).toNat).dst=(Aa t.fs (lstN (Qa L (Am p (p.length-1)).toNat).duty)).to from congrArg gF.dst x.e]at n;rw[o,n];rfl
 have z:Vj (CC L p)=true:=zDN _ _ j (Bg _) (by omega) (by grind[zDY]);rw[G.ab,iN (by decide),m,iN (by omega),<-m,r,iN (by decide),s,iN (by decide),u,iN (by decide),iP z]
def sumS(t:At)(c:Ad)(D:List Ai):Nat->Int
 |0=>0
 |k+1=>sumS t c D k+Am (Bo t c (Ba D k)) 4+if 0<k then(Bm t c (Ba D k)).1-(Bm t c (Ba D (k-1))).2 else 0
end
theorem zDq(t:At)(c:Ad)(D:List Ai):∀k,sumS t c D (k+1)=(Bm t c (Ba D k)).2-(Bm t c (Ba D 0)).1
 |0=>by simp[sumS,Bo,Am,Zq,Bm]
 |k+1=>by
  have h:=zDq t c D k;have e:Am (Bo t c (Ba D (k+1))) 4=(Bm t c (Ba D (k+1))).2-(Bm t c (Ba D (k+1))).1:=by simp[Bo,Am,Zq,Bm]
  grind[sumS]
def zC5(q:LI)(n:Int)(b:Bool)(l:decide (n∈q)=b)(a:Ae)(cap:Nat)(w:Wd)(m:zW w a q)(v:q.length<=2^47):CV 138 #[CU a q.length cap,n] w (.bool b):=by
 subst l;have r:=I m;delta CV;go_in;go_wp2_with fail;go_loop [5] (λi=>∃k:Nat,k<=q.length/\i=Bn k/\Af (∀j,j<k->Am q j≠n)) (λi=>q.length-(intOf i).toNat);exact⟨0,Bg _,rfl,I λj h=>aB h (Nat.not_lt_zero j)⟩;obtain⟨k,x,rfl,o⟩:=hrel;by_cases c:k<q.length
 . obtain⟨g,s,rfl,y,d⟩:=r.1.cells (by omega);have z:=d k c;by_cases e:Am q k=n
   . have t:=bTa e
     have f:=I (show n∈q by rw[<-e,Am,Cr,Cz c];exact gM c);go_wp2;go_ret;exact⟨zz (by simp[f.1]),An _ _⟩
   have t:=RZ e
   have f:=I (show ∀j,j<k+1->Am q j≠n from λj h=>by
    by_cases u:j=k
    . rw[u];exact e
    exact o.1 j (by omega))
   go_wp2;go_round;exact⟨k+1,by omega,by go_num,f⟩;simp[intOf];omega
 obtain rfl:k=q.length:=by omega
 have f:=I (show ¬ n∈q from λh=>by
  have⟨i,p,e⟩:=List.getElem_of_mem h;exact o.1 i p (by rw[Am,Cr,Cz p];exact e))
 go_wp2;go_ret;exact⟨zz (by simp[f.1]),An _ _⟩
theorem zDB(x:gF)(b:Bool)(n:Rj x.duty=b)(a:Ae)(cap:Nat)(w:Wd)(v:x.duty.length<=2^47)(o:Al Ei w a x.duty):CV 139 #[.agg #[.slice a x.duty.length cap,x.rep,x.rel,.string x.src,.string x.dst,x.cost,x.cred]] w (.bool b):=by
 subst n;obtain⟨d,r⟩:∃d,d=x.duty:=⟨_,rfl⟩;rw[<-r]at o v ⊢;have y:=I o;clear o r;go_enter func139,ntmps139
 have p:=J w (Obj.cells #[.slice a d.length cap,x.rep,x.rel,.string x.src,.string x.dst,x.cost,x.cred] 92);have s:=zh w (Obj.cells #[.slice a d.length cap,x.rep,x.rel,.string x.src,.string x.dst,x.cost,x.cred] 92);have q:=I (y.1.below p);have t:=I p;have B:=D_ s;clear p s;go_wp2_with fail;go_loop [3] (λi=>∃(k:Nat),k<=d.length/\i=Bn k/\Af (Rj d=Qs d k (d.length-k))) (λi=>d.length-(intOf i).toNat)
 case atStart=>exact⟨0,Bg _,rfl,I rfl⟩
 obtain⟨k,z,rfl,c⟩:=hrel;by_cases h:k<d.length
 . obtain⟨g,A,rfl,C,l⟩:=Ok q.1 (by omega);obtain⟨D,u⟩:=l k h;clear l;cases m:(Cm d k).2
   . have f:=I (c.1.trans (CZ h m));rw[m]at u;go_wp2;go_ret;exact⟨zz f.1.symm,t.1⟩
   have f:=I (c.1.trans (zvG h m));rw[m]at u;go_wp2;go_round
   case rel=>exact⟨k+1,by omega,by go_num,f⟩
   case measure=>simp[intOf];omega
 obtain rfl:k=d.length:=by omega
 have f:=I (c.1.trans (DA d));clear c z h;go_wp2;go_ret;exact⟨zz f.1.symm,t.1⟩
def lnkI(K:List CP)(a b:Int):Nat->Nat->Int
 |_,0=>-1
 |k,m+1=>if(PB K k).i=a/\(PB K k).k=b then(k:Int) else lnkI K a b (k+1) m
def zD2(h:k<K.length)(e:(PB K k).i=a/\(PB K k).k=b):lnkI K a b k (K.length-k)=k:=by
 rw[show K.length-k=K.length-(k+1)+1 by omega,lnkI,iP e]
def zDR(h:k<K.length)(e:¬ ((PB K k).i=a/\(PB K k).k=b)):lnkI K a b k (K.length-k)=lnkI K a b (k+1) (K.length-(k+1)):=by
 rw[show K.length-k=K.length-(k+1)+1 by omega,lnkI,iN e]
def zD3(K:List CP)(a b:Int):lnkI K a b K.length (K.length-K.length)=-1:=by rw[Nat.sub_self];rfl
theorem zDw:∀(m k:Nat),k+m=K.length->(lnkI K a b k m<0 ↔ ∀j,k<=j->j<K.length->¬ ((PB K j).i=a/\(PB K j).k=b))
 |0,k,h=>by grind[lnkI]
 |m+1,k,h=>by
  rw[lnkI];by_cases e:(PB K k).i=a/\(PB K k).k=b
  . grind
  rw[iN e,zDw m (k+1) (by omega)];grind
theorem lnkI_B:lnkI K a b 0 K.length<0 ↔ lnkB K a b=false:=by
 grind[zDw,lnkB,List.getElem_of_mem,PB]
section
variable (base:BA) (L:List gF) (K:List CP) (S E:LI) (la ka sa ea:Ae) (lc kc sc ec:Nat)
def zDT(a b v:Int)(x:lnkI K a b 0 K.length=v)(w:Wd)(s:zz2 w ka K)(B:K.length<=2^47):CV 140 #[.agg #[B_ base,CU la L.length lc,CU ka K.length kc,CU sa S.length sc,CU ea E.length ec],a,b] w v:=by
 subst x;have y:=I s;delta CV;go_in;have o:=J w (Obj.cells #[B_ base,CU la L.length lc,CU ka K.length kc,CU sa S.length sc,CU ea E.length ec] 42);have t:=zh w (Obj.cells #[B_ base,CU la L.length lc,CU ka K.length kc,CU sa S.length sc,CU ea E.length ec] 42);have p:=I (y.1.below o);have u:=I o;have C:=D_ t;go_wp2_with fail;go_loop [7] (λi=>∃(k:Nat),k<=K.length/\i=Bn k/\Af (lnkI K a b 0 K.length=lnkI K a b k (K.length-k))) (λi=>K.length-(intOf i).toNat);exact⟨0,Bg _,rfl,I rfl⟩;obtain⟨k,z,rfl,c⟩:=hrel;by_cases f:k<K.length
 . obtain⟨g,A,rfl,D,n⟩:=p.1.cells (by omega);obtain⟨F,G,-⟩:=n k f;by_cases l:(PB K k).i=a
   . have q:=bTa l
     by_cases m:(PB K k).k=b
     . have r:=bTa m
       have d:=I (c.1.trans (zD2 f ⟨l,m⟩));go_wp2;go_ret;exact hU d u
     have r:=RZ m
     have d:=I (c.1.trans (zDR f λh=>m h.2));go_wp2;go_round;exact⟨k+1,by omega,by go_num,d⟩;simp[intOf];omega
   have q:=RZ l
   have d:=I (c.1.trans (zDR f λh=>l h.1));go_wp2;go_round;exact⟨k+1,by omega,by go_num,d⟩;simp[intOf];omega
 obtain rfl:k=K.length:=by omega
 have d:=I (c.1.trans (zD3 K a b));go_wp2;go_ret;exact hU d u
end
section
variable (base:BA) (L:List gF) (K:List CP) (S E:LI) (la ka sa ea:Ae) (lc kc sc ec:Nat)
structure NetA(w:Wd):Prop where
 lg:zzU w la L
 lk:zz2 w ka K
 st:zW w sa S
 en:zW w ea E
 bd:L.length<=140737488355328/\K.length<=140737488355328/\S.length<=140737488355328/\E.length<=140737488355328
variable {base L K S E la ka sa ea lc kc sc ec} in
def NetA.below{w w':Wd}(h:NetA L K S E la ka sa ea w)(a:Bw w w'):NetA L K S E la ka sa ea w':=⟨h.lg.below a,h.lk.below a,h.st.below a,h.en.below a,h.bd⟩
theorem zDE(p:LI)(hp:1<=p.length/\p.length<=6)(hr:RngP L p)(pa:Ae)(pc:Nat)(b:Bool)(hb:zC0 L K S E p=b)(w:Wd)(hA:NetA L K S E la ka sa ea w)(hP:zW w pa p):CV 80 #[.agg #[.string base,.slice la L.length lc,.slice ka K.length kc,.slice sa S.length sc,.slice ea E.length ec],.slice pa p.length pc] w (.bool b):=by
 subst hb;have HA:=I hA;obtain⟨T,po,rfl,X,a3⟩:=hP.cells (by omega);have HP:=I a3;have HR:=I hr;clear hA hP a3 hr;go_enter func80,ntmps80
 have hB:=J w (Obj.cells #[.string base,.slice la L.length lc,.slice ka K.length kc,.slice sa S.length sc,.slice ea E.length ec] 42);have hQ:=zh w (Obj.cells #[.string base,.slice la L.length lc,.slice ka K.length kc,.slice sa S.length sc,.slice ea E.length ec] 42);obtain⟨nb,Y⟩:∃nb,nb=w.heap.size:=⟨_,rfl⟩;rw[<-Y]at hQ;have HB:=I hB;have QN:=I hQ;have f:=I (HA.1.below hB);have D:=I (λi (U:i<p.length)=>(hB.cell (p:=aD T (po+i)) X).trans (HP.1 i U));have r:=As X hB.size;go_upto_region 1 with fail
 simp only[<-Y];clear hB hQ Y HA HP X;generalize w.alloc (Obj.cells #[.string base,.slice la L.length lc,.slice ka K.length kc,.slice sa S.length sc,.slice ea E.length ec] 42)=W at*;obtain⟨m,hm⟩:∃m,p.length=m+1:=⟨p.length-1,by omega⟩;have a4:(p.length:Int)=(m:Int)+1:=by omega
 have k1:decide ((p.length:Int)<1)=false:=by simp;omega
 have k2:decide ((6:Int)<(p.length:Int))=false:=by simp;omega
 have ek:IntKind.i64.wrap ((p.length:Int)-1)=(m:Int):=by rw[wI];omega
 have HM:=I hm;have b7:m<p.length:=by omega
 have b8:(m:Int)<(p.length:Int):=by omega
 clear hm a4;go_upto_region 2 with fail
 go_cut [35] (λcv wx=>∃z:Bool,cv=.bool z/\Af (z=false ↔ Am p 0∈S/\lstI p∈E)/\Af (Bw W wx))
 case first=>
  have r0:=rQa QN.1;have c0:=cR (D.1 0 (by omega));have d5:=cR (show W.cell? (aD T po)=some (Bn (Am p 0)) from D.1 0 (by omega));have c1:=cR (D.1 m (by omega));have sl:=Ag QN.1;have s8:∀d a,nb<(grow (redrawn W d) a).heap.size:=λd a=>As sl (bR W d a).size
  have s9:∀d a,T<(grow (redrawn W d) a).heap.size:=λd a=>As r (bR W d a).size
  have el:lstI p=Am p m:=by rw[lstI,HM.1];rfl
  by_cases n:Am p 0∈S
  rotate_left
  . have c:=I (λ(q:Nat) (a:Array Obj)=>Fa (zC5 S (Am p 0) false (by simpa using n) sa sc (grow (redrawn W q) a) (f.1.st.below (bR W q a)) f.1.bd.2.2.1));have g:=I (show true=false ↔ Am p 0∈S/\lstI p∈E by simp[n]);clear n;go_wp2_with fail;refine wQ (by kernel_rfl) (by kernel_rfl) ?_;repeat (first|go_big_quiet_step (first|exact c.1 _ _)|quiet_step (first|exact c.1 _ _))
    refine wpQuiet_nil ?_;intro H k;obtain⟨⟨t,a⟩,rfl⟩:=k;have M:=I (bR W t a);generalize grow (redrawn W t) a=H at*;go_wp2;go_meet
    case rel=>exact⟨true,rfl,g,M⟩
  by_cases l:lstI p∈E
  . have c:=I (λ(q:Nat) (a:Array Obj)=>Fa (zC5 S (Am p 0) true (by simpa using n) sa sc (grow (redrawn W q) a) (f.1.st.below (bR W q a)) f.1.bd.2.2.1));have F:=I (λ(q:Nat) (a:Array Obj)=>Fa (zC5 E (Am p m) true (by rw[<-el];simpa using l) ea ec (grow (redrawn W q) a) (f.1.en.below (bR W q a)) f.1.bd.2.2.2));have g:=I (show Am p 0∈S/\lstI p∈E from⟨n,l⟩);clear n l;go_wp2_with fail;refine wQ (by kernel_rfl) (by kernel_rfl) ?_;repeat (first|go_big_quiet_step (first|with_reducible exact c.1 _ _|with_reducible exact F.1 _ _)|quiet_step (first|with_reducible exact c.1 _ _|with_reducible exact F.1 _ _))
    refine wpQuiet_nil ?_;intro H k;obtain⟨⟨t,a⟩,rfl⟩:=k;have M:=I (bR W t a);generalize grow (redrawn W t) a=H at*;go_wp2;go_meet
    case rel=>exact⟨false,rfl,I ⟨λ_=>g.1,λ_=>rfl⟩,M⟩
  have c:=I (λ(q:Nat) (a:Array Obj)=>Fa (zC5 S (Am p 0) true (by simpa using n) sa sc (grow (redrawn W q) a) (f.1.st.below (bR W q a)) f.1.bd.2.2.1));have F:=I (λ(q:Nat) (a:Array Obj)=>Fa (zC5 E (Am p m) false (by rw[<-el];simpa using l) ea ec (grow (redrawn W q) a) (f.1.en.below (bR W q a)) f.1.bd.2.2.2));have g:=I (show true=false ↔ Am p 0∈S/\lstI p∈E by simp[l]);clear n l;go_wp2_with fail;refine wQ (by kernel_rfl) (by kernel_rfl) ?_;repeat (first|go_big_quiet_step (first|with_reducible exact c.1 _ _|with_reducible exact F.1 _ _)|quiet_step (first|with_reducible exact c.1 _ _|with_reducible exact F.1 _ _))
  refine wpQuiet_nil ?_;intro H k;obtain⟨⟨t,a⟩,rfl⟩:=k;have M:=I (bR W t a);generalize grow (redrawn W t) a=H at*;go_wp2;go_meet
  case rel=>exact⟨true,rfl,g,M⟩
 obtain⟨z,rfl,g,y⟩:=hcut;obtain⟨w2,b9⟩:∃v:Wd,v=wc:=⟨_,rfl⟩;subst b9;have Z:=fE HB y.1;cases z;rotate_left
 . have HE:=I (show zC0 L K S E p=false from Bool.eq_false_iff.2 λh=>by
    obtain⟨_,n,l,_⟩:=zC4.1 h;have:=g.1.2 ⟨n,l⟩;cases this)
   clear g;go_wp2;go_ret;exact⟨zz HE.1.symm,Z.1⟩
 have c2:=fO QN y.1;have c3:=I (f.1.below y.1);have c4:=I (λi (U:i<p.length)=>(y.1.cell (p:=aD T (po+i)) r).trans (D.1 i U));have V:=As r y.1.size;have a5:=I (g.1.1 rfl);clear g HB y QN f D r k1 k2 ek HM b7 b8;go_wp2_with fail;go_loopw [6,7] (λsv iv wr=>∃(s:Bool) (i:Nat),i<=p.length/\sv=.bool s/\iv=Bn i/\Af (s=true ↔ ∃j,j<i/\Rj (Qa L (Am p j).toNat).duty=true)/\Af (∀j,0<j->j<i->lnkB K (Am p (j-1)) (Am p j)=true)/\Af (Bw w2 wr)) (λ_ iv _=>p.length-(intOf iv).toNat)
 case atStart=>exact⟨false,0,Bg _,rfl,rfl,I (by simp),I (λj _ h=>aB h (Nat.not_lt_zero j)),I (An _ _)⟩
 obtain⟨s,i,U,rfl,rfl,hS,hK,o⟩:=hrel;obtain⟨C,c5⟩:∃v:Wd,v=wr:=⟨_,rfl⟩;subst c5;by_cases N:i<p.length
 rotate_left
 . obtain rfl:i=p.length:=by omega
   have HE:=I (show zC0 L K S E p=s from by
    rw[Bool.eq_iff_iff,zC4];exact⟨λh=>hS.1.2 h.2.2.2.2,λh=>⟨hp,a5.1.1,a5.1.2,hK.1,hS.1.1 h⟩⟩)
   have a0:=fE Z o.1;clear N;go_wp2;go_ret;exact⟨zz HE.1.symm,a0.1⟩
 have d4:(i:Int)<(p.length:Int):=by omega
 have P:=fO c2 o.1;have Q:=I (c3.1.below o.1);have a1:=I (λi (U:i<p.length)=>(o.1.cell (p:=aD T (po+i)) V).trans (c4.1 i U));have u:=As V o.1.size;have a2:=I (HR.1 (Am p i) (by simp[Am,N]));obtain⟨x,hx⟩:∃x:Nat,Am p i=x:=⟨(Am p i).toNat,by have:=a2.1.1;omega⟩;have a6:x<L.length:=by have:=a2.1.2;omega
 have HX:=I (show(Am p i).toNat=x by rw[hx];rfl);have c6:=I hx;have a7:(x:Int)<(L.length:Int):=by omega
 have c0:=a1.1 i N;rw[hx]at c0;clear hx a2;obtain⟨gb,go,rfl,a8,a9⟩:=Q.1.lg.cells (by omega);obtain⟨da,dc,z0,z1,z2,z3,z4,z5,z6,b0,b1⟩:=a9 x a6;have b2:=I b1;obtain⟨d,hd⟩:∃d,d=(Qa L x).duty:=⟨_,rfl⟩;clear a9 b1;go_upto_region 8 with fail
 go_cut [6] (λsv wx=>∃s2:Bool,sv=.bool s2/\Af (s2=true ↔ ∃j,j<i+1/\Rj (Qa L (Am p j).toNat).duty=true)/\Af (Bw C wx))
 case first=>
  have r0:=rQa P.1;have r1:=cR c0;have r2:=cR z0;have r3:=cR z1;have r4:=cR z2;have r5:=cR z3;have r6:=cR z4;have r7:=cR z5;have r9:=cR z6;have sl:=Ag P.1;have s8:∀d a,nb<(grow (redrawn C d) a).heap.size:=λd a=>As sl (bR C d a).size
  have s9:∀d a,T<(grow (redrawn C d) a).heap.size:=λd a=>As u (bR C d a).size
  have d6:∀d a,gb<(grow (redrawn C d) a).heap.size:=λd a=>As a8 (bR C d a).size
  have A:=I (show ∀b,Rj (Qa L x).duty=b->((s || b)=true ↔ ∃j,j<i+1/\Rj (Qa L (Am p j).toNat).duty=true) from λb hb=>by
   rw[Bool.or_eq_true,hS.1,<-hb];constructor
   . rintro(⟨j,n,l⟩|h)
     . exact⟨j,by omega,l⟩
     exact⟨i,by omega,by rw[HX.1];exact h⟩
   rintro⟨j,n,l⟩;by_cases hj:j=i
   . rw[hj,HX.1]at l;exact .inr l
   exact .inl ⟨j,by omega,l⟩)
  have c:=I (λ(q:Nat) (a:Array Obj)=>Fa (zDB (Qa L x) _ rfl da dc (grow (redrawn C q) a) b0 (b2.1.below (bR C q a))));clear c0 z0 z1 z2 z3 z4 z5 z6;cases s
  . have g:=I (by simpa using A.1 _ rfl);clear A;go_wp2_with fail;refine wQ (by kernel_rfl) (by kernel_rfl) ?_;repeat (first|go_big_quiet_step (first|exact c.1 _ _)|quiet_step (first|exact c.1 _ _))
    refine wpQuiet_nil ?_;intro H k;obtain⟨⟨t,a⟩,rfl⟩:=k;have M:=I (bR C t a);generalize grow (redrawn C t) a=H at*;go_wp2;go_meet
    case rel=>exact⟨_,rfl,g,M⟩
  have g:=I (by simpa using A.1 _ rfl);clear A;go_wp2;go_quiet (fail)
  go_wp2;go_meet
  case rel=>exact⟨true,rfl,I (by simpa using g.1),I (dr _ _)⟩
 obtain⟨s2,rfl,A,B⟩:=hcut;obtain⟨G,c7⟩:∃v:Wd,v=wc:=⟨_,rfl⟩;subst c7;have c8:=fE o B.1;have b3:=fO P B.1;have c9:=I (Q.1.lk.below B.1);have d0:=I Q.1.bd.2.1;have b4:=I (λi (U:i<p.length)=>(B.1.cell (p:=aD T (po+i)) u).trans (a1.1 i U));have b5:=As u B.1.size;clear o B P Q a1 u z0 z1 z2 z3 z4 z5 z6 b0 b2 a8 c0 a7 a6 HX c6 hS hd;go_upto_region 9 with fail
 go_cut [68] (λcv wx=>∃z:Bool,cv=.bool z/\Af (z=true ↔ 0<i/\lnkB K (Am p (i-1)) (Am p i)=false)/\Af (Bw G wx))
 case first=>
  by_cases R:i=0
  . have d7:decide (0<i)=false:=by simp[R]
    have g:=I (show false=true ↔ 0<i/\lnkB K (Am p (i-1)) (Am p i)=false by simp[R]);clear R;go_wp2;go_quiet (fail)
    go_wp2;go_meet
    case rel=>exact⟨false,rfl,g,I (dr _ _)⟩
  obtain⟨m,rfl⟩:∃m,i=m+1:=⟨i-1,by omega⟩;have r0:=rQa b3.1;have c0:=cR (b4.1 m (by omega));have c1:=cR (b4.1 (m+1) (by omega));have sl:=Ag b3.1;have s8:∀d a,nb<(grow (redrawn G d) a).heap.size:=λd a=>As sl (bR G d a).size
  have s9:∀d a,T<(grow (redrawn G d) a).heap.size:=λd a=>As b5 (bR G d a).size
  have a4:(m:Int)<(p.length:Int):=by omega
  have c:=I (λ(q:Nat) (a:Array Obj)=>Fa (zDT base L K S E (some (aD gb go)) ka sa ea lc kc sc ec (Am p m) (Am p (m+1)) _ rfl (grow (redrawn G q) a) (c9.1.below (bR G q a)) d0.1))
  have g:=I (show decide (lnkI K (Am p m) (Am p (m+1)) 0 K.length<0)=true ↔ 0<m+1/\lnkB K (Am p (m+1-1)) (Am p (m+1))=false by
   rw[show m+1-1=m from rfl,decide_eq_true_eq,lnkI_B];exact⟨λh=>⟨by omega,h⟩,λh=>h.2⟩)
  clear R;go_wp2_with fail;refine wQ (by kernel_rfl) (by kernel_rfl) ?_;repeat (first|go_big_quiet_step (first|exact c.1 _ _)|quiet_step (first|exact c.1 _ _))
  refine wpQuiet_nil ?_;intro H k;obtain⟨⟨t,a⟩,rfl⟩:=k;have M:=I (bR G t a);generalize grow (redrawn G t) a=H at*;go_wp2;go_meet
  case rel=>exact⟨_,rfl,g,M⟩
 obtain⟨z,rfl,g,d1⟩:=hcut;obtain⟨W7,d2⟩:∃v:Wd,v=wc:=⟨_,rfl⟩;subst d2;have b6:=fE c8 d1.1;cases z
 . have d3:=I (show ∀j,0<j->j<i+1->lnkB K (Am p (j-1)) (Am p j)=true from λj h0 n=>by
    by_cases hj:j=i
    . subst hj;cases e:lnkB K (Am p (j-1)) (Am p j)
      . have:=g.1.2 ⟨h0,e⟩;cases this
      rfl
    exact hK.1 j h0 (by omega))
   clear g;go_wp2;go_roundw
   case rel=>exact⟨s2,i+1,by omega,rfl,by go_num,A,d3,b6⟩
   case measure=>simp[intOf];omega
 have HE:=I (show zC0 L K S E p=false from Bool.eq_false_iff.2 λh=>by
  obtain⟨_,_,_,h4,_⟩:=zC4.1 h;obtain⟨n,l⟩:=g.1.1 rfl;rw[h4 i n N]at l;cases l)
 have a0:=fE Z b6.1;clear g;go_wp2;go_ret;exact⟨zz HE.1.symm,a0.1⟩
end
theorem zDG{f g:Ft}(h:Oq f g=true):f.dp<=g.dp:=by
 grind[Oq]
theorem zC8{c:LB}:∀{l:List Ft} {p:Option Ft},Dw c p l=0->(∀f,p=some f->∀g,l[0]?=some g->f.dp<=g.dp)/\∀i f g,l[i]?=some f->l[i+1]?=some g->f.dp<=g.dp
 |[],p,_=>⟨λ_ _ g hg=>by simp at hg,λi f g hf _=>by simp at hf⟩
 |x::l,p,h=>by
  rw[Dw]at h;by_cases a:El c x≠0
  . omega
  rw[iN a]at h;by_cases b:p.any (λq=>!Oq q x)=true
  . simp_all
  rw[iN b]at h;have⟨d,j⟩:=zC8 h;refine⟨λf hp g hg=>?_,λi f g hf hg=>?_⟩
  . grind[zDG]
  cases i<;>grind
theorem zDz{t:At}(h:zY t=0){i:Nat}:∀{j:Nat},i<=j->j<t.fs.length->(Aa t.fs i).dp<=(Aa t.fs j).dp
 |0,hij,_=>by
  simp_all
 |j+1,hij,hj=>by
  by_cases e:i=j+1
  . simp_all
  have⟨b,a⟩:=NE h;have c:=zDz h (show i<=j by omega) (by omega);grind[zC8,Aa]
theorem zD0{t:At}{c:Ad}{p:BA}{L:List Ai}(h:Fu t c p L=0):1<=L.length/\L.length<=6/\(∀k,k<L.length->Cc t c (Ba L k)=0)/\∀k,1<=k->k<L.length->Ll t c (Ba L (k-1)) (Ba L k)=true:=by
 unfold Fu at h;by_cases d:Mo t p=false;rw[iP d]at h;omega;rw[iN d]at h;by_cases a:L.length<1\/6<L.length;omega;rw[iN a]at h;by_cases b:Av (Rx t c L) 0 (L.length-0)≠0;rw[iP b]at h;exact aB h b;by_cases f:Av (Qc t c L) 1 (L.length-1)≠0;omega;have g:=Ti _ _ (Classical.not_not.1 b);have i:=Ti _ _ (Classical.not_not.1 f);refine⟨by omega,by omega,λk hk=>g k (by omega) (by omega),λk a hk=>?_⟩;grind[Qc]
