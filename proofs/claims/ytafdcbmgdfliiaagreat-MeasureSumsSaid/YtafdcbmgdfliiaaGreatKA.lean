/- a part of the proof -/
import Derived.Test.YtafdcbmgdfliiaaGreatH1
import Derived.Test.YtafdcbmgdfliiaaGreatK7
set_option linter.all false
set_option maxRecDepth 100000
set_option maxHeartbeats 3000000
namespace Go.Proofs.YtafdcbmgdfliiaaGreat
open Go.RowKit Go.Sort Go.Proofs.Tryz
variable {b c cap g i k lo lo' m n:Nat}{L:LI}{u v v1 v2:Value}{d w w':Wd}{r:Option Nat}{a xs:LV}{o:Obj}
theorem cE{x:Int}(h:0<=x/\x<n)(a:n<=2^47):(Lit.int .i64 x).wf=true:=by
 have e:=Wm x;grind[wrap64]
def lW(w:Wd)(b n:Nat):Prop:=∀i,i<n->∃x:Int,w.cell? (aD b i)=some (Bn x)
def aA(n m:Nat)(v:Value)(w:Wd):Prop:=∃g,v=.slice (some (aD g 0)) n n/\g<w.heap.size/\∀i,i<n->∃b,w.cell? (aD g i)=some (.slice (some (aD b 0)) m m)/\b<w.heap.size/\lW w b m
def Wv(n:Nat)(L:LI):Prop:=L.length<=n/\∀x∈L,0<=x/\x<n
def fN(w:Wd)(e:Ending)(w':Wd):Prop:=∃x:Int,e=.returned x/\w=w'
def lE(b c:Value)(h:Nat)(w:Wd):Calls prog 111 #[b,c,.int .i64 1,h] w (fN w):=by
 by_cases a:h=0
 . subst a;go_in;go_wp2;go_ret;exact⟨_,rfl,rfl⟩
 have d:((h:Int)==0)=false:=by simpa using a
 go_in;go_wp2;go_ret;exact⟨_,rfl,rfl⟩
def DU{o:Value}(p:Ae)(D:Nat)(k:Int)(E:(k==1)=false)(h:Nat)(w:Wd)(F:aA n m o w)(e:Wv n L)(q:Al RT.int w p L)(G:h<m)(P:n<=2^47/\m<=2^47):
 Calls prog 111 #[o,CU p L.length D,k,h] w (fN w):=by
 obtain⟨g,rfl,Q,r⟩:=F;have H:=I r;have K:=I q;have s:=I e;have R:=e.1;go_in;go_wp2_with fail;go_loop [9,10] (λx i=>∃(y:Int) (k:Nat),k<=L.length/\x=Bn y/\i=Bn k) (λ_ i=>L.length-(intOf i).toNat);exact⟨0,0,Bg _,rfl,rfl⟩;obtain⟨y,k,E,rfl,rfl⟩:=hrel;by_cases a:k<L.length
 . have t:(k:Int)<L.length:=by omega
   obtain⟨b,f,rfl,S,c⟩:=K.1.at (by omega);obtain⟨T,u,rfl,M⟩:=c k a;have v:=u 0 (by simp);obtain⟨j,A⟩:∃j:Nat,L[k]=j:=⟨L[k].toNat,by have:=s.1.2 _ (gM a);omega⟩;have l:j<n:=by have:=s.1.2 _ (gM a);omega
   have B:(j:Int)<n:=by omega
   have U:w.cell? (aD b (f+k))=some (Bn (j:Nat)):=by rw[<-A];simpa[RT.int] using v
   have⟨d,V,W,C⟩:=H.1 j l;have⟨z,X⟩:=C h G;have N:(h:Int)<m:=by omega
   go_wp2;go_round;exact⟨_,k+1,by omega,rfl,by go_num⟩;simp[intOf];omega
 obtain rfl:k=L.length:=by omega
 go_wp2;go_ret;exact⟨_,rfl,rfl⟩
def Km(lo n m:Nat)(u:Value)(w:Wd):Prop:=∃L:LI,L.length<=m/\(∀x∈L,0<=x/\x<(n:Int))/\w.ownsRow lo 3 1 u L.length (L.map (Value.int .i64))
def JO(lo n:Nat)(v:Value)(k:Nat)(w:Wd):Prop:=∃LL:LV,LL.length=k/\w.ownsRow lo 22 1 v k LL/\∀u∈LL,Km lo n n u w
def Tw(n:Nat)(v:Value)(w:Wd):Prop:=∃a cap,v=.slice a n cap/\(n=0\/∃g,a=some (aD g 0)/\g<w.heap.size/\∀i,i<n->∃(ra:Ae) (L:LI) (rc:Nat),w.cell? (aD g i)=some (.slice ra L.length rc)/\Wv n L/\Al RT.int w ra L)
def Tw.below(h:Tw n v w)(b:Bw w w'):Tw n v w':=by
 obtain⟨a,c,e,h⟩:=h;refine⟨a,c,e,h.imp_right λ⟨g,h1,h2,h3⟩=>⟨g,h1,As h2 b.size,λi hi=>?_⟩⟩;have⟨d,L,f,j,k,l⟩:=h3 i hi;exact⟨d,L,f,zD j h2 b,k,l.below b⟩
def Km.keep(h:Km lo n m u w)(a:w.grownBy w' r)(b:u.ownBlock=none\/u.ownBlock≠r):Km lo n m u w':=by
 obtain⟨L,c,d,e⟩:=h;exact⟨L,c,d,e.kept a b⟩
theorem Km.call(h:Km lo n m u w)(a:Bw w w'):Km lo n m u w':=h.keep (Sj (r:=none) a) (by grind)
def Km.mono{a:Nat}(h:Km lo n m u w)(d:lo'<=lo)(e:m<=a):Km lo' n a u w:=by
 obtain⟨L,f,c,b⟩:=h;exact⟨L,by omega,c,b.1,b.2.imp_right λ⟨g,cap,cur,h4,h5,h6⟩=>⟨g,cap,cur,h4,by omega,h6⟩⟩
theorem zx5{a:Nat}{e f:TypeId}{s r:Nat}{j:LV}(h:w.ownsRow a e s u n xs)(k:w.ownsRow b f r v m j)(d:e≠f):u.ownBlock=none\/u.ownBlock≠v.ownBlock:=by
 rcases h.2 with⟨rfl,_⟩|⟨g,_,l,rfl,_,o,_⟩;exact .inl rfl;rcases k.2 with⟨rfl,_⟩|⟨p,_,i,rfl,_,c,_⟩;all_goals grind[Value.ownBlock]
theorem Km.app{x:Nat}{b:Ae}(g:L.length<=m)(e:∀x∈L,0<=x/\x<(n:Int))(h:x<n)(f:d.ownsRow lo 3 1 (CU b (L.length+1) c) (L.length+1) (L.map (Value.int .i64)++ [Bn (x:Nat)])):Km lo n (m+1) (CU b (L.length+1) c) d:=by
 refine⟨L++ [(x:Int)],by simp_all,λy a=>?_,by simpa using f⟩;grind
theorem JO.app(f:a.length=k)(h:w.ownsRow lo 22 1 v k a)(i:∀u∈a,Km lo n n u w)(e:Km lo n n u w)(j:d.ownsRow lo 22 1 (Kx g 0 (k+1) c) (k+1) (a++ [u]))(l:(w.alloc (.cells [u].toArray 22)).grownBy d v.ownBlock):JO lo n (Kx g 0 (k+1) c) (k+1) d:=by
 have K:∀u,Km lo n n u w->Km lo n n u d:=λu e=>(e.call (J _ _)).keep l (by
  obtain⟨_,_,_,q⟩:=e;grind[zx5])
 refine⟨a++ [u],by simp[f],j,λy b=>?_⟩;grind
def JO.nil(lo n:Nat)(w:Wd):JO lo n Ls 0 w:=⟨[],rfl,World.ownsRow_nil ..,λu hu=>by cases hu⟩
section
variable {lo n k:Nat} {v:Value} {w w':Wd} (S:JO lo n v k w)
include S
theorem JO.call(a:Bw w w'):JO lo n v k w':=by
 obtain⟨b,c,d,e⟩:=S;exact⟨b,c,d.kept (Sj (r:=none) a) (by grind),λu hu=>(e u hu).call a⟩
theorem JO.at(h:k=n)(l:n<=2^47):Tw n v w:=by
 subst h;obtain⟨m,B,o,p⟩:=S;obtain⟨a,d,rfl,C,D,q⟩:=Sw o;refine⟨a,d,rfl,q.imp_right λ⟨g,h7,h8,h9,hc⟩=>⟨g,h7,h9,λi hi=>?_⟩⟩;have c:i<m.length:=by omega
 have⟨L,r,f,s⟩:=p _ (gM c);have⟨t,u,e,E,F,x⟩:=Sw s;refine⟨t,L,u,(hc i _ (Cz c)).trans (by rw[e]),⟨r,f⟩,?_⟩;rcases x with y|⟨b,rfl,G,z,A⟩;exact .inl (List.eq_nil_of_length_eq_zero y);refine .inr ⟨b,0,rfl,z,λj hj=>⟨[Bn L[j]],λi hi=>?_,rfl,cE (f _ (gM hj)) l⟩⟩;grind[RT.int]
end
def Xi:EI 45 22 Ls 1 24:=⟨underlying45,by kernel_rfl,rfl,by decide⟩
def ES(n:Nat)(w:Wd)(e:Ending)(w':Wd):Prop:=∃v,e=.returned v/\Tw n v w'/\Below w.heap.size w w'
def DJ(t:At)(c:Ad)(B:Ae)(C:Nat)(D:Ae)(ac:Nat)(fa:Ae)(fc:Nat)(p:Bd)(w:Wd)(G:zY t=0)(Y:Al Hi w fa t.fs):
 Calls prog 66 #[Az t B C D ac fa fc,Ay c p] w (ES t.fs.length w):=by
 try delta Ay Az
 have HF:=I Y;have HT:=I G;have hN:=(On G).2.2;clear Y G;go_in;go_wp2_with fail;have⟨f,g,h⟩:=Uy w t c B C D ac fa fc p;have Z:=I f;have⟨tb,l⟩:=aT w.heap.size;have⟨cb,n⟩:=aT (w.heap.size+1);rw[<-n]at h;rw[<-l]at g;simp only[<-n];simp only[<-l];have QT:=I g;have QC:=I h;clear n l f g h;generalize (w.alloc (Ap t B C D ac fa fc)).alloc (Aj c p)=W at*;go_loopw [5,6] (λv i wr=>∃k:Nat,k<=t.fs.length/\i=Bn k/\Af (JO W.heap.size t.fs.length v k wr)/\Af (Bw W wr)) (λ_ i _=>t.fs.length-(intOf i).toNat);exact⟨0,Bg _,rfl,I (.nil ..),I (An _ _)⟩;obtain⟨k,hk,rfl,H,f⟩:=hrel;have⟨K,M,N,P⟩:=Ev (Ac f.1 QT.1);by_cases Q:k<t.fs.length
 . have a0:(k:Int)<t.fs.length:=by omega
   go_wp2_with fail;clear K M N P;go_loopw [7,8] (λx j wi=>∃m:Nat,m<=t.fs.length/\j=Bn m/\Af (Km wr.heap.size t.fs.length m x wi)/\Af (Bw wr wi)) (λ_ j _=>t.fs.length-(intOf j).toNat);exact⟨0,Bg _,rfl,I ⟨[],Bv _,(λx hx=>by cases hx),World.ownsRow_nil ..⟩,I (An _ _)⟩;obtain⟨m,hm,rfl,E,b⟩:=hrel;have a:=fE f b.1;have⟨K,M,N,P⟩:=Ev (Ac a.1 QT.1);have⟨y0,y1,y2,y3,y4,y5,y6,y7,y8,y9,q,r,s,u,yl⟩:=Ek (Ac a.1 QC.1);by_cases y:m<t.fs.length
   . have a1:(m:Int)<t.fs.length:=by omega
     go_wp2_with fail;refine(AH t c B C D ac fa fc p _ HT.1 (HF.1.below (Ab Z.1 a.1)) k m Q y).mono ?_;rintro e w1 ⟨rfl,R⟩;have O1:=E.1.call R;have B2:=fE b R;have S:=I O1;obtain⟨L,T,F,z⟩:=O1;clear y0 y1 y2 y3 y4 y5 y6 y7 y8 y9 q r s u yl K M N P E b R a;cases Jj t c k m
     . go_wp2;go_roundw;exact⟨m+1,by omega,by go_num,I (S.1.mono (Bv _) (Nat.le_succ _)),B2⟩;simp[intOf];omega
     go_wp2_with (at_builtin;refine fI cF B2.1 z [Bn (m:Nat)] rfl rfl rfl rfl rfl (by simp[Value.oneCell']) (by omega) ?_;intro b1 c1 w2 d A _;have O3:=I (Km.app T F y d);have U:=I A;clear d A);go_roundw;exact⟨m+1,by omega,by go_num,O3,U⟩;simp[intOf];omega
   obtain rfl:m=t.fs.length:=by omega
   have J2:=H.1.call b.1;have U2:=E.1.mono (lo':=W.heap.size) f.1.size (Bv _);obtain⟨LL,j1,V,j3⟩:=J2;obtain⟨L,T,F,z⟩:=U2;have HU:Af (Km W.heap.size t.fs.length t.fs.length _ _):=I ⟨L,T,F,z⟩;obtain⟨ua,uc,rfl⟩:=Js z;have X:=I j3;clear y0 y1 y2 y3 y4 y5 y6 y7 y8 y9 q r s u yl j3 z F E H b f;go_wp2_with (at_builtin;refine Zw Xi a.1.size V [CU ua L.length uc] rfl rfl rfl rfl rfl (by simp[Value.oneCell']) (by omega) ?_;intro g1 c1 w2 d o _;have U:=I (Ld (e':=0) a.1 rfl V o);have J3:Af (JO W.heap.size t.fs.length (Kx g1 0 (k+1) c1) (k+1) w2):=I (JO.app j1 V X.1 HU.1 d o);clear d o);go_roundw;exact⟨k+1,by omega,by go_num,J3,U⟩;simp[intOf];omega
 obtain rfl:k=t.fs.length:=by omega
 have J1:=H.1.at rfl (by omega);have HJ:=I J1;obtain⟨_,_,rfl,-⟩:=J1;go_wp2;go_ret;exact⟨_,rfl,HJ.1,Ab Z.1 f.1⟩
def aC(n:Nat)(v:Value)(w:Wd):Prop:=∃a cap,v=.slice a n cap/\(n=0\/∃g,a=some (aD g 0)/\g<w.heap.size/\∀i,i<n->∃b:Bool,w.cell? (aD g i)=some (.bool b))
theorem aC.below(h:aC n v w)(c:Bw w w'):aC n v w':=by
 obtain⟨a,b,e,h⟩:=h;refine⟨a,b,e,h.imp_right λ⟨g,h1,h2,h3⟩=>⟨g,h1,As h2 c.size,λi hi=>?_⟩⟩;grind[zD]
def Rl(w:Wd)(g n:Nat):Prop:=∃l:List Bool,l.length=n/\w.heap[g]?=some (.cells (l.map Value.bool).toArray 4 (0,0))
def Rl.at(h:Rl w g n):aC n (Kx g 0 n n) w:=by
 obtain⟨l,rfl,h⟩:=h;exact⟨_,_,rfl,.inr ⟨g,rfl,Ag h,λi hi=>⟨l[i],zm h (by simp[hi])⟩⟩⟩
def Rl.set(h:Rl w g n)(i:Nat)(b:Bool):Rl (w.setCell (aD g i) (.bool b)) g n:=by
 obtain⟨l,rfl,h⟩:=h;refine⟨l.set i b,by simp,?_⟩;rw[zg h];simp
def Rl.cell(h:Rl w g n)(a:m<n):∃b:Bool,w.cell? (aD g m)=some (.bool b)/\w.frozen? (aD g m)=false/\g<w.heap.size:=by
 obtain⟨l,rfl,h⟩:=h;exact⟨l[m],zm h (by simp[a]),zQ h,Ag h⟩
def lZ(n:Nat)(w:Wd)(e:Ending)(w':Wd):Prop:=∃(v:Value) (er:Int) (m:Nat),e=.returned (.tuple #[v,er])/\(m=n\/m=0)/\(er=0->m=n)/\aC m v w'/\Below w.heap.size w w'
theorem sA(v:Value)(n:Nat):madeCells #[v] n=(List.replicate n v).toArray:=by
 apply Array.ext;all_goals grind[madeCells]
def DI(z A:Value)(fa:Ae)(n fc:Nat)(L:LI)(Z:Ae)(lc:Nat)(w:Wd)(hL:Al RT.int w Z L)(hl:L.length<=2^47)(hn:n<=1000000):Calls prog 64 #[.agg #[z,A,CU fa n fc],CU Z L.length lc] w (lZ n w):=by
 have mk:=λw'=>run_make_row' (P:=prog) 137 4 (.bool false) 1 underlying137 (by kernel_rfl) rfl .i64 .i64 n (by omega) (by omega) w';have HL:=I hL;clear hL;go_in;go_wp2_with fail;have B:=I (J w (Obj.cells #[z,A,CU fa n fc] 27));have q0:=I (zh w (Obj.cells #[z,A,CU fa n fc] 27));have o:=zr w (Obj.cells #[z,A,CU fa n fc] 27);rw[sA];generalize w.alloc (Obj.cells #[z,A,CU fa n fc] 27)=q at*;have R:Af (Rl (q.alloc (.cells (List.replicate n (Value.bool false)).toArray 4)) q.heap.size n):=I ⟨List.replicate n false,by simp,by simpa using zh q _⟩;have B1:=I (J q (.cells (List.replicate n (Value.bool false)).toArray 4));clear mk;generalize q.alloc (.cells (List.replicate n (Value.bool false)).toArray 4)=w1 at*;have⟨g,D⟩:=aT (w.heap.size+1);rw[o,<-D]at R;simp only[<-D];rw[<-o]at D;have HG:=I D;clear D o;go_loopw [7] (λi wr=>∃k:Nat,k<=L.length/\i=Bn k/\Af (Rl wr g n)/\Af (Bw q wr)) (λi _=>L.length-(intOf i).toNat);exact⟨0,Bg _,rfl,R,B1⟩;obtain⟨k,hk,rfl,M,f⟩:=hrel;clear R B1;by_cases E:k<L.length
 . have a0:(k:Int)<L.length:=by omega
   obtain⟨b,r,rfl,hb,F⟩:=(HL.1.below (Ab B.1 f.1)).at (by omega);have C:∀j (h:j<L.length),wr.cell? (aD b (r+j))=some (Bn L[j]):=λj h=>by
    obtain⟨cs,S,rfl,_⟩:=F j h;have:=S 0 (by simp);simpa[RT.int] using this
   have s:=C k E;have c2:=D_ (Ac f.1 q0.1);have cl:=As (Ag q0.1) f.1.size;obtain⟨x,hx⟩:∃x,L[k]=x:=⟨_,rfl⟩;rw[hx]at s;have G:=I C;clear C F;by_cases g0:x<0
   . go_wp2;go_quiet (fail);have d:=fE f (dr wr nq);go_wp2;go_ret2;exact⟨_,6,0,rfl,.inr rfl,(λh=>by cases h),⟨none,0,rfl,.inl rfl⟩,Ab B.1 d.1⟩
   by_cases g1:x<n;rotate_left
   . have T:(n:Int)<=x:=by omega
     go_wp2;go_quiet (fail);have d:=fE f (dr wr nq);go_wp2;go_ret2;exact⟨_,6,0,rfl,.inr rfl,(λh=>by cases h),⟨none,0,rfl,.inl rfl⟩,Ab B.1 d.1⟩
   have T:¬ (n:Int)<=x:=by omega
   obtain⟨m,rfl⟩:∃m:Nat,x=m:=⟨x.toNat,by omega⟩;have a1:m<n:=by omega
   go_wp2;go_quiet (fail);have d:=fE f (dr wr nq);have⟨l,U,H⟩:=M.1;have V:Af (Rl (wr.drewN nq) g n):=I ⟨l,U,Ac (dr wr nq) H⟩;have Q:∀j (h:j<L.length),(wr.drewN nq).cell? (aD b (r+j))=some (Bn L[j]):=λj h=>zD (G.1 j h) hb (dr wr nq);have a:=As hb (dr wr nq).size;clear s c2 cl M H f G;generalize wr.drewN nq=c at*;have s:=Q k E;rw[hx]at s;have K:∀(v:Wd),Bw c v->Rl v g n/\v.cell? (aD b (r+k))=some (Bn (m:Nat)):=λv h=>by
    have⟨l,S,h2⟩:=V.1;exact⟨⟨l,S,Ac h h2⟩,zD s a h⟩
   have e:=I K;clear K;by_cases k0:k=0
   . have W:decide ((0:Int)<(k:Int))=false:=by simp;omega
     have X:decide (0<k)=false:=by simp;omega
     clear k0;go_wp2;go_quiet (fail);have N:=fE d (dr c nq);have⟨t,c3⟩:=e.1 _ (dr c nq);have Y:=As a (dr c nq).size;clear d V Q s a e;generalize c.drewN nq=v at*;have u:=I t;have⟨bq,d1,d2,d3⟩:=t.cell (m:=m) (by omega);clear t;go_wp2;go_roundw;exact⟨k+1,by omega,by go_num,I (u.1.set m true),I (N.1.setCell (p:=aD g m) (Nat.le_of_eq HG.1.symm) _)⟩;simp[intOf];omega
   obtain⟨j,hj⟩:∃j,k=j+1:=⟨k-1,by omega⟩;have c0:=Q j (by omega);obtain⟨y,hy⟩:∃y,L[j]'(by omega)=y:=⟨_,rfl⟩;rw[hy]at c0;have a2:(j:Int)<L.length:=by omega
   have e1:IntKind.i64.wrap ((k:Int)-1)=(j:Int):=by rw[wI];omega
   have W:decide ((0:Int)<(k:Int))=true:=by simp;omega
   have X:decide (0<k)=true:=by simp;omega
   clear Q hy k0;clear hj;by_cases g2:(m:Int)<=y
   . go_wp2;go_quiet (fail);have N:=fE d (dr c nq);go_wp2;go_ret2;exact⟨_,8,0,rfl,.inr rfl,(λh=>by cases h),⟨none,0,rfl,.inl rfl⟩,Ab B.1 N.1⟩
   go_wp2;go_quiet (fail);have N:=fE d (dr c nq);have⟨t,c3⟩:=e.1 _ (dr c nq);have Y:=As a (dr c nq).size;clear d V s c0 a e;generalize c.drewN nq=v at*;have u:=I t;have⟨bq,d1,d2,d3⟩:=t.cell (m:=m) (by omega);clear t;go_wp2;go_roundw;exact⟨k+1,by omega,by go_num,I (u.1.set m true),I (N.1.setCell (p:=aD g m) (Nat.le_of_eq HG.1.symm) _)⟩;simp[intOf];omega
 obtain rfl:k=L.length:=by omega
 go_wp2;go_ret2;exact⟨_,0,n,rfl,.inl rfl,λ_=>rfl,M.1.at,Ab B.1 f.1⟩
def Mz(x:Int×Bool):LV:= [Bn x.1,.bool x.2]
def Hj(lo:Nat)(v:Value)(d:Ai)(w:Wd):Prop:=w.ownsRow lo 104 2 v d.length (d.map Mz).flatten
theorem Hj.call{d:Ai}(h:Hj lo v d w)(a:Bw w w'):Hj lo v d w':=World.ownsRow.kept h (Sj (r:=none) a) (by grind)
def EH{d:Ai}:∀c∈d.map Mz,c.length=2:=λc hc=>by
 obtain⟨x,_,rfl⟩:=List.mem_map.1 hc;rfl
theorem sD(d:Ai):(d.map Mz).flatten.length=d.length*2:=by
 induction d<;>grind[Mz]
theorem EJ{d:Ai}(h:i<d.length):(d.map Mz)[i]'(by simpa using h)= [Bn (Cm d i).1,.bool (Cm d i).2]:=by
 grind[Mz,Cm]
def Hj.at{d:Ai}(h:Hj lo v d w)(f:∀x∈d,(Lit.int .i64 x.1).wf=true):∃a b,v=CU a d.length b/\(d.length<=b/\b<=9223372036854775807)/\Al Ei w a d:=by
 obtain⟨a,b,rfl,k,l,m⟩:=Sw h;refine⟨a,b,rfl,⟨k,l⟩,?_⟩;rcases m with o|⟨g,rfl,r,p,q⟩;exact .inl (List.eq_nil_of_length_eq_zero o);refine .inr ⟨g,0,rfl,p,λi hi=>⟨[Bn (Cm d i).1,.bool (Cm d i).2],λj hj=>?_,?_⟩⟩;rw[Nat.zero_add];refine q _ _ ?_;show(d.map Mz).flatten[i*2+j]?=_;rw[Zy (n:=2) (d.map Mz) EH i (by simpa using hi) j (by simpa using hj),EJ hi];exact Cz hj;have e:d[i]=Cm d i:=by simp[Cm,Cr,Cz hi]
 have c:=f _ (gM hi);rw[e]at c ⊢;exact⟨[_], [_],rfl,⟨rfl,c⟩,rfl⟩
def Hj.sets{w a:Wd}{d:Ai}(c:b<lo)(l:LV)(i:Nat)(h:Hj lo v d a):Hj lo v d (stN b i l a):=by
 induction l generalizing i a with
 |nil=>exact h
 |cons x l ih=>exact ih (i+1) (ownsRow_setCell_below h c x)
def Hj.base{d:Ai}(h:Hj lo v d w)(a:lo'<=lo):Hj lo' v d w:=⟨h.1,h.2.imp_right λ⟨g,cap,cur,h4,h5,h6⟩=>⟨g,cap,cur,h4,by omega,h6⟩⟩
def rW(h:w.grownBy w' r)(a:r=none):Bw w w':=⟨h.os,h.tape,h.output,h.size,λk hk=>h.block k hk (by rw[a];simp)⟩
def fF:EI 59 104 (.agg #[Bn 0,.bool false]) 2 16:=⟨underlying59,by kernel_rfl,rfl,by decide⟩
theorem EC{off:Nat}{d:Ai}(h:eP w c off d):∀j u,(d.map Mz).flatten[j]?=some u->w.cell? (((aD c off):Addr).add j)=some u:=λj u hu=>by
 rw[Addr.add_lit];have k:j<(d.map Mz).flatten.length:=(List.getElem?_eq_some_iff.1 hu).1;have f:=sD d;have a:j/2<d.length:=by omega
 have e:=Zy (n:=2) (d.map Mz) EH (j/2) (by simpa using a) (j%2) (Nat.mod_lt _ (by decide));rw[show j/2*2+j%2=j by omega,EJ a,hu]at e;have⟨g,i⟩:=h (j/2) a;grind
def EG{d:Ai}:∀u∈(d.map Mz).flatten,u.oneCell'=true:=λu a=>by
 have⟨c,b,a⟩:=List.mem_flatten.1 a;obtain⟨x,_,rfl⟩:=List.mem_map.1 b;simp[Mz]at a
 rcases a with rfl|rfl <;> rfl
def Yi{e:Func}{a:Array Value}{W:Wd}{v0 v3 g h i y:Value}{f:Nat×Nat}(k:e.results=#[.cell 6 92,.tmp 7])(l:a.getD 6 undef=Ua b 0)(m:a.getD 7 undef=y) 
 (q:W.heap[b]?=some (.cells #[v0,v1,v2,v3,g,h,i] 92 f)):(results e a).run prog W=.ok (.tuple #[.agg #[v0,v1,v2,v3,g,h,i],y]) W:=by
 have c:a[6]?.getD undef=Ua b 0:=by simpa using l
 have d:a[7]?.getD undef=y:=by simpa using m
 simp[results,k,go_sem,c,d,D_ q]
def cK(t:At)(c:Ad)(d:Ai)(x1 x2:Int)(s1 s2:BA)(x5 x6:Int):Prop:=Bk t c d=0/\Zp t c d= []/\x1=(Bm t c d).1/\x2=(Bm t c d).2/\s1=(Aa t.fs (fstN d)).fq/\s2=(Aa t.fs (lstN d)).to/\x5=Wg t c d/\x6=Xc t c d
def RB(t:At)(c:Ad)(d:Ai):Int:=if Bk t c d≠0 then Bk t c d else if Zp t c d= [] then 0 else 15
def DesX(t:At)(c:Ad)(d:Ai)(w:Wd)(e:Ending)(w':Wd):Prop:=∃(sa:Ae) (sn sc:Nat) (x1 x2:Int) (s1 s2:BA) (x5 x6 er:Int),e=.returned (.tuple #[.agg #[.slice sa sn sc,x1,x2,.string s1,.string s2,x5,x6],er])/\
 er=RB t c d/\
 (er=0->cK t c d x1 x2 s1 s2 x5 x6/\sn=d.length/\Hj w.heap.size (.slice sa sn sc) d w')/\Below w.heap.size w w'
def zAg(t:At)(c:Ad)(E:Ae)(s:Nat)(F:Ae)(ac:Nat)(fa:Ae)(fc:Nat)(p:Bd)(w:Wd)(l:t.zn.length<=s/\s<=140737488355328/\t.ai.length<=ac/\ac<=140737488355328)(V:c.cs.length<=p.cc/\p.cc<=9223372036854775807)(b5:Ea w t c E F fa p)(d:Ai)(da:Ae)(dc:Nat)(X:d.length<=140737488355328)(hd:Al Ei w da d):
 Calls prog 75 #[Az t E s F ac fa fc,Ay c p,CU da d.length dc] w (DesX t c d w):=by
 try delta Ay Az
 have m:=I b5;have HD:=I hd;clear b5 hd;go_enter func75,ntmps75
 go_wp2_with fail;have⟨hB,Y,Z,a0⟩:=cB w t c E s F ac fa fc p jH;have⟨tb,a1⟩:=C_ w.heap.size;have⟨cb,a2⟩:=C_ (w.heap.size+1);have⟨lb,x⟩:=C_ (w.heap.size+1+1);rw[<-x]at a0;rw[<-a2]at Z;rw[<-a1]at Y;simp only[<-x];simp only[<-a2];simp only[<-a1];have a3:=I x;have HB:=I hB;have QT:=I Y;have QC:=I Z;have QL:=I a0;clear a2 a1 x hB Y Z a0;generalize ((w.alloc (Ap t E s F ac fa fc)).alloc (Aj c p)).alloc jH=W0 at*;refine(GW t c E s F ac fa fc p W0 l V (m.1.below HB.1) d da dc X (HD.1.below HB.1)).mono ?_;rintro e w1 ⟨va,vc,rfl,-,B1⟩;have i:=fE HB B1;have a4:=fO QT B1;have a5:=fO QC B1;have y:=fO QL B1;clear B1 HB QT QC QL;by_cases e0:Bk t c d=0
 rotate_left
 . have e1:(Bk t c d !=0)=true:=by simpa using e0
   have E0:=I e0;clear e0;have a:=y.1;have s0:=D_ a;have G:=E_ 0 a;have H:=E_ 1 a;have L:=E_ 2 a;have M:=E_ 3 a;have N:=E_ 4 a;have P:=E_ 5 a;have Q:=E_ 6 a;have sl:=Ag a;have R:=I (Pr [.slice none 0 0,.int .i64 0,.int .i64 0,B_ ⟨#[]⟩,B_ ⟨#[]⟩,.int .i64 0,.int .i64 0] [] [.slice none 0 0,.int .i64 0,.int .i64 0,B_ ⟨#[]⟩,B_ ⟨#[]⟩,.int .i64 0,.int .i64 0] _ rfl a);have S:=I (Tt (show w.heap.size<=lb by have:=a3.1;omega) [.slice none 0 0,.int .i64 0,.int .i64 0,B_ ⟨#[]⟩,B_ ⟨#[]⟩,.int .i64 0,.int .i64 0] 0 _ i.1);clear a;simp only[stN,Nat.zero_add,Nat.reduceAdd,List.length_nil]at R S;go_wp2_with fail;refine bP (Yi rfl rfl rfl R.1) rfl ⟨_,_,_,_,_,_,_,_,_,_,rfl,(iP E0.1).symm,(λh=>aB h E0.1),S.1⟩
 have⟨hT,hC,hE⟩:=aR e0;have⟨b6,b7,b8,b9⟩:=Jl hE;have⟨g5,g6,_,_⟩:=Ka hE;have d9:=(On hT).2.2;have E0:=I e0;have f2:=I hT;have f3:=I hC;have f4:=I hE;rw[e0];clear e0 hT hC hE;by_cases e1:Zp t c d= []
 rotate_left
 . have e2:(0:Int)<(Zp t c d).length:=by have:=List.length_pos_iff.2 e1;omega
   have f5:=I e1;clear e1;have a:=y.1;have s0:=D_ a;have G:=E_ 0 a;have H:=E_ 1 a;have L:=E_ 2 a;have M:=E_ 3 a;have N:=E_ 4 a;have P:=E_ 5 a;have Q:=E_ 6 a;have sl:=Ag a;have R:=I (Pr [.slice none 0 0,.int .i64 0,.int .i64 0,B_ ⟨#[]⟩,B_ ⟨#[]⟩,.int .i64 0,.int .i64 0] [] [.slice none 0 0,.int .i64 0,.int .i64 0,B_ ⟨#[]⟩,B_ ⟨#[]⟩,.int .i64 0,.int .i64 0] _ rfl a);have S:=I (Tt (show w.heap.size<=lb by have:=a3.1;omega) [.slice none 0 0,.int .i64 0,.int .i64 0,B_ ⟨#[]⟩,B_ ⟨#[]⟩,.int .i64 0,.int .i64 0] 0 _ i.1);clear a;simp only[stN,Nat.zero_add,Nat.reduceAdd,List.length_nil]at R S;go_wp2_with fail;refine bP (Yi rfl rfl rfl R.1) rfl ⟨_,_,_,_,_,_,_,_,_,_,rfl,(by rw[RB,iN (not_not_intro E0.1),iN f5.1]),(λh=>by cases h),S.1⟩
 have E1:=I e1;rw[e1];clear e1;have⟨x0,x1,x2,T⟩:=Ev a4.1;have⟨G,H,L,M,N,P,Q,y7,y8,y9,n,o,q,r,yl⟩:=Ek a5.1;go_wp2_with fail;refine(Vy t c E s F ac fa fc p _ f2.1 f3.1 (m.1.below i.1).f d da dc f4.1 (HD.1.below i.1)).mono ?_;rintro e w2 ⟨rfl,B2⟩;go_upto_region 7 with fail
 have B3:=Ab B2 (J w2 (oQ (Bm t c d).1 (Bm t c d).2));have a6:=zh w2 (oQ (Bm t c d).1 (Bm t c d).2);have⟨gb,a7⟩:=C_ w2.heap.size;rw[<-a7]at a6;simp only[<-a7];clear a7;generalize w2.alloc (oQ (Bm t c d).1 (Bm t c d).2)=w3 at*;have z:=fE i B3;have a8:=fO a4 B3;have a9:=fO a5 B3;have c4:=fO y B3;have QS:=I a6;clear x0 x1 x2 T G H L M N P Q y7 y8 y9 n o q r yl B2 B3 a6 a4 a5 y i;have⟨x0,x1,x2,T⟩:=Ev a8.1;have⟨G,H,L,M,N,P,Q,y7,y8,y9,n,o,q,r,yl⟩:=Ek a9.1;go_wp2_with fail;refine(zjX t c E s F ac fa fc p _ l V (m.1.below z.1) d da dc X (HD.1.below z.1)).mono ?_;rintro e w4 ⟨rfl,B4⟩;have B:=fE z B4;have b0:=fO a8 B4;have c5:=fO a9 B4;have c6:=fO c4 B4;have c7:=fO QS B4;clear x0 x1 x2 T G H L M N P Q y7 y8 y9 n o q r yl B4 a8 a9 c4 z QS;have⟨x0,x1,x2,T⟩:=Ev b0.1;have⟨G,H,L,M,N,P,Q,y7,y8,y9,n,o,q,r,yl⟩:=Ek c5.1;go_wp2_with fail;refine(IA t c E s F ac fa fc p _ l V (m.1.below B.1) d da dc X (HD.1.below B.1)).mono ?_;rintro e W ⟨rfl,B5⟩;have C:=fE B B5;have c8:=fO b0 B5;have c9:=fO c6 B5;have f6:=fO c7 B5;clear x0 x1 x2 T G H L M N P Q y7 y8 y9 n o q r yl B5 b0 c5 c6 B c7;go_wp2_with fail;obtain⟨db,b1,rfl,D,tc⟩:=Ok (HD.1.below C.1) (by omega);obtain⟨fb,fo,rfl,b2,b3⟩:=Qg (m.1.below C.1).f (by omega);obtain⟨U,f7⟩:∃U,d.length=U+1:=⟨d.length-1,by omega⟩;have c0:W.cell? (aD db b1)=some (.int .i64 (fstN d:Nat)):=by
  have:=(tc 0 (by omega)).1;rwa [b6,Nat.zero_mul,Nat.add_zero]at this
 have c1:W.cell? (aD db (b1+U*2))=some (.int .i64 (lstN d:Nat)):=by
  have:=(tc U (by omega)).1;rwa [show U=d.length-1 by omega,b8,show d.length-1=U by omega]at this
 have c2:=(b3 (fstN d) b7).1.2.1;have c3:=(b3 (lstN d) b9).1.2.2.1;have TK:=I tc;have i1:(fstN d:Int)<t.fs.length:=by omega
 have i2:(lstN d:Int)<t.fs.length:=by omega
 have i3:(U:Int)<d.length:=by omega
 have i4:(0:Int)<d.length:=by omega
 have el:IntKind.i64.wrap ((d.length:Int)-1)=(U:Int):=by rw[wI];omega
 have f8:0<d.length:=by omega
 have⟨i0,f9,g2,g3,g4⟩:=info_parts fF.info;have x2:=zC c8.1;have T:=Ag c8.1;have⟨g0,g1,_,_,gl⟩:=fT f6.1;clear tc b3 b6 b7 b8 b9 f7;refine' lK [⟨48, [],.kn _⟩,⟨49, [48],.ow (λv w'=>Hj W.heap.size v d w') (λ_ _ _=>Hj.call)⟩,⟨50, [],.kn _⟩,⟨51, [50],.kn _⟩,⟨52, [],.kn _⟩,⟨53, [52],.kn _⟩,⟨54, [],.kn _⟩,⟨55, [54],.kn _⟩,⟨56, [],.kn _⟩,⟨57, [56],.kn _⟩,⟨58, [57],.kn _⟩,⟨59, [58],.kn _⟩,⟨60, [55,59],.kn _⟩,⟨61, [60],.kn _⟩,⟨62, [61],.kn _⟩,⟨63, [],.kn _⟩,⟨64, [63],.kn _⟩,⟨65, [],.kn _⟩,⟨66, [],.kn _⟩,⟨67, [66],.kn _⟩,⟨68, [67],.kn _⟩,⟨69, [65,68],.kn _⟩,⟨70, [69],.kn _⟩,⟨71, [70],.kn _⟩,⟨72, [64,71],.kn _⟩,⟨73, [72],.kn _⟩,⟨74, [73],.kn _⟩,⟨75, [],.kn _⟩,⟨76, [],.kn _⟩,⟨77, [49,51,53,62,74,75,76],.ag [49,51,53,62,74,75,76]⟩] [2,3,10,11,13] [49,51,53,62,74,75,76,77] (λ_ h=>aI (aI (zD c0 D h) (aI (zD c1 D h) (aI (zD c2 b2 h) (zD c3 b2 h)))) (aI (aI (zD x2 T h) (aI (zD g0 gl h) (zD g1 gl h))) (aI (As D h.size) (aI (As b2 h.size) (aI (As T h.size) (As gl h.size)))))) ?h1 ?c1 ?f1
 case h1=>
  intro u;simp only[Df,Jm,↓reduceIte,Nat.reduceEqDiff];intros
  and_intros
  all_goals try (first|trivial|(intros;refine Fy (by assumption) ?_;go_simp <;> rfl))
  . intro A w1 e hb g f0 K k;have T1:=TK.1.below D hb;clear g;refine wp_append_lies _ _ _ 59 rfl W.heap.size 104 i0 (.agg #[.int .i64 0,.bool false]) 2 16 fF.ht f9 g2 g3 g4 rfl (by decide) (.slice none 0 0) 0 [] rfl (World.ownsRow_nil ..) (aD db b1) d.length dc (d.map Mz).flatten ((e.1 _).trans f0) (sD d) (EC T1) EG f8 (by unfold maxLen;omega) (by omega) hb.size w1.heap.size rfl ?_;intro g1 g7 w2 h1 h2 h3 h4;refine k.1 _ _ ⟨rW h2 rfl,?_⟩;simpa[Hj] using h1
  intro A w1 e hb g d0 g8 g9 h0 h5 h6 h7 K k;have⟨sa,sc,d0⟩:=Js d0;clear g;refine Fy k ?_;go_simp
 case c1=>kernel_rfl
 intro u w9 hb;simp only[Df,Hu,Jm,Act.put,O,↓reduceIte,Nat.reduceEqDiff];intro ow d1 d2 d3 d4 d5 d6 d7;have⟨sa,sc,b4⟩:=Js ow;rw[b4]at ow;rw[d7,b4,d1,d2,d3,d4,d5,d6];have a:=Ac hb c9.1;have h8:=I ow;have s0:=D_ a;have G:=E_ 0 a;have H:=E_ 1 a;have L:=E_ 2 a;have M:=E_ 3 a;have N:=E_ 4 a;have P:=E_ 5 a;have Q:=E_ 6 a;have sl:=Ag a;have R:=I (Pr [CU sa d.length sc,.int .i64 (Bm t c d).1,.int .i64 (Bm t c d).2,B_ (Aa t.fs (fstN d)).fq,B_ (Aa t.fs (lstN d)).to,.int .i64 (Wg t c d),.int .i64 (Xc t c d)] [] [.slice none 0 0,.int .i64 0,.int .i64 0,B_ ⟨#[]⟩,B_ ⟨#[]⟩,.int .i64 0,.int .i64 0] _ rfl a);have S:=I (Tt (show w.heap.size<=lb by have:=a3.1;omega) [CU sa d.length sc,.int .i64 (Bm t c d).1,.int .i64 (Bm t c d).2,B_ (Aa t.fs (fstN d)).fq,B_ (Aa t.fs (lstN d)).to,.int .i64 (Wg t c d),.int .i64 (Xc t c d)] 0 _ (Ab C.1 hb));have d8:=I (Hj.sets (w:=w) (lo:=W.heap.size) (b:=lb) (show lb<W.heap.size from Ag c9.1) [CU sa d.length sc,.int .i64 (Bm t c d).1,.int .i64 (Bm t c d).2,B_ (Aa t.fs (fstN d)).fq,B_ (Aa t.fs (lstN d)).to,.int .i64 (Wg t c d),.int .i64 (Xc t c d)] 0 ow);clear a ow b4 d1 d2 d3 d4 d5 d6 d7;simp only[stN,Nat.zero_add,Nat.reduceAdd,List.length_nil]at R S d8;go_simp;go_wp2_with fail;refine bP (Yi rfl rfl rfl R.1) rfl ?_;refine⟨_,_,_,_,_,_,_,_,_,_,rfl,(by rw[RB,iN (not_not_intro E0.1),iP E1.1]),λ_=>⟨⟨E0.1,E1.1,rfl,rfl,rfl,rfl,rfl,rfl⟩,rfl,?_⟩,S.1⟩;exact d8.1.base (by have:=C.1.size;omega)
def aA.below(h:aA n m v w)(a:Bw w w'):aA n m v w':=by
 obtain⟨g,e,c,f⟩:=h;refine⟨g,e,As c a.size,λi hi=>?_⟩;have⟨b,k,d,l⟩:=f i hi;exact⟨b,zD k c a,As d a.size,λj hj=>(l j hj).imp λ_ q=>zD q d a⟩
def Ms(w:Wd)(b m:Nat):Prop:=∃l:LI,l.length=m/\w.heap[b]?=some (.cells (l.map (Value.int .i64)).toArray 3 (0,0))
def Ms.call(h:Ms w b m)(a:Bw w w'):Ms w' b m:=by
 obtain⟨l,c,d⟩:=h;exact⟨l,c,Ac a d⟩
def Ms.cell{h:Nat}(S:Ms w b m)(a:h<m):∃y:Int,w.cell? (aD b h)=some (Bn y)/\w.frozen? (aD b h)=false/\b<w.heap.size:=by
 obtain⟨l,rfl,q⟩:=S;exact⟨l[h],zm q (by simp[a]),zQ q,Ag q⟩
def Gb(lo g n m i:Nat)(w:Wd):Prop:=lo<=g/\∃vals:LV,vals.length=n/\w.heap[g]?=some (.cells vals.toArray 22 (0,0))/\∀j,j<i->∃b,vals[j]?=some (.slice (some (aD b 0)) m m)/\b≠g/\lo<=b/\Ms w b m
section
variable {lo g n m i:Nat} {w w':Wd} (S:Gb lo g n m i w)
include S
def Gb.call(a:Bw w w'):Gb lo g n m i w':=by
 obtain⟨c,l,d,e,f⟩:=S;refine⟨c,l,d,Ac a e,λj hj=>?_⟩;have⟨b,h,k,o,p⟩:=f j hj;exact⟨b,h,k,o,p.call a⟩
def Gb.row{j:Nat}(a:j<i):∃b,w.cell? (aD g j)=some (Kx b 0 m m)/\b≠g/\lo<=b/\Ms w b m:=by
 obtain⟨n,l,o,c,d⟩:=S;have⟨b,e,f,h,k⟩:=d j a;exact⟨b,zm c (by simpa using e),f,h,k⟩
def Gb.store{b:Nat}(f:b≠g)(y:lo<=b)(k:Ms w b m)(h:Nat)(x:Int):Gb lo g n m i (w.setCell (aD b h) (Bn x)):=by
 obtain⟨o,l,p,q,r⟩:=S;refine⟨o,l,p,(Below.heap_setCell w (aD b h) _ g (Ne.symm f)).trans q,λj hj=>?_⟩;have⟨d,s,t,u,v⟩:=r j hj;refine⟨d,s,t,u,?_⟩;by_cases e:d=b;subst e;obtain⟨l,a,c⟩:=k;refine⟨l.set h x,by simpa using a,?_⟩;rw[zg c];simp;obtain⟨l,a,c⟩:=v;exact⟨l,a,(Below.heap_setCell w (aD b h) _ d e).trans c⟩
def Gb.add(f:i<n)(h:lo<=w.heap.size):Gb lo g n m (i+1) ((w.setCell (aD g i) (Kx w.heap.size 0 m m)).alloc (.cells (Array.replicate m (Bn 0)) 3)):=by
 obtain⟨k,l,a,b,o⟩:=S;have p:=Ag b;have q:(w.setCell (aD g i) (Kx w.heap.size 0 m m)).heap.size=w.heap.size:=by simp[World.setCell]
 refine⟨k,l.set i (Kx w.heap.size 0 m m),by simpa using a,?_,λj hj=>?_⟩;refine zd ?_;rw[zg b];simp;by_cases e:j=i;subst e;refine⟨w.heap.size,by simp[a,f],by omega,h,List.replicate m 0,by simp,?_⟩;have:=zh (w.setCell (aD g j) (Kx w.heap.size 0 m m)) (.cells (Array.replicate m (Bn 0)) 3);rw[q]at this;simpa using this;have⟨d,s,c,t,u⟩:=o j (by omega);obtain⟨r,v,x⟩:=u;exact⟨d,by rw[List.getElem?_set_ne (by omega)];exact s,c,t,r,v,zd ((Below.heap_setCell _ (aD g i) _ d c).trans x)⟩
def Gb.cell(b:i<n):∃v,w.cell? (aD g i)=some v/\w.frozen? (aD g i)=false/\g<w.heap.size:=by
 obtain⟨c,l,rfl,a,d⟩:=S;exact⟨l[i],zm a (by simp[b]),zQ a,Ag a⟩
theorem Gb.way(d:i=n):aA n m (Kx g 0 n n) w:=by
 subst d;have a:=Ag S.2.choose_spec.2.1;refine⟨g,rfl,a,λj hj=>?_⟩;have⟨b,e,f,h,l,k,c⟩:=S.row hj;exact⟨b,e,Ag c,λj hj=>⟨l[j]'(by omega),zm c (by simp_all)⟩⟩
end
theorem Gb.start(w:Wd)(n m:Nat):Gb w.heap.size w.heap.size n m 0 (w.alloc (.cells (Array.replicate n Ls) 22)):=⟨Bv _,List.replicate n Ls,by simp,by grind[zh],λj hj=>by omega⟩
def ZS:(prog.info? 22).map (λi=>(i.zero,i.size,i.bytes))=some (some Ls,1,24):=by kernel_rfl
def lQ(t:At)(c:Ad)(w:Wd)(e:Ending)(w':Wd):Prop:=∃k er:Int,e=.returned (.tuple #[k,er])/\(er=0->zY t=0/\Ax c=0)/\Below w.heap.size w w'
def ZD(t:At)(c:Ad)(za:Ae)(Y:Nat)(aa:Ae)(ac:Nat)(fa:Ae)(fc:Nat)(p:Bd)(w:Wd)(a8:t.zn.length<=Y/\Y<=2^47/\t.ai.length<=ac/\ac<=2^47)(b9:c.cs.length<=p.cc/\p.cc<=9223372036854775807)(a9:Ea w t c za aa fa p) 
 (L:LI) (la:Ae) (lc:Nat) (hL:Al RT.int w la L) (hl:L.length<=2^47) (hd:Nat) (f9:hd<=6):
 Calls prog 63 #[Az t za Y aa ac fa fc,Ay c p,CU la L.length lc,hd] w (lQ t c w):=by
 try delta Ay Az
 have Z:=I a9;have HL:=I hL;clear a9 hL;go_in;go_wp2_with fail;have⟨Q,a0,a1⟩:=Uy w t c za Y aa ac fa fc p;have HB:=I Q;have⟨tb,a2⟩:=aT w.heap.size;have⟨cb,a3⟩:=aT (w.heap.size+1);rw[<-a3]at a1;rw[<-a2]at a0;simp only[<-a3];simp only[<-a2];have QT:=I a0;have QC:=I a1;clear a3 a2 Q a0 a1;generalize (w.alloc (Ap t za Y aa ac fa fc)).alloc (Aj c p)=W at*;have TC:=Z.1.below HB.1;refine(kJ t c za Y aa ac fa fc p W W.heap.size (Bv _) a8 b9 TC.z TC.a TC.f TC.c).mono ?_;rintro e o ⟨rfl,B1⟩;have R:=fE HB B1;have S:=fO QT B1;have b0:=fO QC B1;clear TC B1 HB QT QC;by_cases e0:Jn t c=0;rotate_left
 . have e1:=CN e0
   go_wp2;go_ret2;exact⟨_,_,rfl,λh=>aB h e0,R.1⟩
 have⟨hT,hC⟩:=kT e0;have hN:=(On hT).2.2;have b1:=I hT;have c3:=I hC;have⟨x0,x1,x2,xl⟩:=Ev S.1;rw[e0];clear e0 hT hC;go_wp2_with fail;refine(DI _ _ fa t.fs.length fc L la lc _ (HL.1.below R.1) hl (by omega)).mono ?_;rintro e w2 ⟨mv,er,nm,rfl,h1,h2,hM,B2⟩;have T:=fE R B2;have⟨x0,x1,x2,xl⟩:=Ev (Ac B2 S.1);have⟨y0,y1,y2,y3,y4,y5,y6,y7,y8,y9,c4,c5,c6,c7,yl⟩:=Ek (Ac B2 b0.1);have b3:=fO S B2;have HM:=I hM;obtain⟨ma,mc,rfl,-⟩:=hM;have b4:=I (DJ t c za Y aa ac fa fc p w2 b1.1 (Z.1.below T.1).f);clear HL B2 R S b0 Z;cases U:(er !=0);rotate_left
 . go_wp2;go_ret2;exact⟨_,_,rfl,λh=>by subst h;simp at U,T.1⟩
 obtain rfl:er=0:=by simpa using U
 obtain rfl:=h2 rfl;have e4:¬ (hd:Int)<0:=by omega
 have e5:¬ (6:Int)<hd:=by omega
 clear h1 h2 U;go_wp2_with fail;refine b4.1.mono ?_;rintro e w3 ⟨nv,rfl,hJ,B3⟩;have HJ:=I hJ;obtain⟨na,nc,rfl,-⟩:=hJ;have b5:=fE T B3;have⟨x0,x1,x2,xl⟩:=Ev (Ac B3 b3.1);have a4:=I (HM.1.below B3);clear y0 y1 y2 y3 y4 y5 y6 y7 y8 y9 c4 c5 c6 c7 yl b4 B3 T b3 HM e4 e5;have⟨n,hn⟩:=aT t.fs.length;rw[<-hn]at HJ a4 hN x2 ⊢;clear hn;have mk:∀w',(Instr.makeSlice 45 (Bn (n:Int)) (Bn (n:Int))).run prog w'=.ok (Kx w'.heap.size 0 n n) (w'.alloc (.cells (Array.replicate n Ls) 22)):=λw'=>by
  rw[show ∀v k,Array.replicate k v=madeCells #[v] k from λv k=>by rw[sA];simp];exact run_make_row' (P:=prog) 45 22 Ls 24 underlying45 ZS rfl .i64 .i64 n (by omega) (by omega) w'
 go_wp2_with fail;clear x0 x1 x2 xl;have B4:=I (J w3 (.cells (Array.replicate n Ls) 22));have b6:=I (HJ.1.below B4.1);have c8:=I (a4.1.below B4.1);have c9:=fE b5 B4.1;clear B4 HJ a4 b5;generalize w3.alloc (.cells (Array.replicate n Ls) 22)=w4 at*;have⟨m,d4⟩:=aT (hd+1);have hm:m<=hd+1/\hd+1<=m:=by omega
 clear d4;have em:IntKind.i64.wrap ((hd:Int)+1)=(m:Int):=by rw[wI];omega
 have g0:∀w',(Instr.makeSlice 22 (Bn (m:Int)) (Bn (m:Int))).run prog w'=.ok (Kx w'.heap.size 0 m m) (w'.alloc (.cells (Array.replicate m (Bn 0)) 3)):=λw'=>by
  rw[show ∀v k,Array.replicate k v=madeCells #[v] k from λv k=>by rw[sA];simp];exact run_make_row' (P:=prog) 22 3 (Bn 0) 8 underlying22 (by kernel_rfl) rfl .i64 .i64 m (by omega) (by omega) w'
 go_loopw [15,16,17] (λwv tv sv wr=>∃(d:Nat) (y:Int),1<=d/\d<=7/\sv=Bn d/\tv=Bn y/\Af (d=1\/aA n m wv wr)/\Af (Bw w4 wr)) (λ_ _ sv _=>7-(intOf sv).toNat);exact⟨1,0,Bv _,by decide,rfl,rfl,I (.inl rfl),I (An _ _)⟩;obtain⟨d,y,g1,g2,rfl,rfl,hW,Q⟩:=hrel;obtain⟨B,d5⟩:∃v:Wd,v=wr:=⟨_,rfl⟩;subst d5;by_cases hs:d<=6;rotate_left
 . have d6:¬ (d:Int)<=6:=by omega
   go_wp2;go_ret2;exact⟨_,_,rfl,λ_=>⟨b1.1,c3.1⟩,Ab c9.1 Q.1⟩
 have d6:(d:Int)<=6:=by omega
 go_wp2_with fail;have N0:=I (Gb.start B n m);have B5:=I (J B (.cells (Array.replicate n Ls) 22));have⟨g,hg⟩:=aT B.heap.size;rw[<-hg]at N0;simp only[<-hg];have HG:=I hg;clear hg;generalize B.alloc (.cells (Array.replicate n Ls) 22)=w5 at*;go_loopw [16,19] (λtv iv wi=>∃(i:Nat) (y:Int),i<=n/\iv=Bn i/\tv=Bn y/\Af (Gb g g n m i wi)/\Af (Bw B wi)) (λ_ iv _=>n-(intOf iv).toNat);exact⟨0,y,Bg _,rfl,rfl,N0,B5⟩;obtain⟨i,y,hi,rfl,rfl,D,V⟩:=hrel;obtain⟨wi,d7⟩:∃v:Wd,v=wr:=⟨_,rfl⟩;subst d7;clear N0 B5;by_cases E:i<n;rotate_left
 . obtain rfl:i=n:=by omega
   have HW:Af (d+1=1\/aA i m (Kx g 0 i i) wi):=I (.inr (D.1.way rfl));have d8:=fE Q V.1;clear D V Q hW;go_wp2;go_roundw;exact⟨d+1,y,by omega,by omega,by go_num,rfl,HW,d8⟩;simp[intOf];omega
 have f8:(i:Int)<n:=by omega
 have⟨v0,s0,s1,s2⟩:=D.1.cell E;have N1:=I (D.1.add E (Nat.le_of_lt s2));have B6:=I (Ab (V.1.setCell (p:=aD g i) (Nat.le_of_eq HG.1.symm) (Kx wi.heap.size 0 m m)) (J _ (.cells (Array.replicate m (Bn 0)) 3)));clear D V;go_wp2_with fail;clear s0 s1 s2;generalize (wi.setCell (aD g i) (Kx wi.heap.size 0 m m)).alloc (.cells (Array.replicate m (Bn 0)) 3)=w6 at*;go_loopw [16,20] (λtv hv X=>∃(h:Nat) (y:Int),h<=m/\hv=Bn h/\tv=Bn y/\Af (Gb g g n m (i+1) X)/\Af (Bw B X)) (λ_ hv _=>m-(intOf hv).toNat);exact⟨0,y,Bg _,rfl,rfl,N1,B6⟩;obtain⟨h,y,hh,rfl,rfl,j,l⟩:=hrel;obtain⟨X,a5⟩:∃v:Wd,v=wr:=⟨_,rfl⟩;subst a5;clear N1 B6;by_cases g3:h<m;rotate_left
 . obtain rfl:h=m:=by omega
   have d9:¬ (h:Int)<=hd:=by omega
   go_wp2;go_roundw;exact⟨i+1,y,by omega,by go_num,rfl,j,l⟩;simp[intOf];omega
 have d9:(h:Int)<=hd:=by omega
 have⟨g4,g5,f4,b7⟩:=c8.1.below (Ab Q.1 l.1);cases f4;obtain⟨gm,rfl,lm,b8⟩:=b7.resolve_left (by omega);have⟨bb,cb⟩:=b8 i E;clear b8 b7;go_upto_if 75 with(fail);go_cut [16] (λtv wx=>tv=Bn y/\Af (Gb g g n m (i+1) wx)/\Af (Bw B wx))
 case first=>
  cases bb
  . go_wp2;go_meet;exact⟨rfl,j,l⟩
  clear lm cb;have⟨b,F,G,H,x⟩:=j.1.row (Nat.lt_succ_self i);obtain⟨y1,c1,-,C⟩:=x.cell (h:=h) (by omega);have r:=bK _ _ F;have⟨f5,f6,ej,hj⟩:=b6.1.below (Ab Q.1 l.1);cases ej;obtain⟨gn,rfl,M,N⟩:=hj.resolve_left (by omega);have⟨ra,La,rc,c2,hR,hS⟩:=N i E;have CS:=I (show ∀o,Bw X o->Calls prog 111 #[u15,CU ra La.length rc,d,h] o (fN o) from λo hb1=>by
   rcases hW.1 with e|hw
   . subst e;exact lE _ _ _ _
   by_cases e:d=1
   . subst e;exact lE _ _ _ _
   exact DU ra rc d (by simp;omega) h o (hw.below (Ab l.1 hb1)) hR (hS.below hb1) (by omega) ⟨by omega,by omega⟩)
  clear G H x hj N hR hS;go_wp2_with fail;refine' Wi [⟨76, [],.kn _⟩,⟨77, [],.kn _⟩,⟨78, [76,77],.kn _⟩,⟨79, [78],.kn _⟩,⟨80, [],.kn _⟩,⟨81, [],.kn _⟩,⟨82, [],.kn _⟩,⟨83, [81,82],.kn _⟩,⟨84, [83],.kn _⟩,⟨85, [],.kn _⟩,⟨86, [84,85],.kn _⟩,⟨87, [86],.kn _⟩,⟨88, [],.kn _⟩,⟨89, [],.kn _⟩,⟨90, [],.kn _⟩,⟨91, [89,90],.kn _⟩,⟨92, [91],.kn _⟩,⟨93, [],.kn _⟩,⟨94, [],.kn _⟩,⟨95, [88,92,93,94],.pu Ln⟩,⟨96, [87,95],.pu Ln⟩,⟨97, [79,80],.kn _⟩] [13,15,17,18,19,20] [96,97] (λ_ h=>aI (zD F r h) (aI (zD c1 C h) (zD c2 M h))) ?h1 ?c1 ?f1
  case h1=>
   intro u;simp only[Df,Jm,↓reduceIte,Nat.reduceEqDiff];intros;and_intros
   all_goals try (first|trivial|(intros;refine Fy (by assumption) ?_;go_simp <;> rfl))
   intro A o e s g f0 f1 f2 f3 K k;go_simp;refine(CS.1 o s).mono ?_;rintro e' w2 ⟨q,rfl,rfl⟩;exact k.1 _ _ ⟨An _ _,_,rfl⟩;rintro A o e s g f1 ⟨q,h1⟩ K k;go_simp;exact k.1 _ _ ⟨An _ _,_,rfl⟩
  case c1=>kernel_rfl
  intro u w6 s;simp only[Df,Hu,Jm,Act.put,O,↓reduceIte,Nat.reduceEqDiff];rintro⟨q,e1⟩ U;rw[e1,U];have⟨b2,d0,G,H,x⟩:=(j.1.call s).row (Nat.lt_succ_self i);obtain rfl:b2=b:=by
   have:=(zD F r s).symm.trans d0;simpa using this.symm
  have⟨y2,s0,s1,s2⟩:=x.cell (h:=h) (by omega);have a6:=I ((j.1.call s).store G H x (h) q);have a7:=I ((Ab l.1 s).setCell (p:=aD b2 h) (by have:=HG.1;show B.heap.size<=b2;omega) (Bn q));clear d0 G H x e1 U s j l CS F c1 c2 r C M;go_wp2;go_meet;exact⟨rfl,a6,a7⟩
 clear j l lm cb;obtain⟨rfl,j,l⟩:=hcut;obtain⟨X,a5⟩:∃v:Wd,v=wc:=⟨_,rfl⟩;subst a5;go_upto_if 99 with(fail);go_cut [16] (λtv wx=>tv=Bn y/\Af (Gb g g n m (i+1) wx)/\Af (Bw B wx))
 case first=>
  by_cases hz:h=0
  . subst hz;go_wp2;go_meet;exact⟨rfl,j,l⟩
  obtain⟨h1,f7⟩:∃h1,h=h1+1:=⟨h-1,by omega⟩;have g6:h1<m:=by omega
  have hp:decide ((0:Int)<(h:Int))=true:=decide_eq_true (by omega);have g7:decide (0<h)=true:=decide_eq_true (by omega);have g8:(0:Int)<(h:Int):=by omega
  have g9:0<h:=by omega
  have eh:IntKind.i64.wrap ((h:Int)-1)=(h1:Int):=by rw[wI];omega
  clear f7 hz;have⟨b,F,G,H,x⟩:=j.1.row (Nat.lt_succ_self i);obtain⟨y1,c1,-,C⟩:=x.cell (h:=h) (by omega);have r:=bK _ _ F;have⟨f5,f6,ej,hj⟩:=b6.1.below (Ab Q.1 l.1);cases ej;obtain⟨gn,rfl,M,N⟩:=hj.resolve_left (by omega);have⟨ra,La,rc,c2,hR,hS⟩:=N i E;have CS:=I (show ∀o,Bw X o->Calls prog 111 #[u15,CU ra La.length rc,d,h1] o (fN o) from λo hb1=>by
   rcases hW.1 with e|hw
   . subst e;exact lE _ _ _ _
   by_cases e:d=1
   . subst e;exact lE _ _ _ _
   exact DU ra rc d (by simp;omega) h1 o (hw.below (Ab l.1 hb1)) hR (hS.below hb1) (by omega) ⟨by omega,by omega⟩)
  clear G H x hj N hR hS;go_wp2_with fail;refine' Wi [⟨100, [],.kn _⟩,⟨101, [],.kn _⟩,⟨102, [100,101],.kn _⟩,⟨103, [102],.kn _⟩,⟨104, [],.kn _⟩,⟨105, [],.kn _⟩,⟨106, [],.kn _⟩,⟨107, [105,106],.kn _⟩,⟨108, [107],.kn _⟩,⟨109, [],.kn _⟩,⟨110, [108,109],.kn _⟩,⟨111, [110],.kn _⟩,⟨112, [],.kn _⟩,⟨113, [],.kn _⟩,⟨114, [],.kn _⟩,⟨115, [113,114],.kn _⟩,⟨116, [115],.kn _⟩,⟨117, [],.kn _⟩,⟨118, [],.kn _⟩,⟨119, [118],.kn _⟩,⟨120, [112,116,117,119],.pu Ln⟩,⟨121, [111,120],.pu Ln⟩,⟨122, [103,104],.kn _⟩] [13,15,17,18,19,20] [121,122] (λ_ h=>aI (zD F r h) (aI (zD c1 C h) (zD c2 M h))) ?h2 ?c2 ?f2
  case h2=>
   intro u;simp only[Df,Jm,↓reduceIte,Nat.reduceEqDiff];intros;and_intros
   all_goals try (first|trivial|(intros;refine Fy (by assumption) ?_;go_simp <;> rfl))
   intro A o e s g f0 f1 f2 f3 K k;go_simp;refine(CS.1 o s).mono ?_;rintro e' w2 ⟨q,rfl,rfl⟩;exact k.1 _ _ ⟨An _ _,_,rfl⟩;rintro A o e s g f1 ⟨q,h1⟩ K k;go_simp;exact k.1 _ _ ⟨An _ _,_,rfl⟩
  case c2=>kernel_rfl
  intro u w6 s;simp only[Df,Hu,Jm,Act.put,O,↓reduceIte,Nat.reduceEqDiff];rintro⟨q,e1⟩ U;rw[e1,U];have⟨b2,d0,G,H,x⟩:=(j.1.call s).row (Nat.lt_succ_self i);obtain rfl:b2=b:=by
   have:=(zD F r s).symm.trans d0;simpa using this.symm
  have⟨y2,s0,s1,s2⟩:=x.cell (h:=h) (by omega);have a6:=I ((j.1.call s).store G H x (h) q);have a7:=I ((Ab l.1 s).setCell (p:=aD b2 h) (by have:=HG.1;show B.heap.size<=b2;omega) (Bn q));clear d0 G H x e1 U s j l CS F c1 c2 r C M;go_wp2;go_meet;exact⟨rfl,a6,a7⟩
 clear j l;obtain⟨rfl,j,l⟩:=hcut;have⟨b,F,G,H,x⟩:=j.1.row (Nat.lt_succ_self i);obtain⟨y1,c1,-,C⟩:=x.cell (h:=h) (by omega);have r:=bK _ _ F;clear G H x;go_wp2;go_roundw;exact⟨h+1,_,by omega,by go_num,rfl,j,l⟩;simp[intOf];omega
def Iy(t:At)(c:Ad)(lo:Nat)(w:Wd)(cs:LV):Prop:=∃(da:Ae) (d:Ai) (dc:Nat) (x1 x2:Int) (s1 s2:BA) (x5 x6:Int),cs= [.slice da d.length dc,Bn x1,Bn x2,.string s1,.string s2,Bn x5,Bn x6]/\cK t c d x1 x2 s1 s2 x5 x6/\Hj lo (.slice da d.length dc) d w
def Kd(t:At)(c:Ad)(lo:Nat)(v:Value)(n:Nat)(w:Wd):Prop:=∃LL:List (LV),LL.length=n/\w.ownsRow lo 92 7 v n LL.flatten/\∀cs∈LL,Iy t c lo w cs
def Iy.keep{t:At}{c:Ad}(h:Iy t c lo w a)(f:w.ownsRow lo 92 7 v k xs)(g:w.grownBy w' v.ownBlock):Iy t c lo w' a:=by
 obtain⟨i,d,j,l,m,n,o,p,q,e,r,b⟩:=h;exact⟨i,d,j,l,m,n,o,p,q,e,r,World.ownsRow.kept b g (zx5 b f (by decide))⟩
def Iy.call{t:At}{c:Ad}(h:Iy t c lo w a)(b:Bw w w'):Iy t c lo w' a:=by
 obtain⟨f,d,g,i,j,k,l,m,n,e,o,p⟩:=h;exact⟨f,d,g,i,j,k,l,m,n,e,o,p.call b⟩
def Kd.nil(t:At)(c:Ad)(lo:Nat)(w:Wd):Kd t c lo Ls 0 w:=⟨[],rfl,World.ownsRow_nil ..,λcs h=>by cases h⟩
theorem Kd.call{t:At}{c:Ad}(S:Kd t c lo v k w)(a:Bw w w'):Kd t c lo v k w':=by
 obtain⟨b,d,e,f⟩:=S;exact⟨b,d,e.kept (Sj (r:=none) a) (by grind),λcs hc=>(f cs hc).call a⟩
theorem Kd.app{t:At}{c:Ad}{b:List (LV)}(e:b.length=k)(f:w.ownsRow lo 92 7 v k b.flatten)(i:∀a∈b,Iy t c lo w a)(j:Iy t c lo w a) 
 (l:w'.ownsRow lo 92 7 (Kx g 0 (k+1) cap) (k+1) (b.flatten++a)) (m:(w.alloc (.cells a.toArray 92)).grownBy w' v.ownBlock):Kd t c lo (Kx g 0 (k+1) cap) (k+1) w':=by
 have K:∀a,Iy t c lo w a->Iy t c lo w' a:=λa h=>(h.call (J _ _)).keep (f.alloc _) m;refine⟨b++ [a],by simp[e],by simpa using l,λx d=>?_⟩;grind
def GR(w w':Wd)(v v':Value):Prop:=w.grownBy w' v.ownBlock/\∀b,v'.ownBlock=some b->v.ownBlock=some b\/w.heap.size<=b
def GR.refl(w:Wd)(v:Value):GR w w v v:=⟨⟨rfl,rfl,rfl,Bv _,λ_ _ _=>rfl⟩,λb h=>.inl h⟩
def GR.trans{a c:Wd}(h:GR w a v v1)(k:GR a c v1 v2):GR w c v v2:=by
 refine⟨⟨k.1.os.trans h.1.os,k.1.tape.trans h.1.tape,k.1.output.trans h.1.output,Bf h.1.size k.1.size,λb hb hne=>(k.1.block b (As hb h.1.size) λe=>?_).trans (h.1.block b hb hne)⟩,λb hb=>?_⟩;rcases h.2 b e.symm with q|q;exact hne q.symm;omega;rcases k.2 b hb with q|q;exact h.2 b q;exact .inr (Bf h.1.size q)
def GR.of(v:Value)(h:Bw w w'):GR w w' v v:=⟨Sj h,λb h=>.inl h⟩
theorem GR.app(a:(w.alloc o).grownBy w' v.ownBlock)(c:v.ownBlock=some g\/g=w.heap.size+1):GR w w' v (Kx g 0 k cap):=by
 refine⟨⟨a.os,a.tape,a.output,Bf (by simp) a.size,λb hb hne=>(a.block b (by simp;omega) hne).trans (heap_alloc_old w _ hb)⟩,λb hb=>?_⟩;grind[Value.ownBlock]
def Ps(n:Nat)(wB:Wd)(ca:Ae)(cc:Nat)(L:LI)(w:Wd):Prop:=Wv n L/\(Al RT.int wB ca L\/w.ownsRow wB.heap.size 3 1 (.slice ca L.length cc) L.length (L.map (Value.int .i64)))
def Wp(lo n:Nat)(dv:Value)(d:Ai)(w:Wd):Prop:=(∀x∈d,0<=x.1/\x.1<(n:Int))/\((d= []/\dv=.slice none 0 0)\/(d≠ []/\Hj lo dv d w))
theorem Ps.at{b:Wd}{c:Ae}{d:Nat}(h:Ps n b c d L w)(f:Bw b w)(k:n<=2^47):Al RT.int w c L:=by
 rcases h.2 with q|q;exact q.below f;have⟨a,l,e,u,v,m⟩:=Sw q;simp only[Value.slice.injEq]at e;obtain⟨o,-,p⟩:=e;subst o p;rcases m with r|⟨g,rfl,x,s,t⟩;exact .inl (List.eq_nil_of_length_eq_zero r);refine .inr ⟨g,0,rfl,s,λi hi=>⟨[Bn L[i]],λj hj=>?_,rfl,cE (h.1.2 _ (gM hi)) k⟩⟩;grind[RT.int]
structure Rm(t:At)(c:Ad)(za:Ae)(zc:Nat)(aa:Ae)(ac:Nat)(fa:Ae)(fc:Nat)(p:Bd)(wB W:Wd)(tb cb:Nat)(v0 dv:Value)(d:Ai)(ca:Ae)(cc:Nat)(L:LI)(lv:Value)(w:Wd):Prop where
 bel:Below wB.heap.size wB w
 qt:w.heap[tb]?=some (Ap t za zc aa ac fa fc)
 qc:w.heap[cb]?=some (Aj c p)
 can:Ps t.fs.length wB ca cc L w
 dut:Wp wB.heap.size t.fs.length dv d w
 gr:GR W w v0 lv
section
variable {t:At} {c:Ad} {za:Ae} {zc:Nat} {aa:Ae} {ac:Nat} {fa:Ae} {fc:Nat} {p:Bd} {wB W:Wd} {tb cb:Nat} {v0 dv:Value} {d:Ai} {ca:Ae} {cc:Nat} {L:LI} {lv lv':Value} {w w':Wd} {k:Nat} (S:Rm t c za zc aa ac fa fc p wB W tb cb v0 dv d ca cc L lv w)
include S
theorem Rm.ext(l:Kd t c wB.heap.size lv k w)(h:GR w w' lv lv'):Rm t c za zc aa ac fa fc p wB W tb cb v0 dv d ca cc L lv' w':=by
 obtain⟨r,s,i,u⟩:=l;have K:∀b o,w.heap[b]?=some o->(∀a f,o≠Obj.cells a 92 f)->w'.heap[b]?=some o:=λb o q hne=>(h.1.block b (Ag q) λe=>by
  rcases i.2 with⟨j,_⟩|⟨g,m,a,j,_,n,_⟩
  all_goals grind[Value.ownBlock]).trans q
 refine⟨S.bel.grown h.1 S.bel.size λb hb=>(i.lt b hb).1,K _ _ S.qt λa f e=>?_,K _ _ S.qc λa f e=>?_,⟨S.can.1,S.can.2.imp_right λq=>q.kept h.1 (zx5 q i (by decide))⟩,⟨S.dut.1,S.dut.2.imp_right λq=>⟨q.1,World.ownsRow.kept q.2 h.1 (zx5 q.2 i (by decide))⟩⟩,S.gr.trans h⟩;all_goals simp_all
def Rm.call(a:Kd t c wB.heap.size lv k w)(b:Bw w w'):Rm t c za zc aa ac fa fc p wB W tb cb v0 dv d ca cc L lv w':=S.ext a (GR.of lv b)
end
def Mw:Nat->Nat
 |0=>0
 |k+1=>24*(1+Mw k)
def pr(j g:Nat):Nat:=j*g
def ZQ(g:Nat):pr 0 g=0:=Nat.zero_mul g
def DT(j g:Nat):pr (j+1) g=pr j g+g:=Nat.succ_mul j g
def sE(g:Nat)(h:i<=n):pr i g<=pr n g:=Nat.mul_le_mul_right g h
def Xh:EI 39 92 (.agg #[Ls,Bn 0,Bn 0,B_ ByteArray.empty,B_ ByteArray.empty,Bn 0,Bn 0]) 7 88:=⟨underlying39,by kernel_rfl,by rfl,by decide⟩
theorem DR{d:Ai}(h:i<d.length):Cm d i∈d:=by
 grind[Cm]
theorem ZB{A:Type}{P:A->Prop}{L:List A}{x:A}(h:∀s∈L,P s)(b:P x):∀s∈L++ [x],P s:=λs a=>by
 grind
def Hj.keepL{d:Ai}(h:Hj lo v d w)(a:w.ownsRow lo' 92 7 u k xs)(b:(w.alloc o).grownBy w' u.ownBlock):Hj lo v d w':=
 World.ownsRow.kept (h.call (J _ o)) b (zx5 (h.call (J _ o)) (a.alloc o) (by decide))
def lT(t:At)(c:Ad)(lo:Nat)(v:Value)(n k:Nat)(w:Wd)(e:Ending)(w':Wd):Prop:=∃(v':Value) (m:Nat),e=.returned v'/\m<=n+Mw k/\Kd t c lo v' m w'/\GR w w' v v'
def Tv(t:At)(c:Ad)(za:Ae)(zc:Nat)(aa:Ae)(ac:Nat)(fa:Ae)(fc:Nat)(p:Bd)(wB:Wd)(mv nv:Value)(mn k:Nat):Prop:=∀(d:Ai) (dv:Value) (hd:Nat) (v:Value) (n:Nat) (w:Wd),d.length+k=6->(mn=t.fs.length\/(mn=0/\d= []))->hd<=6->n+Mw k<=1000000000->Below wB.heap.size wB w->Wp wB.heap.size t.fs.length dv d w->Kd t c wB.heap.size v n w->
 Calls prog 65 #[.agg #[.slice za t.zn.length zc,.slice aa t.ai.length ac,.slice fa t.fs.length fc],.agg #[c.rp,c.rl,c.cn,c.sit,c.lv,c.nf,c.nt,.slice p.ca c.cs.length p.cc,.slice p.ra c.rs.length p.rc,.slice p.ka c.ks.length p.kc,.slice p.xa c.xs.length p.xc,.slice p.la c.ls.length p.lc,.slice p.oa c.oz.length p.oc,c.gu],v,dv,mv,nv,hd] w (lT t c wB.heap.size v n k w)
def YG(t:At)(c:Ad)(F:Ae)(C:Nat)(H:Ae)(ac:Nat)(fa:Ae)(fc:Nat)(p:Bd)(l:Wd)(g5:t.zn.length<=C/\C<=2^47/\t.ai.length<=ac/\ac<=2^47)(m4:c.cs.length<=p.cc/\p.cc<=9223372036854775807)(g6:Ea l t c F H fa p)(hN:t.fs.length<=12)(mv nv:Value)(M k:Nat)(hM:aC M mv l)(hJ:Tw t.fs.length nv l) 
 (IH:Af (Tv t c F C H ac fa fc p l mv nv M k)):Tv t c F C H ac fa fc p l mv nv M (k+1):=by
 intro d dv hd v0 n w m5 g7 r8 g8 h0 c7 c8;have m6:=I g6;have HM:=I hM;have HJ:=I hJ;obtain⟨ma,mc,rfl,-⟩:=hM;obtain⟨na,nc,rfl,-⟩:=hJ;have R:=I c7;have h7:=I c8;have m7:=I h0;have c9:=I g7;obtain⟨S,N,m8⟩:∃S N,dv=CU S d.length N:=by
  rcases c7.2 with⟨rfl,rfl⟩|⟨_,q⟩;exact⟨none,0,rfl⟩;exact Js q
 obtain⟨va,vc,m9⟩:∃va vc,v0=CU va n vc:=by
  obtain⟨LL,h1,h2,P⟩:=c8;exact Js h2
 subst m8 m9;have h8:¬ (d.length:Int)=6:=by omega
 have q7:=RZ h8
 have T:=I m5;clear g6 c7 c8 h0 g7 h8;go_enter func65,ntmps65;go_upto_region 1 with fail
 have⟨D,d0,d1⟩:=Uy w t c F C H ac fa fc p;have HB:=I D;have⟨tb,d2⟩:=aT w.heap.size;have⟨cb,y⟩:=aT (w.heap.size+1);rw[<-y]at d1;rw[<-d2]at d0;simp only[<-y];simp only[<-d2];have QT:=I d0;have QC:=I d1;clear y d2 D d0 d1;generalize (w.alloc (Ap t F C H ac fa fc)).alloc (Aj c p)=W at*;go_upto_if 28 with(fail);have c4:=I (h7.1.call HB.1);have a8:=fE m7 HB.1;have z:Af (Wp l.heap.size t.fs.length (CU S d.length N) d W):=I ⟨R.1.1,R.1.2.imp_right λq=>⟨q.1,q.2.call HB.1⟩⟩;go_cut [15] (λcv wx=>∃(L:LI) (ca:Ae) (Q:Nat),cv=CU ca L.length Q/\Af (Ps t.fs.length l ca Q L wx)/\Af (0<L.length->M=t.fs.length)/\Af (Bw W wx))
 case first=>
  by_cases E:0<d.length
  . have h9:(0:Int)<d.length:=by omega
    have d3:d≠ []:=List.length_pos_iff.1 E;obtain⟨U,n0⟩:∃U,d.length=U+1:=⟨d.length-1,by omega⟩;have q:=(z.1.2.resolve_left λh=>d3 h.1).2;have⟨_,_,ed,_,a9⟩:=q.at λx hx=>cE (z.1.1 x hx) (by omega);simp only[Value.slice.injEq]at ed;obtain⟨n1,-,n2⟩:=ed;subst n1 n2;obtain⟨db,r,rfl,n3,tc⟩:=Ok a9 E;obtain⟨f,hf⟩:∃f:Nat,(Cm d U).1=f:=⟨(Cm d U).1.toNat,by have:=z.1.1 (Cm d U) (DR (by omega));omega⟩;have i4:f<t.fs.length:=by have:=z.1.1 (Cm d U) (DR (by omega));omega
    have c0:W.cell? (aD db (r+U*2))=some (Bn (f:Nat)):=by rw[<-hf];exact(tc U (by omega)).1
    have⟨_,_,ej,hj⟩:=HJ.1.below a8.1;simp only[Value.slice.injEq]at ej;obtain⟨b0,-,d4⟩:=ej;subst b0 d4;obtain⟨gn,rfl,r9,n4⟩:=hj.resolve_left (by omega);have⟨_,_,ej,i5⟩:=HJ.1;simp only[Value.slice.injEq]at ej;obtain⟨b0,-,d4⟩:=ej;subst d4;have⟨n5,eg,n6,c5⟩:=i5.resolve_left (by omega);obtain rfl:gn=n5:=by rw[<-b0]at eg;simpa using eg
    have⟨ra,L,rc,c3,hR,hS⟩:=c5 f i4;have c1:W.cell? (aD gn f)=some (CU ra L.length rc):=(a8.1.cell (p:=aD gn f) n6).trans c3;have el:IntKind.i64.wrap ((d.length:Int)-1)=(U:Int):=by rw[wI];omega
    have i1:(U:Int)<d.length:=by omega
    have i2:(f:Int)<t.fs.length:=by omega
    have i3:U<d.length:=by omega
    have HS:Af (Ps t.fs.length l ra rc L W):=I ⟨hR,.inl hS⟩;have n7:=I d3;clear hj n4 i5 c5 tc a9 q hR hS hf n0 d3 b0 eg;go_wp2;go_meet;exact⟨L,ra,rc,rfl,HS,I λ_=>by rcases c9.1 with h|⟨_,h⟩;exact h;exact aB h n7.1,I (An _ _)⟩
  have h9:¬ (0:Int)<d.length:=by omega
  have i6:M<=t.fs.length:=by rcases c9.1 with h|⟨h,_⟩ <;> omega
  go_wp2_with fail;go_loopw [15,16] (λcv iv wr=>∃i:Nat,i<=M/\iv=Bn i/\Af (Km W.heap.size t.fs.length i cv wr)/\Af (Bw W wr)) (λ_ iv _=>M-(intOf iv).toNat);exact⟨0,Bg _,rfl,I ⟨[],Bv _,(λx hx=>by cases hx),World.ownsRow_nil ..⟩,I (An _ _)⟩;obtain⟨i,hi,rfl,hO,D⟩:=hrel;by_cases n8:i<M
  . have q8:(i:Int)<M:=by omega
    have⟨L,h1,h2,P⟩:=hO.1;clear hO;go_wp2_with (at_builtin;refine fI cF D.1 P [Bn (i:Nat)] rfl rfl rfl rfl rfl (by simp[Value.oneCell']) (by omega) ?_;intro b1 c1 w2 i7 i8 _;have O3:=I (Km.app h1 h2 (As n8 i6) i7);have B3:=I i8;clear i7 i8);go_roundw;exact⟨i+1,by omega,by go_num,O3,B3⟩;simp[intOf];omega
  obtain rfl:i=M:=by omega
  have⟨L,h1,h2,P⟩:=hO.1;obtain⟨ca,Q,rfl⟩:=Js P;have HS:Af (Ps t.fs.length l ca Q L _):=I ⟨⟨by omega,h2⟩,.inr ⟨P.1,P.2.imp_right λ⟨g,i9,cur,h4,h5,h6⟩=>⟨g,i9,cur,h4,by have:=a8.1.size;omega,h6⟩⟩⟩;have n9:Af (0<L.length->i=t.fs.length):=I (λh=>by rcases c9.1 with q|⟨q,_⟩;exact q;omega);clear P hO;go_wp2;go_meet;exact⟨L,ca,Q,rfl,HS,n9,D⟩
 obtain⟨L,ca,Q,rfl,V,c6,D⟩:=hcut;have S0:Af (Rm t c F C H ac fa fc p l W tb cb (CU va n vc) (CU S d.length N) d ca Q L (CU va n vc) wc):=I ⟨Ab a8.1 D.1,Ac D.1 QT.1,Ac D.1 QC.1,V.1,⟨z.1.1,z.1.2.imp_right λq=>⟨q.1,q.2.call D.1⟩⟩,GR.of _ D.1⟩;have L0:=I (c4.1.call D.1);have⟨G,hG⟩:=aT (1+Mw k);have d5:=I (show Mw (k+1)=pr 24 G by rw[hG];rfl);have q9:L.length<=12:=by have:=V.1.1.1;omega
 have s0:=I (ZQ G);have HG:=I hG;have j0:=I g8;have o0:Af (∀x∈d,(Lit.int .i64 x.1).wf=true):=I (λx hx=>cE (z.1.1 x hx) (by omega));have⟨i0,j1,j2,j3,j4⟩:=info_parts fF.info;clear hG g8 V D h7 c4 R;go_wp2_with fail;go_loopw [2,17] (λlv iv wr=>∃(i N1:Nat),i<=L.length/\iv=Bn i/\Af (N1<=n+pr (2*i) G)/\Af (Kd t c l.heap.size lv N1 wr)/\Af (Rm t c F C H ac fa fc p l W tb cb (CU va n vc) (CU S d.length N) d ca Q L lv wr)) (λ_ iv _=>L.length-(intOf iv).toNat);exact⟨0,n,Bg _,rfl,I (Nat.le_add_right _ _),L0,S0⟩;obtain⟨i,N1,hi,rfl,d6,b2,d7⟩:=hrel;clear S0 L0;by_cases d8:i<L.length;rotate_left
 . have j5:¬ (i:Int)<L.length:=by omega
   have⟨LL,_,l2,_⟩:=b2.1;obtain⟨_,_,rfl⟩:=Js l2;clear l2;go_wp2;go_ret;exact⟨_,N1,rfl,by have:=d6.1;have:=sE G (show 2*i<=24 by omega);rw[d5.1];omega,b2.1,(GR.of _ HB.1).trans d7.1.gr⟩
 have j5:(i:Int)<L.length:=by omega
 go_wp2_with fail;go_loopw [2,18] (λlv hv wr=>∃(h B:Nat),h<=2/\hv=Bn h/\Af (B<=n+pr (2*i+h) G)/\Af (Kd t c l.heap.size lv B wr)/\Af (Rm t c F C H ac fa fc p l W tb cb (CU va n vc) (CU S d.length N) d ca Q L lv wr)) (λ_ hv _=>2-(intOf hv).toNat);exact⟨0,N1,Bg _,rfl,d6,b2,d7⟩;obtain⟨h,B,s3,rfl,b3,X,a⟩:=hrel;obtain⟨wk,b4⟩:∃v:Wd,v=wr:=⟨_,rfl⟩;subst b4;clear d6 b2 d7;by_cases hh:h<2;rotate_left
 . have o1:¬ (h:Int)<2:=by omega
   have HN:=I (show B<=n+pr (2*(i+1)) G by have:=b3.1;rwa [show 2*i+h=2*(i+1) by omega]at this);go_wp2;go_roundw;exact⟨i+1,B,by omega,by go_num,HN,X,a⟩;simp[intOf];omega
 have o1:(h:Int)<2:=by omega
 obtain⟨ib,r,rfl,d9,j6⟩:=(a.1.can.at a.1.bel (by omega)).at (by omega);obtain⟨cs,k1,rfl,-⟩:=j6 i d8;obtain⟨f,hf⟩:∃f:Nat,L[i]=f:=⟨L[i].toNat,by have:=a.1.can.1.2 _ (gM d8);omega⟩;have i4:f<t.fs.length:=by have:=a.1.can.1.2 _ (gM d8);omega
 have c0:wk.cell? (aD ib (r+i))=some (Bn (f:Nat)):=by
  have:=k1 0 (by simp);rw[<-hf];simpa[RT.int] using this
 have j7:=c6.1 (by omega);have i1:(f:Int)<M:=by omega
 have i2:f<M:=by omega
 have⟨_,_,em,hm⟩:=HM.1.below a.1.bel;simp only[Value.slice.injEq]at em;obtain⟨j8,-,o2⟩:=em;subst o2;have⟨gm,eg,o3,j9⟩:=hm.resolve_left (by omega);have⟨bm,cm⟩:=j9 f (by omega);rw[eg]at j8;subst j8;clear j6 k1 j9 hm hf eg j7;go_upto_region 16 with fail;go_cut [75] (λcv wx=>∃b:Bool,cv=.bool b/\(b=false->h<=hd)/\wx=wk)
 case first=>
  rcases(show h=0\/h=1 by omega) with rfl|rfl
  . cases bm
    . go_wp2;go_meet;exact⟨true,rfl,(λh=>by cases h),rfl⟩
    go_wp2;go_meet;exact⟨_,rfl,(λ_=>Bg _),rfl⟩
  by_cases s4:hd<1
  . have k0:(hd:Int)<1:=by omega
    go_wp2;go_meet;exact⟨true,by simp;try omega,(λh=>by cases h),rfl⟩
  have k0:¬ (hd:Int)<1:=by omega
  go_wp2;go_meet;exact⟨false,by simp;try omega,(λ_=>by omega),rfl⟩
 obtain⟨b,rfl,s,rfl⟩:=hcut;clear cm o3;cases b;rotate_left
 . have HN:=I (show B<=n+pr (2*i+(h+1)) G by have:=b3.1;have:=DT (2*i+h) G;rw[show 2*i+(h+1)=2*i+h+1 by omega];omega);go_wp2;go_roundw;exact⟨h+1,B,by omega,by go_num,HN,X,a⟩;simp[intOf];omega
 have r7:=s rfl;clear s;have k2:Af ((d.length=0/\S=none/\N=0)\/(d≠ []/\Hj l.heap.size (CU S d.length N) d wc)):=I (a.1.dut.2.imp (λq=>by have q2:=q.2;rw[q.1]at q2;simp only[Value.slice.injEq]at q2;exact⟨by rw[q.1];rfl,q2.1,q2.2.2⟩) id);obtain⟨wk,b4⟩:∃v:Wd,v=wc:=⟨_,rfl⟩;subst b4;go_wp2_with fail;refine' lK [⟨76, [],.kn _⟩,⟨77, [76],.ow (λv w'=>Hj wk.heap.size v d w') (λ_ _ _=>Hj.call)⟩,⟨78, [],.kn _⟩,⟨79, [],.kn _⟩,⟨80, [78,79],.kn _⟩,⟨81, [80],.kn _⟩,⟨82, [],.kn _⟩,⟨83, [82],.pu (λv=>∃b:Bool,v=.bool b)⟩,⟨84, [81,83],.pu (λv=>∃b:Bool,v=.agg #[Bn (f:Nat),.bool b])⟩,⟨85, [84],.ow (λv w'=>∃(g:Nat) (b:Bool),v=Kx g 0 1 1/\wk.heap.size<=g/\w'.heap[g]?=some (oT (f:Nat) b)) (λ_ _ _ ⟨g,b,h1,h2,P⟩ s=>⟨g,b,h1,h2,Ac s P⟩)⟩] [3,15,17,18] [77,85] (λ_ h=>aI (zD c0 d9 h) (As d9 h.size)) ?h2 ?c2 ?f2
 case h2=>
  intro u;simp only[Df,Jm,↓reduceIte,Nat.reduceEqDiff];intros;and_intros
  all_goals try (first|trivial|(intros;refine Fy (by assumption) ?_;go_simp <;> rfl))
  intro A w1 e s g f0 K k;clear g;rcases k2.1 with⟨E,o4,o5⟩|⟨E,o6⟩;obtain rfl:=List.length_eq_zero_iff.1 E;subst o4 o5;go_simp;exact k.1 _ _ ⟨An _ _,World.ownsRow_nil ..⟩;have⟨s5,s6,ed,o7,a9⟩:=o6.at o0.1;simp only[Value.slice.injEq]at ed;obtain⟨e1,-,e2⟩:=ed;subst e1 e2;have k3:=List.length_pos_iff.2 E;obtain⟨db,r,rfl,n3,tc⟩:=Ok (a9.below s) k3;have s7:=T.1;refine wp_append_lies _ _ _ 59 rfl wk.heap.size 104 i0 (.agg #[Bn 0,.bool false]) 2 16 fF.ht j1 j2 j3 j4 rfl (by decide) Ls 0 [] rfl (World.ownsRow_nil ..) (aD db r) d.length N (d.map Mz).flatten ((e.1 _).trans f0) (sD d) (EC tc) EG k3 (by unfold maxLen;omega) (by omega) s.size w1.heap.size rfl ?_;intro g1 i9 w2 h1 h2 P h4;exact k.1 _ _ ⟨rW h2 rfl,by simpa[Hj] using h1⟩;intro A w1 e s g f0 K k;go_simp;exact k.1 _ _ ⟨An _ _,_,rfl⟩;rintro A w1 e s g f1 ⟨b,f2⟩ K k;go_simp;exact k.1 _ _ ⟨An _ _,b,rfl⟩;rintro A w1 e s g ⟨b,f1⟩ K k;go_simp;exact k.1 _ _ ⟨J _ _,w1.heap.size,b,rfl,s.size,zh _ _⟩
 case c2=>kernel_rfl
 intro u w9 s;simp only[Df,Hu,Jm,Act.put,O,↓reduceIte,Nat.reduceEqDiff];rintro ow ⟨g9,bh,k4,o8,k5⟩;refine wp_append_lies _ (.tmp 77) (.tmp 85) 59 rfl wk.heap.size 104 i0 (.agg #[Bn 0,.bool false]) 2 16 fF.ht j1 j2 j3 j4 rfl (by decide) (u 77) d.length (d.map Mz).flatten rfl ow (aD g9 0) 1 1 [Bn (f:Nat),.bool bh] k4 rfl (World.news_of_block k5) (by intro u hu;simp at hu;rcases hu with rfl|rfl <;> rfl) (by decide) (by have:=T.1;unfold maxLen;omega) (by have:=T.1;omega) s.size w9.heap.size rfl ?_;intro b5 o k6 h1 h2 P h4;have f3:=I (s.grown h2 s.size λj hj=>(World.ownsRow.lt ow j hj).1);have Y:(d++ [((f:Int),bh)]).length=d.length+1:=by simp
 have f4:=I (show Hj wk.heap.size (Kx b5 0 (d.length+1) o) (d++ [((f:Int),bh)]) k6 by unfold Hj;rw[Y];simpa[Mz] using h1);have k7:Af (∀x∈d++ [((f:Int),bh)],0<=x.1/\x.1<(t.fs.length:Int)):=I (ZB a.1.dut.1 ⟨by omega,by omega⟩);have Z:=I (a.1.call X.1 f3.1);have f5:=I (X.1.call f3.1);have b4:=f3.1.size;have s8:=a.1.bel.size;obtain⟨xa,xc,ex,-,k8⟩:=f4.1.at λx hx=>cE (k7.1 x hx) (by omega);rw[Y]at ex;simp only[Value.slice.injEq]at ex;obtain⟨k9,-,l0⟩:=ex;have DC:=I (zAg t c F C H ac fa fc p k6 g5 m4 (m6.1.below Z.1.bel) (d++ [((f:Int),bh)]) xa xc (by rw[Y];have:=T.1;omega) k8);rw[Y,<-k9,<-l0]at DC;have⟨q0,q1,q2,ql⟩:=Ev Z.1.qt;have⟨y0,y1,y2,y3,y4,y5,y6,y7,y8,y9,f6,f7,f8,f9,yl⟩:=Ek Z.1.qc;clear ow k4 o8 k5 h1 h2 P h4 s k8 k9 l0 a X c0 d9 k2;go_simp;go_wp2_with fail;refine DC.1.mono ?_;rintro e a0 ⟨sa,sn,sc,x1,x2,s1,s2,x5,x6,er,rfl,-,l4,l5⟩;go_upto_if 95 with(fail);have b6:=Ab l5 (J a0 (Obj.cells #[CU sa sn sc,x1,x2,B_ s1,B_ s2,x5,x6] 92));have m:=I (zh a0 (Obj.cells #[CU sa sn sc,x1,x2,B_ s1,B_ s2,x5,x6] 92));have b7:=I (Z.1.call f5.1 b6);have b8:=I (f5.1.call b6);have g0:=I (show Hj l.heap.size _ _ _ from(f4.1.call b6).base (by omega));have b9:=I (show er=0->Iy t c l.heap.size (a0.alloc (Obj.cells #[CU sa sn sc,x1,x2,B_ s1,B_ s2,x5,x6] 92)) [CU sa sn sc,Bn x1,Bn x2,B_ s1,B_ s2,Bn x5,Bn x6] from λe=>by
  have⟨q1,q2,q3⟩:=l4 e;subst q2;exact⟨sa,_,sc,x1,x2,s1,s2,x5,x6,rfl,q1,(q3.call (J _ _)).base (by omega)⟩)
 clear l5 b6 l4 DC Z f5 f4 q0 q1 q2 ql y0 y1 y2 y3 y4 y5 y6 y7 y8 y9 f6 f7 f8 f9 yl;have⟨lb,g2⟩:=aT a0.heap.size;rw[<-g2]at m;simp only[<-g2];clear g2;generalize a0.alloc (Obj.cells #[CU sa sn sc,x1,x2,B_ s1,B_ s2,x5,x6] 92)=s9 at*;go_cut [2] (λlv wx=>∃N3:Nat,Af (N3<=B+1)/\Af (Kd t c l.heap.size lv N3 wx)/\Af (Rm t c F C H ac fa fc p l W tb cb (CU va n vc) (CU S d.length N) d (some (aD ib r)) Q L lv wx)/\Af (Hj l.heap.size (Kx b5 0 (d.length+1) o) (d++ [((f:Int),bh)]) wx))
 case first=>
  by_cases e0:er=0
  . have o9:(er==0)=true:=by simp[e0]
    have p0:=I (b9.1 e0);have⟨LL,l1,l2,l3⟩:=b8.1;have p1:=I l3;have r0:=D_ m.1;have rl:=Ag m.1;have l6:=b7.1.bel.size;have t0:B<=1000000000:=by have:=b3.1;have:=sE G (show 2*i+h<=24 by omega);have:=j0.1;rw[d5.1]at this;omega
    clear l3 e0 b9;go_wp2_with (at_builtin;refine Zw Xh l6 l2 [CU sa sn sc,Bn x1,Bn x2,B_ s1,B_ s2,Bn x5,Bn x6] rfl rfl rfl rfl rfl (by simp[Value.oneCell']) (by omega) ?_;intro l7 l8 g3 hO hG hA;have p2:Af (Kd t c l.heap.size (Kx l7 0 (B+1) l8) (B+1) g3):=I (Kd.app l1 l2 p1.1 p0.1 hO hG);have p3:Af (Rm t c F C H ac fa fc p l W tb cb (CU va n vc) (CU S d.length N) d (some (aD ib r)) Q L (Kx l7 0 (B+1) l8) g3):=I (b7.1.ext b8.1 (GR.app hG hA));have p4:Af (Hj l.heap.size (Kx b5 0 (d.length+1) o) (d++ [((f:Int),bh)]) g3):=I (g0.1.keepL l2 hG);clear hO hG hA);go_meet;exact⟨B+1,I (Bv _),p2,p3,p4⟩
  have o9:=RZ e0
  clear b9 e0;go_wp2;go_meet;exact⟨B,I (Nat.le_succ _),b8,b7,g0⟩
 clear b8 b7 g0 m b9;obtain⟨N3,p5,g4,a7,l9⟩:=hcut;have⟨q0,q1,q2,ql⟩:=Ev a7.1.qt;have⟨y0,y1,y2,y3,y4,y5,y6,y7,y8,y9,f6,f7,f8,f9,yl⟩:=Ek a7.1.qc;have⟨m0,m1⟩:=C_ (hd-h);have eh:IntKind.i64.wrap ((hd:Int)-(h:Int))=(m0:Int):=by rw[wI];omega
 have y:N3+Mw k<=1000000000/\N3+Mw k<=n+pr (2*i+(h+1)) G:=by
  have a1:=b3.1;have a2:=p5.1;have a3:=HG.1;have a4:=DT (2*i+h) G;have a5:=sE G (show 2*i+h+1<=24 by omega);have a6:=j0.1;rw[d5.1]at a6;rw[show 2*i+(h+1)=2*i+h+1 by omega];omega
 have p6:=I y;have IC:=I (IH.1 (d++ [((f:Int),bh)]) (Kx b5 0 (d.length+1) o) m0 u2 N3 wc (by rw[Y];have:=T.1;omega) (.inl (c6.1 (by omega))) (by omega) y.1 a7.1.bel ⟨k7.1,.inr ⟨by simp,l9.1⟩⟩ g4.1);clear m1 y;go_wp2_with fail;refine IC.1.mono ?_;rintro e p7 ⟨p8,N4,rfl,p9,m2,m3⟩;have q4:Af (Rm t c F C H ac fa fc p l W tb cb (CU va n vc) (CU S d.length N) d (some (aD ib r)) Q L p8 p7):=I (a7.1.ext g4.1 m3);have q5:=I m2;have q6:=I (show N4<=n+pr (2*i+(h+1)) G by have:=p6.1.2;omega);clear m2 m3 g4 a7 l9 IC q0 q1 q2 ql y0 y1 y2 y3 y4 y5 y6 y7 y8 y9 f6 f7 f8 f9 yl eh p9;go_wp2;go_roundw;exact⟨h+1,N4,by omega,by go_num,q6,q5,q4⟩;simp[intOf];omega
def YF(t:At)(c:Ad)(e:Ae)(f:Nat)(g:Ae)(ac:Nat)(fa:Ae)(fc:Nat)(p:Bd)(A:Wd)(B C:Value)(D:Nat):Tv t c e f g ac fa fc p A B C D 0:=by
 intro d E K F n w h i G j k b a;have l:=I a;obtain⟨r,s,m⟩:∃r s,E=CU r d.length s:=by
  rcases b.2 with⟨rfl,rfl⟩|⟨_,q⟩;exact⟨none,0,rfl⟩;exact Js q
 obtain⟨u,v,o⟩:∃u v,F=CU u n v:=by
  obtain⟨L,M,H,N⟩:=a;exact Js H
 subst m o;have x:((d.length:Int)==6)=true:=by simp;omega
 go_enter func65,ntmps65;go_upto_region 1 with fail
 obtain⟨y,-,-⟩:=Uy w t c e f g ac fa fc p;have z:=I y;generalize (w.alloc (Ap t e f g ac fa fc)).alloc (Aj c p)=W at*;go_wp2;go_ret;exact⟨_,n,rfl,Bv _,l.1.call z.1,GR.of _ z.1⟩
def DY(t:At)(c:Ad)(e:Ae)(d:Nat)(f:Ae)(ac:Nat)(fa:Ae)(fc:Nat)(p:Bd)(b:Wd)(a:t.zn.length<=d/\d<=2^47/\t.ai.length<=ac/\ac<=2^47)(g:c.cs.length<=p.cc/\p.cc<=9223372036854775807)(h:Ea b t c e f fa p)(m:t.fs.length<=12)(i j:Value)(l:Nat)(n:aC l i b)(o:Tw t.fs.length j b):∀k,Tv t c e d f ac fa fc p b i j l k
 |0=>YF t c e d f ac fa fc p b i j l
 |k+1=>YG t c e d f ac fa fc p b a g h m i j l k n o (I (DY t c e d f ac fa fc p b a g h m i j l n o k))
def lS(t:At)(c:Ad)(w:Wd)(e:Ending)(w':Wd):Prop:=∃(v:Value) (n lo:Nat) (er:Int),e=.returned (.tuple #[v,er])/\n<=2000/\Kd t c lo v n w'/\(0<n->zY t=0/\Ax c=0)/\Below w.heap.size w w'
def cN:Mw 6<=1000000000:=by decide
def YT(t:At)(c:Ad)(i:Ae)(b:Nat)(j:Ae)(ac:Nat)(fa:Ae)(fc:Nat)(p:Bd)(w:Wd)(d:t.zn.length<=b/\b<=2^47/\t.ai.length<=ac/\ac<=2^47)(y:c.cs.length<=p.cc/\p.cc<=9223372036854775807)(z:Ea w t c i j fa p)(hN:t.fs.length<=12)(L:LI)(U:Ae)(lc:Nat)(hL:Al RT.int w U L)(hl:L.length<=2^47)(hd:Nat)(B:hd<=6):
 Calls prog 27 #[Az t i b j ac fa fc,Ay c p,CU U L.length lc,hd] w (lS t c w):=by
 try delta Ay Az
 have l:=I z;have HL:=I hL;clear z hL;go_in;go_wp2_with fail;have⟨hB,m,n⟩:=Uy w t c i b j ac fa fc p;have V:=I hB;have⟨tb,o⟩:=aT w.heap.size;have⟨cb,q⟩:=aT (w.heap.size+1);rw[<-q]at n;rw[<-o]at m;simp only[<-q];simp only[<-o];have QT:=I m;have QC:=I n;clear q o hB m n;generalize (w.alloc (Ap t i b j ac fa fc)).alloc (Aj c p)=W at*;refine(ZD t c i b j ac fa fc p W d y (l.1.below V.1) L U lc (HL.1.below V.1) hl hd B).mono ?_;rintro e w1 ⟨kk,er,rfl,C,X⟩;have a:=fE V X;have r:=fO QT X;have D:=fO QC X;clear X V QT QC;cases e0:(er !=0);rotate_left
 . go_wp2;go_ret2;exact⟨_,0,0,_,rfl,Bg _,Kd.nil ..,(λh=>by omega),a.1⟩
 obtain rfl:er=0:=by simpa using e0
 have⟨hT,hC⟩:=C rfl;have E:=I hT;have a0:=I hC;clear C hT hC e0;by_cases hk:(20000:Int)<kk
 . go_wp2;go_ret2;exact⟨_,0,0,_,rfl,Bg _,Kd.nil ..,(λh=>by omega),a.1⟩
 have⟨x0,x1,x2,xl⟩:=Ev r.1;go_wp2_with fail;refine(DI _ _ fa t.fs.length fc L U lc _ (HL.1.below a.1) hl (by omega)).mono ?_;rintro e w2 ⟨mv,a5,Y,rfl,F,-,hM,Z⟩;have G:=fE a Z;have a1:=fO r Z;have a2:=fO D Z;have HM:=I hM;have a3:Af (Y=t.fs.length\/(Y=0/\([]:Ai)= [])):=I (F.imp_right λh=>⟨h,rfl⟩);obtain⟨ma,mc,rfl,-⟩:=hM;clear x0 x1 x2 xl Z a r D F HL hk;go_wp2_with fail;refine' lK [⟨34, [],.kn _⟩,⟨35, [],.kn _⟩,⟨36, [],.kn _⟩,⟨37, [],.kn _⟩,⟨38, [],.kn _⟩,⟨39, [37,38],.ow (Tw t.fs.length) (λ_ _ _=>Tw.below)⟩,⟨40, [],.kn _⟩] [3,4,5,12] [34,35,36,39,40] (λ_ h=>aI (Ev (Ac h a1.1)) (Ek (Ac h a2.1))) ?h2 ?c2 ?f2
 case h2=>
  intro u;simp only[Df,Jm,↓reduceIte,Nat.reduceEqDiff];intros;and_intros
  all_goals try (first|trivial|(intros;refine Fy (by assumption) ?_;go_simp <;> rfl))
  intro A w1 e H g f0 f1 K k;go_simp;refine(DJ t c i b j ac fa fc p w1 E.1 (l.1.below (Ab G.1 H)).f).mono ?_;rintro e' w2 ⟨v,rfl,F,h2⟩;exact k.1 _ _ ⟨h2,F⟩
 case c2=>kernel_rfl
 intro u w3 H;simp only[Df,Hu,Jm,Act.put,O,↓reduceIte,Nat.reduceEqDiff];intro M N P hj Q;rw[M,N,P,Q];have R:=fE G H;have HE:=I (DY t c i b j ac fa fc p w3 d y (l.1.below R.1) hN (CU ma Y mc) (u 39) Y (HM.1.below H) hj 6 [] Ls hd Ls 0 w3 rfl (a3.1.imp_right λh=>⟨h.1,rfl⟩) B (by rw[Nat.zero_add];exact cN) (An _ _) ⟨(λx hx=>by cases hx),.inl ⟨rfl,rfl⟩⟩ (Kd.nil ..));obtain⟨na,nc,hu,-⟩:=hj;rw[hu]at HE ⊢;clear M N P Q H hu;go_simp;refine HE.1.mono ?_;rintro e w4 ⟨v4,m4,rfl,-,s,S⟩;have a4:=I s;have T:=fE R (rW S.1 rfl);obtain⟨va,vc,rfl⟩:∃va vc,v4=CU va m4 vc:=by
  obtain⟨LL,F,h2,h3⟩:=s;exact Js h2
 clear s S HE;by_cases hm:(2000:Int)<m4
 . go_wp2;go_ret2;exact⟨_,0,0,_,rfl,Bg _,Kd.nil ..,(λh=>by omega),T.1⟩
 go_wp2;go_ret2;exact⟨_,m4,_,_,rfl,by omega,a4.1,(λ_=>⟨E.1,a0.1⟩),T.1⟩
