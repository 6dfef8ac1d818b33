/- a part of the proof -/
import Derived.Test.YtelojoopofolpaaGreatM2
set_option linter.all false
set_option maxRecDepth 100000
set_option maxHeartbeats 3000000
namespace Go.Proofs.YtelojoopofolpaaGreat
open Go.RowKit Go.Sort Go.Proofs.Tryz
variable {R X a b cap g h i k lo m n:Nat}{u v:Value}{w w':Wd}{L:LI}{f:Nat->Bool}{B B':Nat->Nat}{c:LV}{o:Obj}
theorem zBf(n:Nat)(h:g<=a):pr n g<=pr n a:=Nat.mul_le_mul_left n h
def WayB(n m X:Nat)(v:Value)(w:Wd):Prop:=∃g,v=.slice (some (aD g 0)) n n/\g<w.heap.size/\∀i,i<n->∃b,w.cell? (aD g i)=some (.slice (some (aD b 0)) m m)/\b<w.heap.size/\∀j,j<m->∃x:Int,w.cell? (aD b j)=some (.int .i64 x)/\0<=x/\x<=(X:Nat)
theorem WayB.below(h:WayB n m X v w)(a:Bw w w'):WayB n m X v w':=by
 obtain⟨g,e,c,f⟩:=h;refine⟨g,e,As c a.size,λi hi=>?_⟩;obtain⟨b,k,d,l⟩:=f i hi;exact⟨b,zD k c a,As d a.size,λj hj=>(l j hj).imp λ_ q=>⟨zD q.1 d a,q.2⟩⟩
def ReB(w:Wd)(B:Nat)(e:Ending)(w':Wd):Prop:=∃x:Int,e=.returned x/\w=w'/\0<=x/\x<=(B:Nat)
theorem zAf(b c:Value)(h:Nat)(w:Wd):Calls prog 84 #[b,c,.int .i64 1,h] w (ReB w 1):=by
 by_cases a:h=0
 . subst a;go_enter func84,ntmps84;go_wp2;go_ret;exact⟨_,rfl,rfl,by decide,by decide⟩
 have d:((h:Int)==0)=false:=by simpa using a
 go_enter func84,ntmps84;go_wp2;go_ret;exact⟨_,rfl,rfl,by decide,by decide⟩
theorem zAU{p:Value}(q:Ae)(E:Nat)(k:Int)(F:(k==1)=false)(h:Nat)(w:Wd)(G:WayB n m X p w)(e:Wv n L)(r:Al RT.int w q L)(H:h<m)(Y:n<=2^47/\m<=2^47)(Z:pr n X<=1000000000000000):
 Calls prog 84 #[p,.slice q L.length E,k,h] w (ReB w (pr n X)):=by
 obtain⟨g,rfl,hg,s⟩:=G;have K:=I s;have M:=I r;have t:=I e;have N:=e.1;go_in;go_wp2_with fail;go_loop [9,10] (λx i=>∃(y:Int) (k:Nat),k<=L.length/\x=Bn y/\i=Bn k/\0<=y/\y<=(pr k X:Nat)) (λ_ i=>L.length-(intOf i).toNat);exact⟨0,0,Bg _,rfl,rfl,Int.le_refl _,by rw[ZQ];exact Int.le_refl _⟩;obtain⟨y,k,F,rfl,rfl,f,P⟩:=hrel;have Q:=sE X N;by_cases a:k<L.length
 . have u:(k:Int)<L.length:=by omega
   obtain⟨b,l,rfl,hb,c⟩:=M.1.at (by omega);obtain⟨cs,v,rfl,R⟩:=c k a;have A:=v 0 (by simp);obtain⟨j,B⟩:∃j:Nat,L[k]=j:=⟨L[k].toNat,by have:=t.1.2 _ (gM a);omega⟩;have o:j<n:=by have:=t.1.2 _ (gM a);omega
   have C:(j:Int)<n:=by omega
   have c1:w.cell? (aD b (l+k))=some (Bn (j:Nat)):=by rw[<-B];simpa[RT.int] using A
   obtain⟨d,c2,hd,D⟩:=K.1 j o;obtain⟨z,c3,S,T⟩:=D h H;have U:=DT k X;have V:=sE X (show k+1<=L.length by omega);have ew:IntKind.i64.wrap (y+z)=y+z:=by rw[wI];omega
   have W:(h:Int)<m:=by omega
   go_wp2;go_round;exact⟨y+z,k+1,by omega,rfl,by go_num,by omega,by omega⟩;simp[intOf];omega
 obtain rfl:k=L.length:=by omega
 go_wp2;go_ret;exact⟨_,rfl,rfl,f,by omega⟩
def zz8(t:At)(c:Ad)(i:Nat)(m:Nat):LI:=jQ (λj=>Jj t c i j) m
theorem zBW{t:At}{c:Ad}(h:Jj t c i m=false):zz8 t c i (m+1)=zz8 t c i m:=by rw[zz8,jQ,iN (by rw[h];decide),List.append_nil];rfl
theorem zBv{t:At}{c:Ad}(h:Jj t c i m=true):zz8 t c i (m+1)=zz8 t c i m++ [(m:Int)]:=by rw[zz8,jQ,iP h];rfl
theorem zAp(t:At)(c:Ad)(i:Nat):∀(m:Nat),Wv m (zz8 t c i m)
 |0=>⟨Bv _,λx h=>by cases h⟩
 |m+1=>by
  obtain⟨e,b⟩:=zAp t c i m;cases d:Jj t c i m
  . rw[zBW d];exact⟨by omega,λx a=>by have:=b x a;omega⟩
  rw[zBv d];refine⟨by rw[Gh];simp;omega,λx a=>?_⟩;rcases List.mem_append.1 a with a|a
  . have:=b x a;omega
  obtain rfl:=List.mem_singleton.1 a;omega
def OwX(lo:Nat)(L:LI)(u:Value)(w:Wd):Prop:=w.ownsRow lo 3 1 u L.length (L.map (Value.int .i64))
theorem OwX.call(h:OwX lo L u w)(a:Bw w w'):OwX lo L u w':=World.ownsRow.kept h (Sj (r:=none) a) (by cases u.ownBlock <;> simp)
theorem OwX.mono(h:OwX lo L u w)(b:a<=lo):OwX a L u w:=⟨h.1,h.2.imp_right λ⟨g,cap,cur,h4,h5,h6⟩=>⟨g,cap,cur,h4,by omega,h6⟩⟩
theorem OwX.app{t:At}{c:Ad}{a:Wd}{b:Ae}(d:Jj t c i m=true)(e:a.ownsRow lo 3 1 (.slice b ((zz8 t c i m).length+1) cap) ((zz8 t c i m).length+1) ((zz8 t c i m).map (Value.int .i64)++ [Bn (m:Nat)])):OwX lo (zz8 t c i (m+1)) (.slice b ((zz8 t c i m).length+1) cap) a:=by
 unfold OwX;rw[zBv d,Gh,Ii];exact e
def JRow(lo:Nat)(t:At)(c:Ad)(v:Value)(k:Nat)(w:Wd):Prop:=∃LL:LV,LL.length=k/\w.ownsRow lo 22 1 v k LL/\∀i (h:i<LL.length),OwX lo (zz8 t c i t.fs.length) LL[i] w
def JAtX(t:At)(c:Ad)(v:Value)(w:Wd):Prop:=∃a cap,v=.slice a t.fs.length cap/\(t.fs.length=0\/∃g,a=some (aD g 0)/\g<w.heap.size/\∀i,i<t.fs.length->∃(ra:Ae) (rc:Nat),w.cell? (aD g i)=some (.slice ra (zz8 t c i t.fs.length).length rc)/\Al RT.int w ra (zz8 t c i t.fs.length))
theorem JAtX.below{t:At}{c:Ad}(h:JAtX t c v w)(b:Bw w w'):JAtX t c v w':=by
 obtain⟨a,d,e,h⟩:=h;refine⟨a,d,e,h.imp_right λ⟨g,h1,h2,h3⟩=>⟨g,h1,As h2 b.size,λi hi=>?_⟩⟩;obtain⟨f,j,k,l⟩:=h3 i hi;exact⟨f,j,zD k h2 b,l.below b⟩
theorem JRow.nil(lo:Nat)(t:At)(c:Ad)(w:Wd):JRow lo t c Hn 0 w:=⟨[],rfl,World.ownsRow_nil ..,λi h=>aB h (Nat.not_lt_zero i)⟩
theorem JRow.app{t:At}{c:Ad}{a:LV}{b:Wd}(f:a.length=k)(j:w.ownsRow lo 22 1 v k a)(l:∀i (h:i<a.length),OwX lo (zz8 t c i t.fs.length) a[i] w)(d:OwX lo (zz8 t c k t.fs.length) u w)(m:b.ownsRow lo 22 1 (Hy g 0 (k+1) cap) (k+1) (a++ [u]))(n:(w.alloc (.cells [u].toArray 22)).grownBy b v.ownBlock):JRow lo t c (Hy g 0 (k+1) cap) (k+1) b:=by
 have K:∀L u,OwX lo L u w->OwX lo L u b:=λL u d=>World.ownsRow.kept (d.call (J _ _)) n (zx5 d j (by decide));refine⟨a++ [u],by simp[f],m,λi hi=>?_⟩;by_cases e:i<a.length;rw[List.getElem_append_left e];exact K _ _ (l i e);have o:i=a.length:=by simp at hi;omega
 subst o;rw[List.getElem_append_right (Bv _)];simp only[Nat.sub_self,List.getElem_cons_zero,f];exact K _ _ d
theorem JRow.call{t:At}{c:Ad}(S:JRow lo t c v k w)(a:Bw w w'):JRow lo t c v k w':=by
 obtain⟨b,d,e,f⟩:=S;exact⟨b,d,e.kept (Sj (r:=none) a) (by cases v.ownBlock <;> simp),λi hi=>(f i hi).call a⟩
theorem JRow.at{t:At}{c:Ad}(S:JRow lo t c v k w)(h:k=t.fs.length)(l:t.fs.length<=2^47):JAtX t c v w:=by
 subst h;obtain⟨m,z,n,o⟩:=S;obtain⟨a,f,rfl,A,B,p⟩:=Sw n;refine⟨a,f,rfl,p.imp_right λ⟨g,h7,h8,h9,hc⟩=>⟨g,h7,h9,λi hi=>?_⟩⟩;have d:i<m.length:=by omega
 obtain⟨q,r,e,C,D,s⟩:=Sw (o i d);refine⟨q,r,(hc i _ (Cz d)).trans (by rw[e]),?_⟩;rcases s with u|⟨b,rfl,E,x,y⟩;exact .inl (List.eq_nil_of_length_eq_zero u);refine .inr ⟨b,0,rfl,x,λj hj=>⟨[Bn (zz8 t c i t.fs.length)[j]],λi' d=>?_,rfl,cE ((zAp t c i t.fs.length).2 _ (gM hj)) l⟩⟩;obtain rfl:i'=0:=by simpa using d
 have:=y j (Bn (zz8 t c i t.fs.length)[j]) (by simp[hj]);simpa[RT.int] using this
def JoX(t:At)(c:Ad)(w:Wd)(e:Ending)(w':Wd):Prop:=∃v,e=.returned v/\JAtX t c v w'/\Below w.heap.size w w'
theorem zAD(t:At)(c:Ad)(C:Ae)(D:Nat)(E:Ae)(F:Nat)(fa:Ae)(fc:Nat)(p:Bd)(w:Wd)(K:zY t=0)(hf:Al Hi w fa t.fs):
 Calls prog 34 #[Az t C D E F fa fc,Ay c p] w (JoX t c w):=by
 try delta Ay Az
 have HF:=I hf;have HT:=I K;have hN:=(On K).2.2;clear hf K;go_enter func34,ntmps34
 go_wp2_with fail;obtain⟨g,h,l⟩:=Uy w t c C D E F fa fc p;have HB:=I g;obtain⟨tb,o⟩:∃tb,tb=w.heap.size:=⟨_,rfl⟩;obtain⟨cb,q⟩:∃cb,cb=w.heap.size+1:=⟨_,rfl⟩;rw[<-q]at l;rw[<-o]at h;simp only[<-q];simp only[<-o];have QT:=I h;have QC:=I l;clear q o g h l;generalize (w.alloc (Ap t C D E F fa fc)).alloc (Aj c p)=W at*;go_loopw [5,6] (λv i wr=>∃k:Nat,k<=t.fs.length/\i=.int .i64 k/\Af (JRow W.heap.size t c v k wr)/\Af (Bw W wr)) (λ_ i _=>t.fs.length-(intOf i).toNat)
 case atStart=>exact⟨0,Bg _,rfl,I (.nil ..),I (An _ _)⟩
 obtain⟨k,hk,rfl,L,g⟩:=hrel;obtain⟨M,N,P,Q⟩:=Ev (Ac g.1 QT.1);by_cases R:k<t.fs.length
 . have a0:(k:Int)<t.fs.length:=by omega
   go_wp2_with fail;clear M N P Q;go_loopw [7,8] (λx j wi=>∃m:Nat,m<=t.fs.length/\j=.int .i64 m/\Af (OwX wr.heap.size (zz8 t c k m) x wi)/\Af (Bw wr wi)) (λ_ j _=>t.fs.length-(intOf j).toNat)
   case atStart=>exact⟨0,Bg _,rfl,I (World.ownsRow_nil ..),I (An _ _)⟩
   obtain⟨m,hm,rfl,G,b⟩:=hrel;have a:=jS g b.1;obtain⟨M,N,P,Q⟩:=Ev (Ac a.1 QT.1);obtain⟨y0,y1,y2,y3,y4,y5,y6,y7,y8,y9,s,u,y,z,yl⟩:=Ek (Ac a.1 QC.1);by_cases S:m<t.fs.length
   . have a1:(m:Int)<t.fs.length:=by omega
     go_wp2_with fail;refine(AH t c C D E F fa fc p _ HT.1 (HF.1.below (Ab HB.1 a.1)) k m R S).mono ?_;rintro e w1 ⟨rfl,T⟩;have O1:=G.1.call T;have B2:=jS b T;have U:=I O1;have h3:=O1;unfold OwX at h3
     have h1:(zz8 t c k m).length<=m:=zzX _ m;clear y0 y1 y2 y3 y4 y5 y6 y7 y8 y9 s u y z yl M N P Q G b T a;cases H:Jj t c k m
     . have A:=I H;clear H;go_wp2;go_roundw
       case rel=>exact⟨m+1,by omega,by go_num,I (by rw[zBW A.1];exact U.1),B2⟩
       case measure=>simp[intOf];omega
     have A:=I H;clear H;go_wp2_with (at_builtin;refine fI cF B2.1 h3 [.int .i64 (m:Nat)] rfl rfl rfl rfl rfl (by simp[Value.oneCell']) (by omega) ?_;intro b1 c1 w2 d B _;have O3:=I (OwX.app A.1 d);have V:=I B;clear d B)
     go_roundw
     case rel=>exact⟨m+1,by omega,by go_num,O3,V⟩
     case measure=>simp[intOf];omega
   obtain rfl:m=t.fs.length:=by omega
   have J2:=L.1.call b.1;have X:OwX W.heap.size (zz8 t c k t.fs.length) _ _:=OwX.mono G.1 g.1.size;obtain⟨LL,j1,Y,j3⟩:=J2;have HU:=I X;obtain⟨ua,uc,rfl⟩:=Js X;obtain⟨kl,f⟩:∃n,n=(zz8 t c k t.fs.length).length:=⟨_,rfl⟩;rw[<-f]at HU;simp only[<-f];have a2:=I f;clear f;have Z:=I j3;clear y0 y1 y2 y3 y4 y5 y6 y7 y8 y9 s u y z yl j3 X G L b g;go_wp2_with (at_builtin;refine Zw Xi a.1.size Y [.slice ua kl uc] rfl rfl rfl rfl rfl (by simp[Value.oneCell']) (by omega) ?_;intro g1 c1 w2 d r _;have V:=I (Ld (e':=0) a.1 rfl Y r);have J3:=I (show JRow W.heap.size t c (.slice (some (aD g1 0)) (k+1) c1) (k+1) w2 from JRow.app j1 Y Z.1 HU.1 d r);clear d r)
   go_roundw
   case rel=>exact⟨k+1,by omega,by go_num,J3,V⟩
   case measure=>simp[intOf];omega
 obtain rfl:k=t.fs.length:=by omega
 have J1:=L.1.at rfl (by omega);have A:=I J1;obtain⟨_,_,rfl,-⟩:=J1;go_wp2;go_ret;exact⟨_,rfl,A.1,Ab HB.1 g.1⟩
def opE(n:Nat)(L:LI)(k:Nat):Int:=if Am L k<0\/(n:Int)<=Am L k then 6 else if 0<k/\Am L k<=Am L (k-1) then 8 else 0
def opsE(n:Nat)(L:LI):Int:=Av (opE n L) 0 (L.length-0)
def MayX(n:Nat)(f:Nat->Bool)(v:Value)(w:Wd):Prop:=∃a cap,v=.slice a n cap/\(n=0\/∃g,a=some (aD g 0)/\g<w.heap.size/\∀i,i<n->w.cell? (aD g i)=some (.bool (f i)))
theorem MayX.below(h:MayX n f v w)(c:Bw w w'):MayX n f v w':=by
 obtain⟨a,b,e,h⟩:=h;exact⟨a,b,e,h.imp_right λ⟨g,h1,h2,h3⟩=>⟨g,h1,As h2 c.size,λi hi=>zD (h3 i hi) h2 c⟩⟩
def BoF(w:Wd)(g n:Nat)(f:Nat->Bool):Prop:=∃l:List Bool,l.length=n/\(∀j,j<n->l[j]?=some (f j))/\w.heap[g]?=some (.cells (l.map Value.bool).toArray 4 (0,0))
theorem BoF.at(h:BoF w g n f):MayX n f (Hy g 0 n n) w:=by
 obtain⟨l,rfl,a,h⟩:=h;exact⟨_,_,rfl,.inr ⟨g,rfl,Ag h,λi hi=>zm h (by simpa using congrArg (Option.map Value.bool) (a i hi))⟩⟩
theorem BoF.call(h:BoF w g n f)(a:Bw w w'):BoF w' g n f:=by
 obtain⟨l,b,c,d⟩:=h;exact⟨l,b,c,Ac a d⟩
theorem BoF.setF{f':Nat->Bool}(h:BoF w g n f)(e:∀j:Nat,f' j=(f j || decide ((j:Int)=(i:Int)))):BoF (w.setCell (aD g i) (.bool true)) g n f':=by
 obtain⟨l,rfl,b,h⟩:=h;refine⟨l.set i true,by simp,λj hj=>?_,?_⟩;rw[e j,List.getElem?_set];by_cases a:i=j;subst a;simp[hj];rw[iN a,b j hj];have:¬ (j:Int)=(i:Int):=by omega
 simp[this];rw[zg h];simp
theorem BoF.cell(h:BoF w g n f)(a:m<n):∃b:Bool,w.cell? (aD g m)=some (.bool b)/\w.frozen? (aD g m)=false/\g<w.heap.size:=by
 obtain⟨l,rfl,c,h⟩:=h;exact⟨l[m],zm h (by simp[a]),zQ h,Ag h⟩
def OpsX(n:Nat)(L:LI)(w:Wd)(e:Ending)(w':Wd):Prop:=∃(v:Value) (er:Int),e=.returned (.tuple #[v,er])/\er=opsE n L/\(er=0->MayX n (λj=>decide ((j:Int)∈L)) v w')/\(er≠0->v=.slice none 0 0)/\Below w.heap.size w w'
theorem zAB(H K:Value)(fa:Ae)(n fc:Nat)(L:LI)(la:Ae)(lc:Nat)(w:Wd)(hL:Al RT.int w la L)(hl:L.length<=140737488355328)(hn:n<=1000000):Calls prog 32 #[.agg #[H,K,.slice fa n fc],.slice la L.length lc] w (OpsX n L w):=by
 have mk:=λw'=>run_make_row' (P:=prog) 77 4 (.bool false) 1 underlying77 (by kernel_rfl) rfl .i64 .i64 n (by omega) (by omega) w'
 have HL:=I hL;clear hL;go_enter func32,ntmps32
 go_wp2_with fail;have N:=I (J w (Obj.cells #[H,K,.slice fa n fc] 27));have q0:=I (zh w (Obj.cells #[H,K,.slice fa n fc] 27));have t:=zr w (Obj.cells #[H,K,.slice fa n fc] 27);rw[sA];generalize w.alloc (Obj.cells #[H,K,.slice fa n fc] 27)=u at*;have Z:=I (show BoF (u.alloc (.cells (List.replicate n (Value.bool false)).toArray 4)) u.heap.size n (λj=>decide ((j:Int)∈L.take 0)) from⟨List.replicate n false,by simp,λj hj=>by simp[hj],by simpa using zh u _⟩);have B1:=I (J u (.cells (List.replicate n (Value.bool false)).toArray 4));clear mk;generalize u.alloc (.cells (List.replicate n (Value.bool false)).toArray 4)=w1 at*;obtain⟨g,Q⟩:∃g,g=w.heap.size+1:=⟨_,rfl⟩;rw[t,<-Q]at Z;simp only[<-Q];rw[<-t]at Q;have HG:=I Q;clear Q t;go_loopw [7] (λi wr=>∃k:Nat,k<=L.length/\i=.int .i64 k/\Af (BoF wr g n (λj=>decide ((j:Int)∈L.take k)))/\Af (opsE n L=Av (opE n L) k (L.length-k))/\Af (Bw u wr)) (λi _=>L.length-(intOf i).toNat)
 case atStart=>exact⟨0,Bg _,rfl,Z,I rfl,B1⟩
 obtain⟨k,hk,rfl,M,a,o⟩:=hrel;clear Z B1;by_cases c:k<L.length
 . have a4:(k:Int)<L.length:=by omega
   obtain⟨b,v,rfl,hb,R⟩:=(HL.1.below (Ab N.1 o.1)).at (by omega);have C:∀j (h:j<L.length),wr.cell? (aD b (v+j))=some (.int .i64 L[j]):=λj h=>by
    obtain⟨cs,h1,rfl,_⟩:=R j h;have:=h1 0 (by simp);simpa[RT.int] using this
   have z:=C k c;have c2:=D_ (Ac o.1 q0.1);have cl:=As (Ag q0.1) o.1.size;obtain⟨x,X⟩:∃x,L[k]=x:=⟨_,rfl⟩;rw[X]at z;have A:=I (show opE n L k=if x<0\/(n:Int)<=x then 6 else if 0<k/\x<=Am L (k-1) then 8 else 0 by rw[opE,zAX c,X]);have S:=I C;clear C R;by_cases g0:x<0
   . have B:=I (show(6:Int)=opsE n L by
      have q:=A.1;rw[iP (.inl g0)]at q;rw[a.1,Mc c (by rw[q];decide),q])
     go_wp2;go_quiet (fail)
     have f:=jS o (dr wr nq);go_wp2;go_ret2;exact⟨_,6,rfl,B.1,(λh=>by cases h),(λ_=>rfl),Ab N.1 f.1⟩
   by_cases g1:x<n
   rotate_left
   . have T:(n:Int)<=x:=by omega
     have B:=I (show(6:Int)=opsE n L by
      have q:=A.1;rw[iP (.inr T)]at q;rw[a.1,Mc c (by rw[q];decide),q])
     go_wp2;go_quiet (fail)
     have f:=jS o (dr wr nq);go_wp2;go_ret2;exact⟨_,6,rfl,B.1,(λh=>by cases h),(λ_=>rfl),Ab N.1 f.1⟩
   have T:¬ (n:Int)<=x:=by omega
   have r:=I (show opE n L k=if 0<k/\x<=Am L (k-1) then 8 else 0 by rw[A.1,iN (by omega)]);have U:=I (show L.take (k+1)=L.take k++ [x] by rw[tS c,X]);obtain⟨m,rfl⟩:∃m:Nat,x=m:=⟨x.toNat,by omega⟩;have a5:m<n:=by omega
   go_wp2;go_quiet (fail)
   have f:=jS o (dr wr nq);have M2:=I (M.1.call (dr wr nq));have Y:∀j (h:j<L.length),(wr.drewN nq).cell? (aD b (v+j))=some (.int .i64 L[j]):=λj h=>zD (S.1 j h) hb (dr wr nq)
   have d:=As hb (dr wr nq).size;clear z c2 cl M o S;generalize wr.drewN nq=e at*;have z:=Y k c;rw[X]at z;have V:∀(G:Wd),Bw e G->BoF G g n (λj=>decide ((j:Int)∈L.take k))/\G.cell? (aD b (v+k))=some (.int .i64 (m:Nat)):=λG h=>by
    exact⟨M2.1.call h,zD z d h⟩
   have l:=I V;clear V;by_cases k0:k=0
   . have D:=I (show opE n L k=0 by rw[r.1,iN (by omega)]);have a0:decide ((0:Int)<(k:Int))=false:=by simp;omega
     have a1:decide (0<k)=false:=by simp;omega
     clear k0;go_wp2;go_quiet (fail)
     have W:=jS f (dr e nq);obtain⟨E,c3⟩:=l.1 _ (dr e nq);have a2:=As d (dr e nq).size;clear f M2 Y z d l;generalize e.drewN nq=G at*;have F:=I E;obtain⟨bq,d1,d2,d3⟩:=E.cell (m:=m) (by omega);clear E;go_wp2;go_roundw
     case rel=>exact⟨k+1,by omega,by go_num,I (F.1.setF (by rw[U.1];intro j;simp)),I (a.1.trans (Ns c D.1)),I (W.1.setCell (p:=aD g m) (Nat.le_of_eq HG.1.symm) _)⟩
     case measure=>simp[intOf];omega
   obtain⟨j,hj⟩:∃j,k=j+1:=⟨k-1,by omega⟩;have c0:=Y j (by omega);obtain⟨y,hy⟩:∃y,L[j]'(by omega)=y:=⟨_,rfl⟩;rw[hy]at c0
   have s:=I (show opE n L k=if(m:Int)<=y then 8 else 0 by
    rw[r.1,show k-1=j by omega,zAX (by omega),hy];simp only[show 0<k by omega,true_and])
   have a6:(j:Int)<L.length:=by omega
   have e1:IntKind.i64.wrap ((k:Int)-1)=(j:Int):=by rw[wI];omega
   have a0:decide ((0:Int)<(k:Int))=true:=by simp;omega
   have a1:decide (0<k)=true:=by simp;omega
   clear Y hy k0;clear hj;by_cases g2:(m:Int)<=y
   . have a3:=I (show(8:Int)=opsE n L by
      have q:=s.1;rw[iP g2]at q;rw[a.1,Mc c (by rw[q];decide),q])
     go_wp2;go_quiet (fail)
     have W:=jS f (dr e nq);go_wp2;go_ret2;exact⟨_,8,rfl,a3.1,(λh=>by cases h),(λ_=>rfl),Ab N.1 W.1⟩
   have D:=I (show opE n L k=0 by rw[s.1,iN g2]);go_wp2;go_quiet (fail)
   have W:=jS f (dr e nq);obtain⟨E,c3⟩:=l.1 _ (dr e nq);have a2:=As d (dr e nq).size;clear f M2 z c0 d l;generalize e.drewN nq=G at*;have F:=I E;obtain⟨bq,d1,d2,d3⟩:=E.cell (m:=m) (by omega);clear E;go_wp2;go_roundw
   case rel=>exact⟨k+1,by omega,by go_num,I (F.1.setF (by rw[U.1];intro j;simp)),I (a.1.trans (Ns c D.1)),I (W.1.setCell (p:=aD g m) (Nat.le_of_eq HG.1.symm) _)⟩
   case measure=>simp[intOf];omega
 obtain rfl:k=L.length:=by omega
 go_wp2;go_ret2;exact⟨_,0,rfl,((a.1.trans (Nq (opE n L) L.length))).symm,(λ_=>by have h:=M.1.at;rw[List.take_length]at h;exact h),(λh=>aB rfl h),Ab N.1 o.1⟩
def rstN(n:Nat):Nat->Nat
 |0=>1
 |s+1=>pr n (2*rstN n s)
def totN(n m:Nat):Nat->Nat
 |0=>0
 |s+1=>totN n m s+pr n (pr m (2*rstN n s))
theorem zAT(h:n<=a):∀s,rstN n s<=rstN a s
 |0=>Bv _
 |s+1=>Bf (zBf n (Nat.mul_le_mul_left 2 (zAT h s))) (sE _ h)
theorem zBo(h:n<=a)(k:m<=b):∀s,totN n m s<=totN a b s
 |0=>Bv _
 |s+1=>Nat.add_le_add (zBo h k s) (Bf (zBf n (Bf (zBf m (Nat.mul_le_mul_left 2 (zAT h s))) (sE _ k))) (sE _ h))
theorem zCN{s:Nat}(h:s<=a):totN n m s<=totN n m a:=by
 induction a with
 |zero=>rw[Nat.le_zero.1 h];exact Bv _
 |succ a ih=>
  by_cases e:s=a+1
  . rw[e];exact Bv _
  exact Bf (ih (by omega)) (Nat.le_add_right _ _)
theorem zCx:∀s,s<=5->rstN 200 s<=10240000000000:=by decide
theorem zCw:totN 200 7 6<=100000000000000000:=by decide
def RowF(w:Wd)(b m:Nat)(B:Nat->Nat):Prop:=∃l:LI,l.length=m/\(∀j,j<m->∃x:Int,l[j]?=some x/\0<=x/\x<=(B j:Nat))/\w.heap[b]?=some (.cells (l.map (Value.int .i64)).toArray 3 (0,0))
theorem RowF.call(h:RowF w b m B)(a:Bw w w'):RowF w' b m B:=by
 obtain⟨l,c,d,e⟩:=h;exact⟨l,c,d,Ac a e⟩
theorem RowF.blk(h:RowF w b m B)(e:w'.heap[b]?=w.heap[b]?):RowF w' b m B:=by
 obtain⟨l,a,c,d⟩:=h;exact⟨l,a,c,e.trans d⟩
theorem RowF.le(h:RowF w b m B)(e:∀j,B j<=B' j):RowF w b m B':=by
 obtain⟨l,a,c,d⟩:=h;refine⟨l,a,λj hj=>?_,d⟩;obtain⟨x,f,g,i⟩:=c j hj;have:=e j;exact⟨x,f,g,by omega⟩
theorem RowF.cell(S:RowF w b m B)(a:h<m):∃y:Int,w.cell? (aD b h)=some (Bn y)/\w.frozen? (aD b h)=false/\b<w.heap.size/\0<=y/\y<=(B h:Nat):=by
 obtain⟨l,rfl,c,q⟩:=S;obtain⟨x,d,e,f⟩:=c h a;exact⟨x,zm q (by simpa using congrArg (Option.map (Value.int .i64)) d),zQ q,Ag q,e,f⟩
theorem RowF.store(S:RowF w b m B){x:Int}(c:0<=x)(d:x<=(B' h:Nat))(e:∀j,j≠h->B j<=B' j):RowF (w.setCell (aD b h) (Bn x)) b m B':=by
 obtain⟨l,rfl,f,q⟩:=S;refine⟨l.set h x,by simp,λj hj=>?_,?_⟩;by_cases a:j=h;subst a;exact⟨x,by rw[List.getElem?_set];simp[hj],c,d⟩;obtain⟨y,g,i,k⟩:=f j hj;have:=e j a;exact⟨y,by rw[List.getElem?_set_ne (λh=>a h.symm)];exact g,i,by omega⟩;rw[zg q];simp
def QD(lo g n m i:Nat)(B:Nat->Nat->Nat)(w:Wd):Prop:=lo<=g/\∃vals:LV,vals.length=n/\w.heap[g]?=some (.cells vals.toArray 22 (0,0))/\∀j,j<i->∃b,vals[j]?=some (.slice (some (aD b 0)) m m)/\b≠g/\lo<=b/\RowF w b m (B j)/\∀j' b',j' < i->vals[j']?=some (.slice (some (aD b' 0)) m m)->b'=b->j'=j
section
variable {lo g n m i:Nat} {B B':Nat→Nat→Nat} {w w':Wd} (S:QD lo g n m i B w)
include S
theorem QD.call(a:Bw w w'):QD lo g n m i B w':=by
 obtain⟨c,l,d,e,f⟩:=S;refine⟨c,l,d,Ac a e,λj hj=>?_⟩;obtain⟨b,h,k,o,p,q⟩:=f j hj;exact⟨b,h,k,o,p.call a,q⟩
theorem QD.le(e:∀j h,j<i->B j h<=B' j h):QD lo g n m i B' w:=by
 obtain⟨a,l,c,d,f⟩:=S;refine⟨a,l,c,d,λj hj=>?_⟩;obtain⟨b,k,o,p,q,r⟩:=f j hj;exact⟨b,k,o,p,q.le (λh=>e j h hj),r⟩
theorem QD.row{j:Nat}(a:j<i):∃b,w.cell? (aD g j)=some (Hy b 0 m m)/\b≠g/\lo<=b/\RowF w b m (B j):=by
 obtain⟨n,l,o,c,d⟩:=S;obtain⟨b,e,f,h,k,p⟩:=d j a;exact⟨b,zm c (by simpa using e),f,h,k⟩
theorem QD.store{j b:Nat}(t:j<i)(u:w.cell? (aD g j)=some (Hy b 0 m m)){h:Nat}{x:Int}(v:0<=x)(y:x<=(B' j h:Nat))(e:∀k h',k<i->(k=j->h'≠h)->B k h'<=B' k h'):QD lo g n m i B' (w.setCell (aD b h) (Bn x)):=by
 obtain⟨z,l,A,p,q⟩:=S;obtain⟨d,r,C,H,K,D⟩:=q j t;obtain rfl:d=b:=by
  have:=(zm p (j:=j) (by simpa using r)).symm.trans u;simpa using this
 refine⟨z,l,A,(Below.heap_setCell w (aD d h) _ g (Ne.symm C)).trans p,λk hk=>?_⟩;obtain⟨c,f,E,F,s,G⟩:=q k hk;refine⟨c,f,E,F,?_,G⟩;by_cases a:k=j;subst a;obtain rfl:c=d:=by
  rw[r]at f;simpa using f.symm
 exact s.store v y (λh' hh=>e k h' hk (λ_=>hh));have o:c≠d:=λeb=>a (D k c hk f eb);exact(s.le (λh'=>e k h' hk (λe2=>aB e2 a))).blk (Below.heap_setCell w (aD d h) _ c o)
theorem QD.add(f:i<n)(s:lo<=w.heap.size):QD lo g n m (i+1) (λj h=>if j=i then 0 else B j h) ((w.setCell (aD g i) (Hy w.heap.size 0 m m)).alloc (.cells (Array.replicate m (Bn 0)) 3)):=by
 obtain⟨t,l,c,k,o⟩:=S;have u:=Ag k;have v:(w.setCell (aD g i) (Hy w.heap.size 0 m m)).heap.size=w.heap.size:=by simp[World.setCell]
 refine⟨t,l.set i (Hy w.heap.size 0 m m),by simpa using c,?_,λj hj=>?_⟩;refine zd ?_;rw[zg k];simp;by_cases e:j=i;subst e;refine⟨w.heap.size,by simp[c,f],by omega,s,⟨List.replicate m 0,by simp,λj' hj'=>⟨0,by simp[hj'],Int.le_refl _,by simp⟩,?_⟩,λj' b' hj' hv hb'=>?_⟩;have:=zh (w.setCell (aD g j) (Hy w.heap.size 0 m m)) (.cells (Array.replicate m (Bn 0)) 3);rw[v]at this;simpa using this;by_cases a:j'=j;exact a;rw[List.getElem?_set_ne (λh=>a h.symm)]at hv;obtain⟨d,x,F,G,y,H⟩:=o j' (by omega);rw[x]at hv;have K:d=b':=by simpa using hv
 obtain⟨r,_,_,b⟩:=y;have:=Ag b;omega;obtain⟨d,z,p,A,q,C⟩:=o j (by omega);refine⟨d,by rw[List.getElem?_set_ne (by omega)];exact z,p,A,?_,λj' b' hj' hv hb'=>?_⟩;simp only[iN e];obtain⟨r,b,D,E⟩:=q;exact⟨r,b,D,zd ((Below.heap_setCell _ (aD g i) _ d p).trans E)⟩;by_cases a:j'=i;subst a;rw[List.getElem?_set]at hv;simp[c,f]at hv;obtain⟨r,_,_,b⟩:=q;have:=Ag b;omega;rw[List.getElem?_set_ne (λh=>a h.symm)]at hv;exact C j' b' (by omega) hv hb'
theorem QD.cell(b:i<n):∃v,w.cell? (aD g i)=some v/\w.frozen? (aD g i)=false/\g<w.heap.size:=by
 obtain⟨c,l,rfl,a,d⟩:=S;exact⟨l[i],zm a (by simp[b]),zQ a,Ag a⟩
theorem QD.way{X:Nat}(d:i=n)(e:∀j h,j<i->B j h<=X):WayB n m X (Hy g 0 n n) w:=by
 subst d;have a:=Ag S.2.choose_spec.2.1;refine⟨g,rfl,a,λj hj=>?_⟩;obtain⟨b,f,r,s,k⟩:=S.row hj;obtain⟨l,t,o,c⟩:=k;refine⟨b,f,Ag c,λh hh=>?_⟩;obtain⟨x,p,q,u⟩:=o h hh;have:=e j h hj;exact⟨x,zm c (by simpa using congrArg (Option.map (Value.int .i64)) p),q,by omega⟩
end
theorem QD.start(w:Wd)(n m:Nat)(B:Nat->Nat->Nat):QD w.heap.size w.heap.size n m 0 B (w.alloc (.cells (Array.replicate n Hn) 22)):=⟨Bv _,List.replicate n Hn,by simp,by simpa using zh w _,λj hj=>by omega⟩
def zBD(t:At)(c:Ad)(L:LI):Int:=if Jn t c≠0 then Jn t c else opsE t.fs.length L
def CntX(t:At)(c:Ad)(L:LI)(hd:Nat)(w:Wd)(e:Ending)(w':Wd):Prop:=∃k er:Int,e=.returned (.tuple #[k,er])/\er=zBD t c L/\(er=0->0<=k/\k<=(totN t.fs.length (hd+1) 6:Nat))/\Below w.heap.size w w'
theorem bq1(j a:Nat):(if j=i then(if a<h then X else 0) else X)<=(if j=i then(if a<h then X else if a=h then R else 0) else X):=by
 repeat' split
 all_goals omega
theorem bq2(b:R<=X)(j a:Nat):(if j=i then(if a<h then X else if a=h then R else 0) else X)<=(if j=i then(if a<h+1 then X else 0) else X):=by
 repeat' split
 all_goals omega
def JB(lo hi:Int)(v:Value):Prop:=∃x:Int,v=.int .i64 x/\lo<=x/\x<=hi
theorem ReB.le{B B':Nat}(h:B<=B'):∀(e:Ending) (a:Wd),ReB w B e a->ReB w B' e a:=by
 rintro e a ⟨x,b,c,d,f⟩;exact⟨x,b,c,d,by omega⟩
theorem zBU(b:R=rstN n (a-1))(c:1<=a)(e:¬ a=1):R=pr n (2*rstN n (a-2)):=by
 obtain⟨s,rfl⟩:∃s,a=s+2:=⟨a-2,by omega⟩;exact b
theorem JAtX.get{t:At}{c:Ad}(h:JAtX t c v w)(j:n=t.fs.length)(p:0<n):∃(g b:Nat),v=Hy g 0 n b/\g<w.heap.size/\∀i,i<n->∃(d:Ae) (La:LI) (f:Nat),w.cell? (aD g i)=some (.slice d La.length f)/\Wv n La/\Al RT.int w d La:=by
 subst j;obtain⟨a,b,e,h⟩:=h;obtain⟨g,rfl,k,l⟩:=h.resolve_left (by omega);refine⟨g,b,e,k,λi hi=>?_⟩;obtain⟨d,f,m,o⟩:=l i hi;exact⟨d,_,f,m,zAp t c i _,o⟩
theorem ZS:(prog.info? 22).map (λi=>(i.zero,i.size,i.bytes))=some (some Hn,1,24):=by kernel_rfl
theorem zBC(t:At)(c:Ad)(za:Ae)(zc:Nat)(aa:Ae)(ac:Nat)(fa:Ae)(fc:Nat)(p:Bd)(w:World)(d4:t.zn.length<=zc/\zc<=140737488355328/\t.ai.length<=ac/\ac<=140737488355328)(g3:c.cs.length<=p.cc/\p.cc<=9223372036854775807)(d5:Ea w t c za aa fa p) 
 (L:List Int) (la:Ae) (lc:Nat) (hL:Al RT.int w la L) (hl:L.length<=140737488355328) (H:Nat) (j0:H<=6):
 Calls prog 31 #[Az t za zc aa ac fa fc,Ay c p,.slice la L.length lc,H] w (CntX t c L H w):=by
 try delta Ay Az
 have b1:=I d5;have HL:=I hL;clear d5 hL;go_enter func31,ntmps31
 go_wp2_with fail;obtain⟨hB,b3,b4⟩:=Uy w t c za zc aa ac fa fc p;have HB:=I hB;obtain⟨tb,b5⟩:∃tb,tb=w.heap.size:=⟨_,rfl⟩;obtain⟨cb,b6⟩:∃cb,cb=w.heap.size+1:=⟨_,rfl⟩;rw[<-b6]at b4;rw[<-b5]at b3;simp only[<-b6];simp only[<-b5];have QT:=I b3;have QC:=I b4;clear b6 b5 hB b3 b4;generalize (w.alloc (Ap t za zc aa ac fa fc)).alloc (Aj c p)=W at*;have TC:=b1.1.below HB.1;refine(kJ t c za zc aa ac fa fc p W W.heap.size (Bv _) d4 g3 TC.z TC.a TC.f TC.c).mono ?_;rintro e x ⟨rfl,B1⟩;have a0:=I (Ab HB.1 B1);have a7:=I (Ac B1 QT.1);have d6:=I (Ac B1 QC.1);clear TC B1 HB QT QC;by_cases e0:Jn t c=0
 rotate_left
 . have e1:(Jn t c !=0)=true:=by simpa using e0
   go_wp2;go_ret2;exact⟨_,_,rfl,(if_pos e0).symm,λh=>absurd h e0,a0.1⟩
 obtain⟨hT,hC⟩:=kT e0;have hN:=(On hT).2.2;have g4:=I hT;have j1:=I hC;obtain⟨x0,x1,x2,xl⟩:=Ev a7.1;have g5:=I (show zBD t c L=opsE t.fs.length L from if_neg (not_not_intro e0));rw[e0];clear e0 hT hC;go_wp2_with fail;refine(zAB _ _ fa t.fs.length fc L la lc _ (HL.1.below a0.1) hl (by omega)).mono ?_;rintro e w2 ⟨mv,er,rfl,hE,b7,d7,B2⟩;have a8:=I (Ab a0.1 B2);obtain⟨x0,x1,x2,xl⟩:=Ev (Ac B2 a7.1);obtain⟨y0,y,y2,y3,y4,y5,y6,y7,y8,y9,g6,g7,g8,g9,yl⟩:=Ek (Ac B2 d6.1);have d8:=I (Ac B2 a7.1);have d9:=I (zAD t c za zc aa ac fa fc p w2 g4.1 (b1.1.below a8.1).f);clear HL B2 a0 a7 d6 b1;have b8:=I (hE.trans g5.1.symm);by_cases M:er=0
 rotate_left
 . have e3:(er !=0)=true:=by simpa using M
   have h0:=I M;clear M hE b7 d7;go_wp2;go_ret2;exact⟨_,_,rfl,b8.1,λh=>absurd h h0.1,a8.1⟩
 have hM:=b7 M;have HM:=I hM;obtain⟨ma,mc,rfl,-⟩:=hM;have h4:=I (show(0:Int)=zBD t c L by rw[<-b8.1,M]);subst M;clear b8 hE b7 d7;have e4:¬ (H:Int)<0:=by omega
 have e5:¬ (6:Int)<H:=by omega
 go_wp2_with fail;refine d9.1.mono ?_;rintro e w3 ⟨nv,rfl,hJ,B3⟩;have HJ:=I hJ;obtain⟨na,nc,rfl,-⟩:=hJ;have f4:=I (Ab a8.1 B3);obtain⟨x0,x1,x2,xl⟩:=Ev (Ac B3 d8.1);have b9:=I (HM.1.below B3);clear y0 y y2 y3 y4 y5 y6 y7 y8 y9 g6 g7 g8 g9 yl d9 B3 a8 d8 HM e4 e5;obtain⟨n,hn⟩:∃n,n=t.fs.length:=⟨_,rfl⟩;rw[<-hn]at b9 hN x2 ⊢;have c3:=I hn;clear hn;have mk:∀w',(Instr.makeSlice 81 (.int .i64 (n:Int)) (.int .i64 (n:Int))).run prog w'=.ok (.slice (some ⟨w'.heap.size,0,none⟩) n n) (w'.alloc (.cells (Array.replicate n (Value.slice none 0 0)) 22)):=λw'=>by
  rw[show ∀v k,Array.replicate k v=madeCells #[v] k from λv k=>by rw[sA];simp];exact run_make_row' (P:=prog) 81 22 (.slice none 0 0) 24 underlying81 ZS rfl .i64 .i64 n (by omega) (by omega) w'
 go_wp2_with fail;clear x0 x1 x2 xl;have B4:=I (J w3 (.cells (Array.replicate n (Value.slice none 0 0)) 22));have f5:=I (HJ.1.below B4.1);have h5:=I (b9.1.below B4.1);have h6:=I (Ab f4.1 B4.1);clear B4 HJ b9 f4;generalize w3.alloc (.cells (Array.replicate n (Value.slice none 0 0)) 22)=w4 at*;obtain⟨m,h7⟩:∃m,m=H+1:=⟨_,rfl⟩;have hm:m<=H+1/\H+1<=m:=by omega
 clear h7;have em:IntKind.i64.wrap ((H:Int)+1)=(m:Int):=by rw[IntKind.wrap_i64];omega
 have j2:∀w',(Instr.makeSlice 22 (.int .i64 (m:Int)) (.int .i64 (m:Int))).run prog w'=.ok (.slice (some ⟨w'.heap.size,0,none⟩) m m) (w'.alloc (.cells (Array.replicate m (Value.int .i64 0)) 3)):=λw'=>by
  rw[show ∀v k,Array.replicate k v=madeCells #[v] k from λv k=>by rw[sA];simp];exact run_make_row' (P:=prog) 22 3 (.int .i64 0) 8 underlying22 (by kernel_rfl) rfl .i64 .i64 m (by omega) (by omega) w'
 go_loopw [15,16,17] (λwv tv sv wr=>∃(d:Nat) (r:Int),1<=d/\d<=7/\sv=.int .i64 d/\tv=.int .i64 r/\Af (d=1\/WayB n m (2*rstN n (d-2)) wv wr)/\Af (0<=r/\r<=(totN n m (d-1):Nat))/\Af (Bw w4 wr)) (λ_ _ sv _=>7-(intOf sv).toNat)
 case atStart=>exact⟨1,0,Bv _,by decide,rfl,rfl,I (.inl rfl),I ⟨Int.le_refl _,Int.le_refl _⟩,I (An _ _)⟩
 obtain⟨d,r,a9,j3,rfl,rfl,hW,c4,hB⟩:=hrel;obtain⟨D,h8⟩:∃v:World,v=wr:=⟨_,rfl⟩;subst h8;by_cases hs:d<=6
 rotate_left
 . have h9:¬ (d:Int)<=6:=by omega
   go_wp2;go_ret2;exact⟨_,_,rfl,h4.1,λ_=>⟨c4.1.1,by have h:=c4.1.2;rw[<-c3.1,show H+1=m by omega,show 6=d-1 by omega];exact h⟩,Ab h6.1 hB.1⟩
 have h9:(d:Int)<=6:=by omega
 obtain⟨R,hR⟩:∃R,R=rstN n (d-1):=⟨_,rfl⟩;obtain⟨X,hX⟩:∃X,X=2*R:=⟨_,rfl⟩;obtain⟨G,hG⟩:∃G,G=pr m X:=⟨_,rfl⟩;obtain⟨T0,c5⟩:∃T,T=totN n m (d-1):=⟨_,rfl⟩;have j4:R<=10240000000000:=by rw[hR];exact Bf (zAT hN _) (zCx _ (by omega))
 have c6:totN n m d=T0+pr n G:=by
  rw[c5,hG,hX,hR];obtain⟨s,rfl⟩:∃s,d=s+1:=⟨d-1,by omega⟩;rfl
 have j5:T0+pr n G<=100000000000000000:=by
  rw[<-c6];exact Bf (zCN (show d<=6 by omega)) (Bf (zBo hN (show m<=7 by omega) 6) zCw)
 have N:=c4.1;rw[<-c5]at N;have f6:=I N;have HR:=I hR;have f7:=I hG;have j6:X<=2*R/\2*R<=X:=by omega
 have i0:=I c6;clear hR hX hG c5 c6 N;go_wp2_with fail;have N0:=I (QD.start D n m (λ_ _=>X));have B5:=I (J D (.cells (Array.replicate n (Value.slice none 0 0)) 22));obtain⟨g,hg⟩:∃g,g=D.heap.size:=⟨_,rfl⟩;rw[<-hg]at N0;simp only[<-hg];have HG:=I hg;clear hg;generalize D.alloc (.cells (Array.replicate n (Value.slice none 0 0)) 22)=w5 at*;go_loopw [16,19] (λtv iv wi=>∃(i:Nat) (r:Int),i<=n/\iv=.int .i64 i/\tv=.int .i64 r/\Af (QD g g n m i (λ_ _=>X) wi)/\Af (0<=r/\r<=(T0+pr i G:Nat))/\Af (Bw D wi)) (λ_ iv _=>n-(intOf iv).toNat)
 case atStart=>exact⟨0,r,Bg _,rfl,rfl,N0,I (by rw[ZQ];exact f6.1),B5⟩
 obtain⟨i,r,hi,rfl,rfl,Q,f8,b0⟩:=hrel;obtain⟨wi,i1⟩:∃v:World,v=wr:=⟨_,rfl⟩;subst i1;clear N0 B5;by_cases S:i<n
 rotate_left
 . obtain rfl:i=n:=by omega
   have HW:=I (show d+1=1\/WayB i m (2*rstN i (d+1-2)) (.slice (some ⟨g,0,none⟩) i i) wi from .inr (Q.1.way rfl (λ_ _ _=>by have:=HR.1;rw[show d+1-2=d-1 by omega];omega)));have i2:=I (show 0<=r/\r<=(totN i m (d+1-1):Nat) by rw[Nat.add_sub_cancel,i0.1];exact f8.1);have i3:=I (Ab hB.1 b0.1);clear Q b0 hB hW;go_wp2;go_roundw
   case rel=>exact⟨d+1,r,by omega,by omega,by go_num,rfl,HW,i2,i3⟩
   case measure=>simp[intOf];omega
 have i9:(i:Int)<n:=by omega
 obtain⟨v0,s0,s1,s2⟩:=Q.1.cell S;have N1:=I ((Q.1.add S (Nat.le_of_lt s2)).le (B':=λj h'=>if j=i then(if h' < 0 then X else 0) else X) (λj h' _=>by by_cases e:j=i <;> simp[e]));have B6:=I (Ab (b0.1.setCell (p:=⟨g,i,none⟩) (Nat.le_of_eq HG.1.symm) (.slice (some ⟨wi.heap.size,0,none⟩) m m)) (J _ (.cells (Array.replicate m (Value.int .i64 0)) 3)));clear Q b0;go_wp2_with fail;clear s0 s1 s2;generalize (wi.setCell ⟨g,i,none⟩ (.slice (some ⟨wi.heap.size,0,none⟩) m m)).alloc (.cells (Array.replicate m (Value.int .i64 0)) 3)=w6 at*;go_loopw [16,20] (λtv hv wk=>∃(h:Nat) (r:Int),h<=m/\hv=.int .i64 h/\tv=.int .i64 r/\Af (QD g g n m (i+1) (λj h'=>if j=i then(if h' < h then X else 0) else X) wk)/\Af (0<=r/\r<=(T0+pr i G+pr h X:Nat))/\Af (Bw D wk)) (λ_ hv _=>m-(intOf hv).toNat)
 case atStart=>exact⟨0,r,Bg _,rfl,rfl,N1,I (by rw[ZQ];exact f8.1),B6⟩
 obtain⟨h,r,hh,rfl,rfl,l,f9,o⟩:=hrel;obtain⟨wk,c7⟩:∃v:World,v=wr:=⟨_,rfl⟩;subst c7;clear N1 B6;by_cases j7:h<m
 rotate_left
 . obtain rfl:h=m:=by omega
   have i4:¬ (h:Int)<=H:=by omega
   go_wp2;go_roundw
   case rel=>exact⟨i+1,r,by omega,by go_num,rfl,I (l.1.le (λj h' _=>by by_cases e:j=i <;> simp[e];split <;> omega)),I (by have h1:=f9.1;have h2:=DT i G;have h3:=f7.1;rw[h2];omega),o⟩
   case measure=>simp[intOf];omega
 have i4:(h:Int)<=H:=by omega
 obtain⟨j8,j9,i5,g0⟩:=h5.1.below (Ab hB.1 o.1);cases i5;obtain⟨gm,rfl,lm,g1⟩:=g0.resolve_left (by omega);have cb:wk.cell? ⟨gm,i,none⟩=some (.bool (decide (((i:Nat):Int)∈L))):=g1 i S;obtain⟨bb,g2⟩:∃b,b=decide (((i:Nat):Int)∈L):=⟨_,rfl⟩;rw[<-g2]at cb;clear g2;clear g1 g0;go_upto_if 75 with(fail)
 go_cut [16] (λtv wx=>tv=.int .i64 r/\Af (QD g g n m (i+1) (λj h'=>if j=i then(if h' < h then X else if h'=h then R else 0) else X) wx)/\Af (Bw D wx))
 case first=>
  cases bb
  . go_wp2;go_meet
    case rel=>exact⟨rfl,I (l.1.le (λj h' _=>bq1 j h')),o⟩
  clear lm cb;obtain⟨b,U,d1,d2,E⟩:=l.1.row (Nat.lt_succ_self i);obtain⟨y,c1,-,F,yl,yu⟩:=E.cell (h:=h) (by omega);replace yu:y<=0:=by simpa using yu
  have B:=World.block_lt_of_cell? _ _ U;obtain⟨gn,i6,ej,V,Y⟩:=(f5.1.below (Ab hB.1 o.1)).get c3.1 (by omega);cases ej;obtain⟨ra,La,rc,c2,Z,hS⟩:=Y i S
  have CS:=I (show ∀x,Bw wk x->Calls prog 84 #[u15,.slice ra La.length rc,d,h] x (ReB x R) from λx hb1=>by
   rcases hW.1 with e|hw
   . subst e;exact(zAf _ _ _ _).mono (ReB.le (by have h:=HR.1;have h2:R=1:=h;omega))
   by_cases e:d=1
   . subst e;exact(zAf _ _ _ _).mono (ReB.le (by have h:=HR.1;have h2:R=1:=h;omega))
   exact(zAU ra rc d (by simp;omega) h x (hw.below (Ab o.1 hb1)) Z (hS.below hb1) (by omega) ⟨by omega,by omega⟩ (Bf (Nat.le_of_eq (zBU HR.1 a9 e).symm) (by omega))).mono (ReB.le (Nat.le_of_eq (zBU HR.1 a9 e).symm)))
  clear d1 d2 E Y Z hS;go_wp2_with fail;refine' Wi [⟨76, [],.kn _⟩,⟨77, [],.kn _⟩,⟨78, [76,77],.kn _⟩,⟨79, [78],.kn _⟩,⟨80, [],.kn _⟩,⟨81, [],.kn _⟩,⟨82, [],.kn _⟩,⟨83, [81,82],.kn _⟩,⟨84, [83],.kn _⟩,⟨85, [],.kn _⟩,⟨86, [84,85],.kn _⟩,⟨87, [86],.kn _⟩,⟨88, [],.kn _⟩,⟨89, [],.kn _⟩,⟨90, [],.kn _⟩,⟨91, [89,90],.kn _⟩,⟨92, [91],.kn _⟩,⟨93, [],.kn _⟩,⟨94, [],.kn _⟩,⟨95, [88,92,93,94],.pu (JB 0 R)⟩,⟨96, [87,95],.pu (JB 0 R)⟩,⟨97, [79,80],.kn _⟩] [13,15,17,18,19,20] [96,97] (λ_ h=>And.intro (zD U B h) (And.intro (zD c1 F h) (zD c2 V h))) ?h1 ?c1 ?f1
  case h1=>
   intro u;simp only[Df,Jm,↓reduceIte,Nat.reduceEqDiff];intros
   refine⟨?_,?_,?_,?_,?_,?_,?_,?_,?_,?_,?_,?_,?_,?_,?_,?_,?_,?_,?_,?_,?_,?_,trivial⟩
   all_goals try (intros;refine Fy (by assumption) ?_;go_simp <;> rfl)
   . intro A x e C g f0 f1 f2 f3 K k;go_simp;refine(CS.1 x C).mono ?_;rintro e' w2 ⟨q,rfl,rfl,q0,q1⟩;exact k.1 _ _ ⟨An _ _,_,rfl,q0,q1⟩
   rintro A x e C g f1 ⟨q,h1,q0,q1⟩ K k;have ew:IntKind.i64.wrap (y+q)=y+q:=by rw[IntKind.wrap_i64];omega
   go_simp;exact k.1 _ _ ⟨An _ _,y+q,rfl,by omega,by omega⟩
  case c1=>kernel_rfl
  intro u w6 C;simp only[Df,Hu,Jm,Act.put,O,↓reduceIte,Nat.reduceEqDiff];rintro⟨q,e1,q0,q1⟩ M;rw[e1,M];obtain⟨b2,d0,d1,d2,E⟩:=(l.1.call C).row (Nat.lt_succ_self i);obtain rfl:b2=b:=by
   have:=(zD U B C).symm.trans d0;simpa using this.symm
  obtain⟨y2,s0,s1,s2,-,-⟩:=E.cell (h:=h) (by omega)
  have c8:=I ((l.1.call C).store (h:=h) (B':=λj h'=>if j=i then(if h' < h then X else if h'=h then R else 0) else X) (Nat.lt_succ_self i) d0 q0 (by simp;omega) (λk h' hk hne=>by
   by_cases ek:k=i
   . have:=hne ek;simp only[ek,if_true];split <;> (try split) <;> (try split) <;> omega
   simp[ek]))
  have c9:=I ((Ab o.1 C).setCell (p:=⟨b2,h,none⟩) (by have:=HG.1;show D.heap.size<=b2;omega) (.int .i64 q));clear d0 d1 d2 E e1 M C l o CS U c1 c2 B F V;go_wp2;go_meet
  case rel=>exact⟨rfl,c8,c9⟩
 clear l o lm cb;obtain⟨rfl,l,o⟩:=hcut;obtain⟨wk,c7⟩:∃v:World,v=wc:=⟨_,rfl⟩;subst c7;go_upto_if 99 with(fail)
 go_cut [16] (λtv wx=>tv=.int .i64 r/\Af (QD g g n m (i+1) (λj h'=>if j=i then(if h' < h+1 then X else 0) else X) wx)/\Af (Bw D wx))
 case first=>
  by_cases hz:h=0
  . subst hz;go_wp2;go_meet
    case rel=>exact⟨rfl,I (l.1.le (λj h' _=>bq2 (by omega) j h')),o⟩
  obtain⟨h1,i7⟩:∃h1,h=h1+1:=⟨h-1,by omega⟩;have k0:h1<m:=by omega
  have hp:decide ((0:Int)<(h:Int))=true:=decide_eq_true (by omega);have k1:decide (0<h)=true:=decide_eq_true (by omega);have k2:(0:Int)<(h:Int):=by omega
  have k3:0<h:=by omega
  have eh:IntKind.i64.wrap ((h:Int)-1)=(h1:Int):=by rw[IntKind.wrap_i64];omega
  clear i7 hz;obtain⟨b,U,d1,d2,E⟩:=l.1.row (Nat.lt_succ_self i);obtain⟨y,c1,-,F,yl,yu⟩:=E.cell (h:=h) (by omega);replace yu:y<=(R:Nat):=by simpa using yu
  have B:=World.block_lt_of_cell? _ _ U;obtain⟨gn,i6,ej,V,Y⟩:=(f5.1.below (Ab hB.1 o.1)).get c3.1 (by omega);cases ej;obtain⟨ra,La,rc,c2,Z,hS⟩:=Y i S
  have CS:=I (show ∀x,Bw wk x->Calls prog 84 #[u15,.slice ra La.length rc,d,h1] x (ReB x R) from λx hb1=>by
   rcases hW.1 with e|hw
   . subst e;exact(zAf _ _ _ _).mono (ReB.le (by have h:=HR.1;have h2:R=1:=h;omega))
   by_cases e:d=1
   . subst e;exact(zAf _ _ _ _).mono (ReB.le (by have h:=HR.1;have h2:R=1:=h;omega))
   exact(zAU ra rc d (by simp;omega) h1 x (hw.below (Ab o.1 hb1)) Z (hS.below hb1) (by omega) ⟨by omega,by omega⟩ (Bf (Nat.le_of_eq (zBU HR.1 a9 e).symm) (by omega))).mono (ReB.le (Nat.le_of_eq (zBU HR.1 a9 e).symm)))
  clear d1 d2 E Y Z hS;go_wp2_with fail;refine' Wi [⟨100, [],.kn _⟩,⟨101, [],.kn _⟩,⟨102, [100,101],.kn _⟩,⟨103, [102],.kn _⟩,⟨104, [],.kn _⟩,⟨105, [],.kn _⟩,⟨106, [],.kn _⟩,⟨107, [105,106],.kn _⟩,⟨108, [107],.kn _⟩,⟨109, [],.kn _⟩,⟨110, [108,109],.kn _⟩,⟨111, [110],.kn _⟩,⟨112, [],.kn _⟩,⟨113, [],.kn _⟩,⟨114, [],.kn _⟩,⟨115, [113,114],.kn _⟩,⟨116, [115],.kn _⟩,⟨117, [],.kn _⟩,⟨118, [],.kn _⟩,⟨119, [118],.kn _⟩,⟨120, [112,116,117,119],.pu (JB 0 R)⟩,⟨121, [111,120],.pu (JB 0 X)⟩,⟨122, [103,104],.kn _⟩] [13,15,17,18,19,20] [121,122] (λ_ h=>And.intro (zD U B h) (And.intro (zD c1 F h) (zD c2 V h))) ?h2 ?c2 ?f2
  case h2=>
   intro u;simp only[Df,Jm,↓reduceIte,Nat.reduceEqDiff];intros
   refine⟨?_,?_,?_,?_,?_,?_,?_,?_,?_,?_,?_,?_,?_,?_,?_,?_,?_,?_,?_,?_,?_,?_,?_,trivial⟩
   all_goals try (intros;refine Fy (by assumption) ?_;go_simp <;> rfl)
   . intro A x e C g f0 f1 f2 f3 K k;go_simp;refine(CS.1 x C).mono ?_;rintro e' w2 ⟨q,rfl,rfl,q0,q1⟩;exact k.1 _ _ ⟨An _ _,_,rfl,q0,q1⟩
   rintro A x e C g f1 ⟨q,h1,q0,q1⟩ K k;have ew:IntKind.i64.wrap (y+q)=y+q:=by rw[IntKind.wrap_i64];omega
   go_simp;exact k.1 _ _ ⟨An _ _,y+q,rfl,by omega,by omega⟩
  case c2=>kernel_rfl
  intro u w6 C;simp only[Df,Hu,Jm,Act.put,O,↓reduceIte,Nat.reduceEqDiff];rintro⟨q,e1,q0,q1⟩ M;rw[e1,M];obtain⟨b2,d0,d1,d2,E⟩:=(l.1.call C).row (Nat.lt_succ_self i);obtain rfl:b2=b:=by
   have:=(zD U B C).symm.trans d0;simpa using this.symm
  obtain⟨y2,s0,s1,s2,-,-⟩:=E.cell (h:=h) (by omega)
  have c8:=I ((l.1.call C).store (h:=h) (B':=λj h'=>if j=i then(if h' < h+1 then X else 0) else X) (Nat.lt_succ_self i) d0 q0 (by simp;omega) (λk h' hk hne=>by
   by_cases ek:k=i
   . have:=hne ek;simp only[ek,if_true];split <;> (try split) <;> (try split) <;> omega
   simp[ek]))
  have c9:=I ((Ab o.1 C).setCell (p:=⟨b2,h,none⟩) (by have:=HG.1;show D.heap.size<=b2;omega) (.int .i64 q));clear d0 d1 d2 E e1 M C l o CS U c1 c2 B F V;go_wp2;go_meet
  case rel=>exact⟨rfl,c8,c9⟩
 clear l o;obtain⟨rfl,l,o⟩:=hcut;obtain⟨b,U,d1,d2,E⟩:=l.1.row (Nat.lt_succ_self i);obtain⟨y,c1,-,F,yl,yu⟩:=E.cell (h:=h) (by omega);replace yu:y<=(X:Nat):=by simpa using yu
 have a1:=sE X (show h+1<=m by omega);have a2:=DT h X;have a3:=DT i G;have a4:=sE G (show i+1<=n by omega);have a5:=f7.1;have a6:=f9.1;have ew:IntKind.i64.wrap (r+y)=r+y:=by rw[IntKind.wrap_i64];omega
 have i8:=I (show 0<=r+y/\r+y<=(T0+pr i G+pr (h+1) X:Nat) by omega);clear a1 a2 a3 a4 a5 a6;have B:=World.block_lt_of_cell? _ _ U;clear d1 d2 E;go_wp2;go_roundw
 case rel=>exact⟨h+1,r+y,by omega,by go_num,rfl,l,i8,o⟩
 case measure=>simp[intOf];omega
def canD(t:At)(c:Ad)(d:Ai):LI:=if d= [] then jQ (λ_=>true) t.fs.length else zz8 t c (lstN d) t.fs.length
def zBJ(t:At)(c:Ad)(may:Nat->Bool)(E:Ai->Nat->List Ai)(d:Ai)(hd:Nat)(f:Int)(h:Nat):List Ai:=
 if(h=0/\may f.toNat=false)\/hd<h then [] else(if BB t c (d++ [(f,decide (h=1))])=0 then [d++ [(f,decide (h=1))]] else [])++E (d++ [(f,decide (h=1))]) (hd-h)
def stepF(t:At)(c:Ad)(may:Nat->Bool)(E:Ai->Nat->List Ai)(d:Ai)(hd:Nat)(f:Int):List Ai:=(List.range 2).flatMap (zBJ t c may E d hd f)
def extD(t:At)(c:Ad)(may:Nat->Bool):Nat->Ai->Nat->List Ai
 |0,_,_=> []
 |k+1,d,hd=>(canD t c d).flatMap (stepF t c may (extD t c may k) d hd)
theorem zA8{A:Type}(f:Nat->List A)(h:Nat):(List.range (h+1)).flatMap f=(List.range h).flatMap f++f h:=by
 rw[List.range_succ,List.flatMap_append];simp
theorem zCv:∀(i:Nat),∀x∈jQ (λ_=>true) i,0<=x/\x<(i:Int)
 |0,x,h=>by cases h
 |i+1,x,h=>by
  rw[jQ,iP rfl]at h;rcases List.mem_append.1 h with h|h
  . have:=zCv i x h;omega
  obtain rfl:=List.mem_singleton.1 h;omega
theorem OwX.all{a:Wd}{b:Ae}(c:a.ownsRow lo 3 1 (.slice b ((jQ (λ_=>true) i).length+1) cap) ((jQ (λ_=>true) i).length+1) ((jQ (λ_=>true) i).map (Value.int .i64)++ [Bn (i:Nat)])):OwX lo (jQ (λ_=>true) (i+1)) (.slice b ((jQ (λ_=>true) i).length+1) cap) a:=by
 unfold OwX;rw[show jQ (λ_=>true) (i+1)=jQ (λ_=>true) i++ [(i:Int)] by rw[jQ,iP rfl],Gh,Ii];exact c
theorem zCA{t:At}{c:Ad}{d:Ai}{v1 v2:Int}{a b:BA}{e f:Int}(h:cK t c d v1 v2 a b e f):(⟨d,v1,v2,a,b,e,f⟩:Sd)=OL t c d:=by
 have g:=h.1;obtain⟨_,_,i,j,k,l,m,n⟩:=h;rw[i,j,k,l,m,n,IQ g,show Xc t c d=Nw c (Bo t c d) from iP g];rfl
theorem zz4.app{b:Value}{L:List Sd}{a:List (LV)}{x:Sd}(d:a.length=L.length)(e:w.ownsRow lo 50 7 b L.length a.flatten)(f:∀i (h:i<a.length),LgC lo w (Hx L i) a[i])(g:LgC lo w x c) 
 (j:w'.ownsRow lo 50 7 v (L.length+1) (a.flatten++c)) (k:(w.alloc o).grownBy w' b.ownBlock):zz4 lo w' v (L++ [x]):=
 (zAi.leg (show zAi lo w b Hn (λ_=>Hn) L [] (λ_=> []) from⟨⟨a,d,e,f⟩,World.ownsRow_nil ..,zAe.nil lo w⟩) d e f k g j).lg
theorem zz4.appK{b:Value}{L:List Sd}{a:List (LV)}{x:Sd}(d:L.length=n)(e:a.length=L.length)(f:w.ownsRow lo 50 7 b L.length a.flatten)(g:∀i (h:i<a.length),LgC lo w (Hx L i) a[i])(j:LgC lo w x c) 
 (k:w'.ownsRow lo 50 7 v (n+1) (a.flatten++c)) (l:(w.alloc o).grownBy w' b.ownBlock):zz4 lo w' v (L++ [x]):=by
 subst d;exact zz4.app e f g j k l
section
variable {t:At} {c:Ad} {za:Ae} {zc:Nat} {aa:Ae} {ac:Nat} {fa:Ae} {fc:Nat} {p:Bd} {wB W:Wd} {tb cb:Nat} {v0 dv:Value} {d:Ai} {ca:Ae} {cc:Nat} {L:LI} {lv lv':Value} {w w':Wd} {k:Nat}
theorem Rm.extX(S:Rm t c za zc aa ac fa fc p wB W tb cb v0 dv d ca cc L lv w){xs:LV}(i:w.ownsRow wB.heap.size 50 7 lv k xs)(h:GR w w' lv lv'):Rm t c za zc aa ac fa fc p wB W tb cb v0 dv d ca cc L lv' w':=by
 have K:∀b o,w.heap[b]?=some o->(∀a f,o≠Obj.cells a 50 f)->w'.heap[b]?=some o:=λb o q hne=>(h.1.block b (Ag q) λe=>by
  rcases i.2 with⟨j,_⟩|⟨g,l,a,j,_,m,_⟩
  . rw[j]at e;simp[Value.ownBlock]at e
  rw[j]at e;obtain rfl:b=g:=by simpa[Value.ownBlock] using e
  rw[m]at q;exact hne _ _ (Option.some.inj q).symm).trans q
 refine⟨S.bel.grown h.1 S.bel.size λb hb=>(i.lt b hb).1,K _ _ S.qt λa f e=>?_,K _ _ S.qc λa f e=>?_,⟨S.can.1,S.can.2.imp_right λq=>q.kept h.1 (zx5 q i (by decide))⟩,⟨S.dut.1,S.dut.2.imp_right λq=>⟨q.1,World.ownsRow.kept q.2 h.1 (zx5 q.2 i (by decide))⟩⟩,S.gr.trans h⟩;simp[Ap]at e;simp[Aj]at e
theorem Rm.callX(S:Rm t c za zc aa ac fa fc p wB W tb cb v0 dv d ca cc L lv w){a:List Sd}(b:zz4 wB.heap.size w lv a)(e:Bw w w'):Rm t c za zc aa ac fa fc p wB W tb cb v0 dv d ca cc L lv w':=S.extX b.choose_spec.2.1 (GR.of lv e)
end
def ExtXR(t:At)(c:Ad)(lo:Nat)(v:Value)(D E:List Ai)(k:Nat)(w:Wd)(e:Ending)(w':Wd):Prop:=∃(v':Value),e=.returned v'/\(D++E).length<=D.length+Mw k/\zz4 lo w' v' ((D++E).map (OL t c))/\GR w w' v v'
def zCE(t:At)(c:Ad)(za:Ae)(zc:Nat)(aa:Ae)(ac:Nat)(fa:Ae)(fc:Nat)(p:Bd)(wB:Wd)(mv nv:Value)(may:Nat->Bool)(k:Nat):Prop:=∀(d:Ai) (dv:Value) (hd:Nat) (v:Value) (D:List Ai) (w:Wd),d.length+k=6->hd<=6->D.length+Mw k<=1000000000->Below wB.heap.size wB w->Wp wB.heap.size t.fs.length dv d w->zz4 wB.heap.size w v (D.map (OL t c))->
 Calls prog 33 #[.agg #[.slice za t.zn.length zc,.slice aa t.ai.length ac,.slice fa t.fs.length fc],.agg #[c.rp,c.rl,c.cn,c.sit,c.lv,c.nf,c.nt,.slice p.ca c.cs.length p.cc,.slice p.ra c.rs.length p.rc,.slice p.ka c.ks.length p.kc,.slice p.xa c.xs.length p.xc,.slice p.la c.ls.length p.lc,.slice p.oa c.oz.length p.oc,c.gu],v,dv,mv,nv,hd] w (ExtXR t c wB.heap.size v D (extD t c may k d hd) k w)
theorem zBA(t:At)(c:Ad)(V:Ae)(P:Nat)(X:Ae)(Q:Nat)(fa:Ae)(fc:Nat)(p:Bd)(m:Wd)(j0:t.zn.length<=P/\P<=140737488355328/\t.ai.length<=Q/\Q<=140737488355328)(o2:c.cs.length<=p.cc/\p.cc<=9223372036854775807)(j1:Ea m t c V X fa p)(hN:t.fs.length<=12)(mv nv:Value)(k:Nat)(a:Nat->Bool)(hM:MayX t.fs.length a mv m)(hJ:JAtX t c nv m) 
 (IH:Af (zCE t c V P X Q fa fc p m mv nv a k)):zCE t c V P X Q fa fc p m mv nv a (k+1):=by
 intro d dv E v0 D0 w o3 u3 d3 j2 d4 d5;have o4:=I j1;have HM:=I hM;have HJ:=I hJ;obtain⟨ma,mc,rfl,-⟩:=hM;obtain⟨na,nc,rfl,-⟩:=hJ;have a0:=I d4;have j3:=I d5;have o5:=I j2;obtain⟨da,Y,o6⟩:∃da Y,dv=.slice da d.length Y:=by
  rcases d4.2 with⟨rfl,rfl⟩|⟨_,q⟩
  . exact⟨none,0,rfl⟩
  exact Js q
 obtain⟨n,hn⟩:∃n,n=D0.length:=⟨_,rfl⟩;obtain⟨va,vc,o7⟩:∃va vc,v0=.slice va n vc:=by
  obtain⟨LL,h1,h2,C⟩:=d5;rw[List.length_map,<-hn]at h2;exact Js h2
 rw[<-hn]at d3;have j4:=I hn;clear hn;subst o6 o7;have j5:¬ (d.length:Int)=6:=by omega
 have t7:((d.length:Int)==6)=false:=by simpa using j5
 have R:=I o3;clear j1 d4 d5 j2 j5;go_enter func33,ntmps33
 go_upto_region 1 with fail
 obtain⟨S,d6,d7⟩:=Uy w t c V P X Q fa fc p;have HB:=I S;obtain⟨tb,d8⟩:∃tb,tb=w.heap.size:=⟨_,rfl⟩;obtain⟨cb,F⟩:∃cb,cb=w.heap.size+1:=⟨_,rfl⟩;rw[<-F]at d7;rw[<-d8]at d6;simp only[<-F];simp only[<-d8];have QT:=I d6;have QC:=I d7;clear F d8 S d6 d7;generalize (w.alloc (Ap t V P X Q fa fc)).alloc (Aj c p)=W at*;go_upto_if 28 with(fail)
 have c9:=I (j3.1.agr (jR.of HB.1));have b2:=jS o5 HB.1;have H:=I (show Wp m.heap.size t.fs.length (.slice da d.length Y) d W from⟨a0.1.1,a0.1.2.imp_right λq=>⟨q.1,q.2.call HB.1⟩⟩);go_cut [15] (λcv wx=>∃(L:LI) (ca:Ae) (Z:Nat),cv=.slice ca L.length Z/\Af (Ps t.fs.length m ca Z L wx)/\Af (L=canD t c d)/\Af (Bw W wx))
 case first=>
  by_cases T:0<d.length
  . have j6:(0:Int)<d.length:=by omega
    have b3:d≠ []:=List.length_pos_iff.1 T;obtain⟨nl,j7⟩:∃nl,d.length=nl+1:=⟨d.length-1,by omega⟩;have q:=(H.1.2.resolve_left λh=>b3 h.1).2;obtain⟨_,_,ed,_,b4⟩:=q.at λx hx=>cE (H.1.1 x hx) (by omega)
    simp only[Value.slice.injEq]at ed;obtain⟨o8,-,o9⟩:=ed;subst o8 o9;obtain⟨db,B,rfl,p0,tc⟩:=Ok b4 T;obtain⟨f,hf⟩:∃f:Nat,(Cm d nl).1=f:=⟨(Cm d nl).1.toNat,by have:=H.1.1 (Cm d nl) (DR (by omega));omega⟩;have j8:f<t.fs.length:=by have:=H.1.1 (Cm d nl) (DR (by omega));omega
    have c0:W.cell? (aD db (B+nl*2))=some (.int .i64 (f:Nat)):=by rw[<-hf];exact(tc nl (by omega)).1
    obtain⟨_,_,ej,hj⟩:=HJ.1.below b2.1;simp only[Value.slice.injEq]at ej;obtain⟨b5,-,d9⟩:=ej;subst b5 d9;obtain⟨gn,rfl,u4,p1⟩:=hj.resolve_left (by omega);obtain⟨_,_,ej,j9⟩:=HJ.1;simp only[Value.slice.injEq]at ej;obtain⟨b5,-,d9⟩:=ej;subst d9;obtain⟨p2,eg,p3,d0⟩:=j9.resolve_left (by omega);obtain rfl:gn=p2:=by rw[<-b5]at eg;simpa using eg
    obtain⟨ra,rc,c3,hS⟩:=d0 f j8;have hR:=zAp t c f t.fs.length;have o:zz8 t c f t.fs.length=canD t c d:=by
     unfold canD
     rw[iN b3,lstN,j7,Nat.add_sub_cancel,hf,Int.toNat_natCast]
    obtain⟨L,hL⟩:∃L,L=zz8 t c f t.fs.length:=⟨_,rfl⟩;rw[<-hL]at c3 hS hR o;have f3:=I o;clear o hL;have c1:W.cell? (aD gn f)=some (.slice ra L.length rc):=(b2.1.cell (p:=aD gn f) p3).trans c3;have el:IntKind.i64.wrap ((d.length:Int)-1)=(nl:Int):=by rw[wI];omega
    have i1:(nl:Int)<d.length:=by omega
    have i2:(f:Int)<t.fs.length:=by omega
    have i3:nl<d.length:=by omega
    have HS:=I (show Ps t.fs.length m ra rc L W from⟨hR,.inl hS⟩);have u5:=I b3;clear hj p1 j9 d0 tc b4 q hR hS hf j7 b3 b5 eg;go_wp2;go_meet
    case rel=>exact⟨L,ra,rc,rfl,HS,f3,I (An _ _)⟩
  have j6:¬ (0:Int)<d.length:=by omega
  have t8:t.fs.length<=t.fs.length:=Bv _;have p4:=I (show d= [] from List.length_eq_zero_iff.1 (by omega));go_wp2_with fail;go_loopw [15,16] (λcv iv wr=>∃i:Nat,i<=t.fs.length/\iv=.int .i64 i/\Af (OwX W.heap.size (jQ (λ_=>true) i) cv wr)/\Af (Bw W wr)) (λ_ iv _=>t.fs.length-(intOf iv).toNat)
  case atStart=>exact⟨0,Bg _,rfl,I (World.ownsRow_nil ..),I (An _ _)⟩
  obtain⟨i,hi,rfl,hO,S⟩:=hrel;by_cases u6:i<t.fs.length
  . have t9:(i:Int)<t.fs.length:=by omega
    have C:=hO.1;unfold OwX at C
    have h1:=zzX (λ_=>true) i;clear hO;go_wp2_with (at_builtin;refine fI cF S.1 C [.int .i64 (i:Nat)] rfl rfl rfl rfl rfl (by simp[Value.oneCell']) (by omega) ?_;intro b1 c1 w2 k0 k2 _;have O3:=I (OwX.all k0);have B3:=I k2;clear k0 k2)
    go_roundw
    case rel=>exact⟨i+1,by omega,by go_num,O3,B3⟩
    case measure=>simp[intOf];omega
  obtain rfl:i=t.fs.length:=by omega
  have C:=hO.1;unfold OwX at C
  have h1:=zzX (λ_=>true) t.fs.length;have h2:=zCv t.fs.length;obtain⟨ca,Z,rfl⟩:=Js C;obtain⟨L,hL⟩:∃L,L=jQ (λ_=>true) t.fs.length:=⟨_,rfl⟩;rw[<-hL]at h1 h2 C;simp only[<-hL];have f3:=I (show L=canD t c d by rw[hL,canD,iP p4.1]);clear hL;have HS:=I (show Ps t.fs.length m ca Z L _ from⟨⟨by omega,λx hx=>by have:=h2 x hx;omega⟩,.inr ⟨C.1,C.2.imp_right λ⟨g,k3,cur,h4,h5,h6⟩=>⟨g,k3,cur,h4,by have:=b2.1.size;omega,h6⟩⟩⟩);clear C hO;go_wp2;go_meet
  case rel=>exact⟨L,ca,Z,rfl,HS,f3,S⟩
 obtain⟨L,ca,Z,rfl,o,p5,S⟩:=hcut;have S0:=I (show Rm t c V P X Q fa fc p m W tb cb (.slice va n vc) (.slice da d.length Y) d ca Z L (.slice va n vc) wc from⟨Ab b2.1 S.1,Ac S.1 QT.1,Ac S.1 QC.1,o.1,⟨H.1.1,H.1.2.imp_right λq=>⟨q.1,q.2.call S.1⟩⟩,GR.of _ S.1⟩);have L0:=I (c9.1.agr (jR.of S.1));obtain⟨gF,k4⟩:∃g,g=stepF t c a (extD t c a k) d E:=⟨_,rfl⟩;have k5:=I k4;clear k4;obtain⟨G,hG⟩:∃G,G=1+Mw k:=⟨_,rfl⟩;have f4:=I (show Mw (k+1)=pr 24 G by rw[hG];rfl);have u0:L.length<=12:=by have:=o.1.1.1;omega
 have u7:=I (ZQ G);have HG:=I hG;have k6:=I d3;have p6:=I (show ∀x∈d,(Lit.int .i64 x.1).wf=true from λx hx=>cE (H.1.1 x hx) (by omega));obtain⟨i0,k7,k8,k9,l0⟩:=info_parts fF.info;clear hG d3 o S j3 c9 a0;go_wp2_with fail;go_loopw [2,17] (λlv iv wr=>∃(i:Nat) (D1:List Ai),i<=L.length/\iv=.int .i64 i/\Af (D1.length<=n+pr (2*i) G)/\Af (D1=D0++(L.take i).flatMap gF)/\Af (zz4 m.heap.size wr lv (D1.map (OL t c)))/\Af (Rm t c V P X Q fa fc p m W tb cb (.slice va n vc) (.slice da d.length Y) d ca Z L lv wr)) (λ_ iv _=>L.length-(intOf iv).toNat)
 case atStart=>exact⟨0,D0,Bg _,rfl,I (by rw[<-j4.1];exact Nat.le_add_right _ _),I (by rw[List.take_zero];exact(List.append_nil _).symm),L0,S0⟩
 obtain⟨i,D1,hi,rfl,f5,l4,b6,f6⟩:=hrel;clear S0 L0;by_cases b7:i<L.length
 rotate_left
 . have l5:¬ (i:Int)<L.length:=by omega
   obtain⟨LL,_,l2,_⟩:=b6.1;rw[List.length_map]at l2;obtain⟨_,_,rfl⟩:=Js l2;clear l2;go_wp2;go_ret
   have l6:=I (show D1=D0++extD t c a (k+1) d E by
    rw[l4.1,show i=L.length by omega,List.take_length,p5.1,k5.1];rfl)
   exact⟨_,rfl,by have h1:=f5.1;have h2:=sE G (show 2*i<=24 by omega);have C:=j4.1;rw[<-l6.1,f4.1];omega,by rw[<-l6.1];exact b6.1,(GR.of _ HB.1).trans f6.1.gr⟩
 have l5:(i:Int)<L.length:=by omega
 go_wp2_with fail;go_loopw [2,18] (λlv hv wr=>∃(h:Nat) (M:List Ai),h<=2/\hv=.int .i64 h/\Af (M.length<=n+pr (2*i+h) G)/\Af (M=D1++(List.range h).flatMap (zBJ t c a (extD t c a k) d E L[i]))/\Af (zz4 m.heap.size wr lv (M.map (OL t c)))/\Af (Rm t c V P X Q fa fc p m W tb cb (.slice va n vc) (.slice da d.length Y) d ca Z L lv wr)) (λ_ hv _=>2-(intOf hv).toNat)
 case atStart=>exact⟨0,D1,Bg _,rfl,f5,I (List.append_nil _).symm,b6,f6⟩
 obtain⟨h,M,u8,rfl,b8,f7,a7,l⟩:=hrel;obtain⟨wk,b9⟩:∃v:Wd,v=wr:=⟨_,rfl⟩;subst b9;clear f5 b6 f6;by_cases hh:h<2
 rotate_left
 . have p7:¬ (h:Int)<2:=by omega
   have HN:=I (show M.length<=n+pr (2*(i+1)) G by have:=b8.1;rwa [show 2*i+h=2*(i+1) by omega]at this)
   have f8:=I (show M=D0++(L.take (i+1)).flatMap gF by
    rw[f7.1,l4.1,show h=2 by omega,zAj L gF b7,k5.1,List.append_assoc];rfl)
   go_wp2;go_roundw
   case rel=>exact⟨i+1,M,by omega,by go_num,HN,f8,a7,l⟩
   case measure=>simp[intOf];omega
 have p7:(h:Int)<2:=by omega
 obtain⟨ib,B,rfl,f9,l7⟩:=(l.1.can.at l.1.bel (by omega)).at (by omega);obtain⟨cs,k1,rfl,-⟩:=l7 i b7;obtain⟨f,hf⟩:∃f:Nat,L[i]=f:=⟨L[i].toNat,by have:=l.1.can.1.2 _ (gM b7);omega⟩;have j8:f<t.fs.length:=by have:=l.1.can.1.2 _ (gM b7);omega
 have c0:wk.cell? (aD ib (B+i))=some (.int .i64 (f:Nat)):=by
  have:=k1 0 (by simp);rw[<-hf];simpa[RT.int] using this
 have i1:(f:Int)<t.fs.length:=by omega
 have HF:=I hf;obtain⟨_,_,em,hm⟩:=HM.1.below l.1.bel;simp only[Value.slice.injEq]at em;obtain⟨l8,-,p8⟩:=em;subst p8;obtain⟨gm,eg,p9,l9⟩:=hm.resolve_left (by omega);have cm:=l9 f (by omega);obtain⟨bm,g0⟩:∃b,b=a f:=⟨_,rfl⟩;rw[<-g0]at cm;have m0:=I g0;clear g0;rw[eg]at l8;subst l8;clear l7 k1 l9 hm hf eg;go_upto_region 16 with fail
 go_cut [75] (λcv wx=>∃b:Bool,cv=.bool b/\Af (b=true ↔ (h=0/\bm=false)\/E<h)/\wx=wk)
 case first=>
  rcases(show h=0\/h=1 by omega) with rfl|rfl
  . cases bm
    . go_wp2;go_meet
      case rel=>exact⟨true,rfl,I (by simp),rfl⟩
    go_wp2;go_meet
    case rel=>exact⟨_,rfl,I (by simp),rfl⟩
  by_cases u9:E<1
  . have m1:(E:Int)<1:=by omega
    go_wp2;go_meet
    case rel=>exact⟨true,by simp;try omega,I (by simp;omega),rfl⟩
  have m1:¬ (E:Int)<1:=by omega
  go_wp2;go_meet
  case rel=>exact⟨false,by simp;try omega,I (by simp;omega),rfl⟩
 obtain⟨b,rfl,N,rfl⟩:=hcut;clear cm p9;cases b;rotate_left
 . have f8:=I (show M=D1++(List.range (h+1)).flatMap (zBJ t c a (extD t c a k) d E L[i]) by
    rw[zA8,<-List.append_assoc,<-f7.1,zBJ,iP (by rw[HF.1,Int.toNat_natCast,<-m0.1];exact N.1.1 rfl),List.append_nil])
   have HN:=I (show M.length<=n+pr (2*i+(h+1)) G by have:=b8.1;have:=DT (2*i+h) G;rw[show 2*i+(h+1)=2*i+h+1 by omega];omega);go_wp2;go_roundw
   case rel=>exact⟨h+1,M,by omega,by go_num,HN,f8,a7,l⟩
   case measure=>simp[intOf];omega
 have m2:¬ ((h=0/\bm=false)\/E<h):=λe=>by have:=N.1.2 e;cases this
 have u1:h<=E:=by omega
 obtain⟨r,g2⟩:∃b,b=decide (h=1):=⟨_,rfl⟩;have v1:((h:Int)==1)=r:=by
  rw[g2];rcases(show h=0\/h=1 by omega) with rfl|rfl <;> rfl
 have q4:=I (show zBJ t c a (extD t c a k) d E L[i] h=(if BB t c (d++ [((f:Int),r)])=0 then [d++ [((f:Int),r)]] else [])++extD t c a k (d++ [((f:Int),r)]) (E-h) by
  rw[zBJ,iN (by rw[HF.1,Int.toNat_natCast,<-m0.1];exact m2),HF.1,g2])
 clear N m2 g2;have m3:=I (show(d.length=0/\da=none/\Y=0)\/(d≠ []/\Hj m.heap.size (.slice da d.length Y) d wc) from l.1.dut.2.imp (λq=>by have q2:=q.2;rw[q.1]at q2;simp only[Value.slice.injEq]at q2;exact⟨by rw[q.1];rfl,q2.1,q2.2.2⟩) id);obtain⟨wk,b9⟩:∃v:Wd,v=wc:=⟨_,rfl⟩;subst b9;go_wp2_with fail;refine' lK [⟨76, [],.kn _⟩,⟨77, [76],.ow (λv w'=>Hj wk.heap.size v d w') (λ_ _ _=>Hj.call)⟩,⟨78, [],.kn _⟩,⟨79, [],.kn _⟩,⟨80, [78,79],.kn _⟩,⟨81, [80],.kn _⟩,⟨82, [],.kn _⟩,⟨83, [82],.kn (.bool r)⟩,⟨84, [81,83],.kn (.agg #[.int .i64 (f:Nat),.bool r])⟩,⟨85, [84],.ow (λv w'=>∃(g:Nat),v=.slice (some (aD g 0)) 1 1/\wk.heap.size<=g/\w'.heap[g]?=some (oT (f:Nat) r)) (λ_ _ _ ⟨g,h1,h2,C⟩ N=>⟨g,h1,h2,Ac N C⟩)⟩] [3,15,17,18] [77,85] (λ_ h=>aI (zD c0 f9 h) (As f9 h.size)) ?h2 ?c2 ?f2
 case h2=>
  intro u;simp only[Df,Jm,↓reduceIte,Nat.reduceEqDiff];intros
  and_intros
  all_goals try (first|trivial|(intros;refine Fy (by assumption) ?_;go_simp <;> rfl))
  . intro A w1 e N g f0 K k;clear g;rcases m3.1 with⟨T,q5,q6⟩|⟨T,q7⟩
    . obtain rfl:=List.length_eq_zero_iff.1 T;subst q5 q6;go_simp;exact k.1 _ _ ⟨An _ _,World.ownsRow_nil ..⟩
    obtain⟨v2,v3,ed,q8,b4⟩:=q7.at p6.1;simp only[Value.slice.injEq]at ed;obtain⟨e1,-,e2⟩:=ed;subst e1 e2;have m4:=List.length_pos_iff.2 T;obtain⟨db,B,rfl,p0,tc⟩:=Ok (b4.below N) m4;have v4:=R.1;refine wp_append_lies _ _ _ 48 rfl wk.heap.size 86 i0 (.agg #[.int .i64 0,.bool false]) 2 16 fF.ht k7 k8 k9 l0 rfl (by decide) (.slice none 0 0) 0 [] rfl (World.ownsRow_nil ..) (aD db B) d.length Y (d.map Mz).flatten ((e.1 _).trans f0) (sD d) (EC tc) EG m4 (by unfold maxLen;omega) (by omega) N.size w1.heap.size rfl ?_;intro g1 k3 w2 h1 h2 C h4;exact k.1 _ _ ⟨rW h2 rfl,by simpa[Hj] using h1⟩
  intro A w1 e N g f1 K k;go_simp;exact k.1 _ _ ⟨J _ _,w1.heap.size,rfl,N.size,zh _ _⟩
 case c2=>kernel_rfl
 intro u w9 N;simp only[Df,Hu,Jm,Act.put,O,↓reduceIte,Nat.reduceEqDiff];rintro ow ⟨g9,m5,q9,m6⟩;refine wp_append_lies _ (.tmp 77) (.tmp 85) 48 rfl wk.heap.size 86 i0 (.agg #[.int .i64 0,.bool false]) 2 16 fF.ht k7 k8 k9 l0 rfl (by decide) (u 77) d.length (d.map Mz).flatten rfl ow (aD g9 0) 1 1 [.int .i64 (f:Nat),.bool r] m5 rfl (World.news_of_block m6) (by intro u hu;simp at hu;rcases hu with rfl|rfl <;> rfl) (by decide) (by have:=R.1;unfold maxLen;omega) (by have:=R.1;omega) N.size w9.heap.size rfl ?_;intro c4 z m7 h1 h2 C h4;have g3:=I (N.grown h2 N.size λj hj=>(World.ownsRow.lt ow j hj).1);have U:(d++ [((f:Int),r)]).length=d.length+1:=by simp
 have g4:=I (show Hj wk.heap.size (.slice (some (aD c4 0)) (d.length+1) z) (d++ [((f:Int),r)]) m7 by unfold Hj;rw[U];simpa[Mz] using h1);have g5:=I (show ∀x∈d++ [((f:Int),r)],0<=x.1/\x.1<(t.fs.length:Int) from ZB l.1.dut.1 ⟨by omega,by omega⟩);have a8:=I (l.1.callX a7.1 g3.1);have g6:=I (a7.1.agr (jR.of g3.1));have b9:=g3.1.size;have v5:=l.1.bel.size;obtain⟨xa,xc,ex,-,m8⟩:=g4.1.at λx hx=>cE (g5.1 x hx) (by omega)
 rw[U]at ex;simp only[Value.slice.injEq]at ex;obtain⟨m9,-,n0⟩:=ex;have DC:=I (zAg t c V P X Q fa fc p m7 j0 o2 (o4.1.below a8.1.bel) (d++ [((f:Int),r)]) xa xc (by rw[U];have:=R.1;omega) m8);rw[U,<-m9,<-n0]at DC;obtain⟨q0,q1,q2,ql⟩:=Ev a8.1.qt;obtain⟨y0,y1,y2,y3,y4,y5,y6,y7,y8,y9,g7,g8,h0,h7,yl⟩:=Ek a8.1.qc;clear ow m5 q9 m6 h1 h2 C h4 N m8 m9 n0 l a7 c0 f9 m3;go_simp;go_wp2_with fail;refine DC.1.mono ?_;rintro e a9 ⟨sa,sn,sc,x1,x2,s1,s2,x5,x6,er,rfl,n1,n2,n3⟩;have n4:=I n1;clear n1;go_upto_if 95 with(fail)
 have c5:=Ab n3 (J a9 (Obj.cells #[.slice sa sn sc,x1,x2,.string s1,.string s2,x5,x6] 50));have s:=I (zh a9 (Obj.cells #[.slice sa sn sc,x1,x2,.string s1,.string s2,x5,x6] 50));have c6:=I (a8.1.callX g6.1 c5);have h8:=I (g6.1.agr (jR.of c5));have h9:=I (show Hj m.heap.size _ _ _ from(g4.1.call c5).base (by omega))
 have c7:=I (show er=0->LgC m.heap.size (a9.alloc (Obj.cells #[.slice sa sn sc,x1,x2,.string s1,.string s2,x5,x6] 50)) (OL t c (d++ [((f:Int),r)])) [.slice sa sn sc,.int .i64 x1,.int .i64 x2,.string s1,.string s2,.int .i64 x5,.int .i64 x6] from λe=>by
  obtain⟨q1,q2,q3⟩:=n2 e;subst q2;rw[<-zCA q1];exact⟨sa,sc,rfl,by rw[U];have:=R.1;omega,λy hy=>cE (g5.1 y hy) (by omega),(q3.call (J _ _)).base (by omega)⟩)
 clear n3 c5 n2 DC a8 g6 g4 q0 q1 q2 ql y0 y1 y2 y3 y4 y5 y6 y7 y8 y9 g7 g8 h0 h7 yl;obtain⟨lb,i4⟩:∃lb,lb=a9.heap.size:=⟨_,rfl⟩;rw[<-i4]at s;simp only[<-i4];clear i4;generalize a9.alloc (Obj.cells #[.slice sa sn sc,x1,x2,.string s1,.string s2,x5,x6] 50)=v6 at*;go_cut [2] (λlv wx=>∃D3:List Ai,Af (D3.length<=M.length+1)/\Af (D3=M++(if BB t c (d++ [((f:Int),r)])=0 then [d++ [((f:Int),r)]] else []))/\Af (zz4 m.heap.size wx lv (D3.map (OL t c)))/\Af (Rm t c V P X Q fa fc p m W tb cb (.slice va n vc) (.slice da d.length Y) d (some (aD ib B)) Z L lv wx)/\Af (Hj m.heap.size (.slice (some (aD c4 0)) (d.length+1) z) (d++ [((f:Int),r)]) wx))
 case first=>
  by_cases e0:er=0
  . have r7:(er==0)=true:=by simp[e0]
    have r8:=I (c7.1 e0);obtain⟨LL,l1,l2,l3⟩:=h8.1;have n5:=I l1;have d1:=I l2;have r9:=I l3;obtain⟨N2,c8⟩:∃n,n=M.length:=⟨_,rfl⟩;rw[List.length_map,<-c8]at l2;have n6:=I c8;have i5:=I (show BB t c (d++ [((f:Int),r)])=0 from n4.1.symm.trans e0);have r0:=D_ s.1;have rl:=Ag s.1;have n7:=c6.1.bel.size;have v7:N2<=1000000000:=by have:=b8.1;rw[<-c8]at this;have:=sE G (show 2*i+h<=24 by omega);have:=k6.1;rw[f4.1]at this;omega
    clear l1 l3 e0 c7 c8;go_wp2_with (at_builtin;refine Zw Xh n7 l2 [.slice sa sn sc,.int .i64 x1,.int .i64 x2,.string s1,.string s2,.int .i64 x5,.int .i64 x6] rfl rfl rfl rfl rfl (by simp[Value.oneCell']) (by omega) ?_;intro s0 s3 n8 hO hG hA;have s4:=I (zz4.appK (n:=N2) (by rw[List.length_map];exact n6.1.symm) n5.1 d1.1 r9.1 r8.1 hO hG);have s5:=I (show Rm t c V P X Q fa fc p m W tb cb (.slice va n vc) (.slice da d.length Y) d (some (aD ib B)) Z L (.slice (some (aD s0 0)) (N2+1) s3) n8 from c6.1.extX d1.1 (GR.app hG hA));have s6:=I (show Hj m.heap.size (.slice (some (aD c4 0)) (d.length+1) z) (d++ [((f:Int),r)]) n8 from h9.1.keepL l2 hG);clear hO hG hA)
    go_meet
    case rel=>exact⟨M++ [d++ [((f:Int),r)]],I (by rw[Gh];exact Bv _),I (by rw[iP i5.1]),I (by rw[Ii];exact s4.1),s5,s6⟩
  have r7:(er==0)=false:=by simpa using e0
  have i5:=I (show ¬ BB t c (d++ [((f:Int),r)])=0 from λh=>e0 (n4.1.trans h));clear c7 e0;go_wp2;go_meet
  case rel=>exact⟨M,I (Nat.le_succ _),I (by rw[iN i5.1,List.append_nil]),h8,c6,h9⟩
 clear h8 c6 h9 s c7;obtain⟨D3,s7,s8,i6,b0,n9⟩:=hcut;obtain⟨q0,q1,q2,ql⟩:=Ev b0.1.qt;obtain⟨y0,y1,y2,y3,y4,y5,y6,y7,y8,y9,g7,g8,h0,h7,yl⟩:=Ek b0.1.qc;obtain⟨i7,d2⟩:∃x,x=E-h:=⟨_,rfl⟩;have eh:IntKind.i64.wrap ((E:Int)-(h:Int))=(i7:Int):=by rw[wI];omega
 have F:D3.length+Mw k<=1000000000/\D3.length+Mw k<=n+pr (2*i+(h+1)) G:=by
  have a1:=b8.1;have a2:=s7.1;have a3:=HG.1;have a4:=DT (2*i+h) G;have a5:=sE G (show 2*i+h+1<=24 by omega);have a6:=k6.1;rw[f4.1]at a6;rw[show 2*i+(h+1)=2*i+h+1 by omega];omega
 have s9:=I F;have IC:=I (IH.1 (d++ [((f:Int),r)]) (.slice (some (aD c4 0)) (d.length+1) z) i7 u2 D3 wc (by rw[U];have:=R.1;omega) (by omega) F.1 b0.1.bel ⟨g5.1,.inr ⟨by simp,n9.1⟩⟩ i6.1);have t0:=I d2;clear d2 F;go_wp2_with fail;refine IC.1.mono ?_;rintro e t1 ⟨t2,rfl,o0,i8,o1⟩;obtain⟨D4,i9⟩:∃D,D=D3++extD t c a k (d++ [((f:Int),r)]) i7:=⟨_,rfl⟩;rw[<-i9]at o0 i8
 have t3:=I (show D4=D1++(List.range (h+1)).flatMap (zBJ t c a (extD t c a k) d E L[i]) by
  rw[zA8,<-List.append_assoc,<-f7.1,q4.1,<-List.append_assoc,<-s8.1,i9,t0.1])
 have t4:=I (show Rm t c V P X Q fa fc p m W tb cb (.slice va n vc) (.slice da d.length Y) d (some (aD ib B)) Z L t2 t1 from b0.1.extX i6.1.choose_spec.2.1 o1);have t5:=I i8;have t6:=I (show D4.length<=n+pr (2*i+(h+1)) G by have:=s9.1.2;omega);clear i8 o1 i6 b0 n9 i9 IC q0 q1 q2 ql y0 y1 y2 y3 y4 y5 y6 y7 y8 y9 g7 g8 h0 h7 yl eh o0;go_wp2;go_roundw
 case rel=>exact⟨h+1,D4,by omega,by go_num,t6,t3,t5,t4⟩
 case measure=>simp[intOf];omega
theorem zBz(t:At)(c:Ad)(e:Ae)(f:Nat)(g:Ae)(h:Nat)(fa:Ae)(fc:Nat)(p:Bd)(C:Wd)(D E:Value)(i:Nat->Bool):zCE t c e f g h fa fc p C D E i 0:=by
 intro d F K G j w k H l m b a;have n:=I a;obtain⟨s,u,o⟩:∃s u,F=.slice s d.length u:=by
  rcases b.2 with⟨rfl,rfl⟩|⟨_,q⟩;exact⟨none,0,rfl⟩;exact Js q
 obtain⟨v,x,r⟩:∃v x,G=.slice v j.length x:=by
  obtain⟨L,M,y,N⟩:=a;rw[List.length_map]at y;exact Js y
 subst o r;have z:((d.length:Int)==6)=true:=by simp;omega
 go_enter func33,ntmps33;go_upto_region 1 with fail
 obtain⟨A,-,-⟩:=Uy w t c e f g h fa fc p;have B:=I A;generalize (w.alloc (Ap t e f g h fa fc)).alloc (Aj c p)=W at*;go_wp2;go_ret;refine⟨_,rfl,?_,?_,GR.of _ B.1⟩;show(j++ []).length<=_;rw[List.append_nil];exact Bv _;show zz4 _ _ _ ((j++ []).map _);rw[List.append_nil];exact n.1.agr (jR.of B.1)
theorem zAY(t:At)(c:Ad)(g:Ae)(e:Nat)(h:Ae)(f:Nat)(fa:Ae)(fc:Nat)(p:Bd)(d:Wd)(b:t.zn.length<=e/\e<=2^47/\t.ai.length<=f/\f<=2^47)(i:c.cs.length<=p.cc/\p.cc<=9223372036854775807)(j:Ea d t c g h fa p)(n:t.fs.length<=12)(l m:Value)(a:Nat->Bool)(o:MayX t.fs.length a l d)(q:JAtX t c m d):∀k,zCE t c g e h f fa fc p d l m a k
 |0=>zBz t c g e h f fa fc p d l m a
 |k+1=>zBA t c g e h f fa fc p d b i j n l m k a o q (I (zAY t c g e h f fa fc p d b i j n l m a o q k))
theorem zz4.nilX(lo:Nat)(w:Wd):zz4 lo w Hn []:=⟨[],rfl,World.ownsRow_nil ..,λi h=>aB h (Nat.not_lt_zero i)⟩
theorem zB8{t:At}{c:Ad}(h:zBD t c L=0):zY t=0/\Ax c=0/\opsE t.fs.length L=0:=by
 unfold zBD at h;by_cases e:Jn t c=0;rw[iN (not_not_intro e)]at h;obtain⟨a,b⟩:=kT e;exact⟨a,b,h⟩;rw[iP e]at h;exact aB h e
def EnuX(t:At)(c:Ad)(L:LI)(hd:Nat)(w:Wd)(e:Ending)(w':Wd):Prop:=∃(v:Value) (er:Int) (Ls:List Ai) (lo:Nat),e=.returned (.tuple #[v,er])/\zz4 lo w' v (Ls.map (OL t c))/\Ls.length<=2000/\(er=0->Ls=extD t c (λj=>decide ((j:Int)∈L)) 6 [] hd/\zY t=0/\Ax c=0/\w.heap.size<=lo)/\(er≠0->Ls= [])/\
 (zBD t c L=0->totN t.fs.length (hd+1) 6<=20000->(extD t c (λj=>decide ((j:Int)∈L)) 6 [] hd).length<=2000->er=0)/\Below w.heap.size w w'
theorem zCs(t:At)(c:Ad)(n:Ae)(d:Nat)(o:Ae)(i:Nat)(fa:Ae)(fc:Nat)(p:Bd)(w:Wd)(l:t.zn.length<=d/\d<=140737488355328/\t.ai.length<=i/\i<=140737488355328)(M:c.cs.length<=p.cc/\p.cc<=9223372036854775807)(N:Ea w t c n o fa p)(hN:t.fs.length<=12)(L:LI)(la:Ae)(lc:Nat)(hL:Al RT.int w la L)(hl:L.length<=140737488355328)(G:Nat)(P:G<=6):
 Calls prog 7 #[Az t n d o i fa fc,Ay c p,.slice la L.length lc,G] w (EnuX t c L G w):=by
 try delta Ay Az
 have q:=I N;have HL:=I hL;clear N hL;go_enter func7,ntmps7
 go_wp2_with fail;obtain⟨hB,r,s⟩:=Uy w t c n d o i fa fc p;have HB:=I hB;obtain⟨tb,y⟩:∃tb,tb=w.heap.size:=⟨_,rfl⟩;obtain⟨cb,z⟩:∃cb,cb=w.heap.size+1:=⟨_,rfl⟩;rw[<-z]at s;rw[<-y]at r;simp only[<-z];simp only[<-y];have QT:=I r;have QC:=I s;clear z y hB r s;generalize (w.alloc (Ap t n d o i fa fc)).alloc (Aj c p)=W at*;refine(zBC t c n d o i fa fc p W l M (q.1.below HB.1) L la lc (HL.1.below HB.1) hl G P).mono ?_;rintro e w1 ⟨kk,er,rfl,Q,R,B1⟩;have B:=I Q;have S:=I R;clear Q R;have a:=jS HB B1;have C:=jT QT B1;have T:=jT QC B1;clear B1 HB QT QC;by_cases H:er=0
 rotate_left
 . have e1:(er !=0)=true:=by simpa using H
   have U:=I H;clear H;go_wp2;go_ret2;exact⟨_,_, [],0,rfl,zz4.nilX ..,Bg _,(λh=>aB h U.1),(λ_=>rfl),(λh _ _=>aB (B.1.trans h) U.1),a.1⟩
 have a8:=I (show zBD t c L=0 from B.1.symm.trans H);obtain⟨hT,hC,hO⟩:=zB8 a8.1;have V:=I hT;have a9:=I hC;have b0:=I hO;have b1:=I (S.1 H);subst H;clear S B hT hC hO;by_cases hk:(20000:Int)<kk
 . have b2:=I hk;go_wp2;go_ret2;exact⟨_,_, [],0,rfl,zz4.nilX ..,Bg _,(λh=>aB h (by decide)),(λ_=>rfl),(λ_ h _=>aB b2.1 (by have:=b1.1.2;omega)),a.1⟩
 obtain⟨x0,x1,x2,xl⟩:=Ev C.1;go_wp2_with fail;refine(zAB _ _ fa t.fs.length fc L la lc _ (HL.1.below a.1) hl (by omega)).mono ?_;rintro e w2 ⟨mv,b6,rfl,Q,X,-,B2⟩;have hM:=X (Q.trans b0.1);clear Q X;have Y:=jS a B2;have b3:=jT C B2;have b4:=jT T B2;have HM:=I hM;obtain⟨ma,mc,rfl,-⟩:=hM;clear x0 x1 x2 xl B2 a C T HL hk;go_wp2_with fail;refine' lK [⟨34, [],.kn _⟩,⟨35, [],.kn _⟩,⟨36, [],.kn _⟩,⟨37, [],.kn _⟩,⟨38, [],.kn _⟩,⟨39, [37,38],.ow (JAtX t c) (λ_ _ _=>JAtX.below)⟩,⟨40, [],.kn _⟩] [3,4,5,12] [34,35,36,39,40] (λ_ h=>aI (Ev (Ac h b3.1)) (Ek (Ac h b4.1))) ?h2 ?c2 ?f2
 case h2=>
  intro u;simp only[Df,Jm,↓reduceIte,Nat.reduceEqDiff];intros
  and_intros
  all_goals try (first|trivial|(intros;refine Fy (by assumption) ?_;go_simp <;> rfl))
  intro A w1 e Z g f0 f1 K k;go_simp;refine(zAD t c n d o i fa fc p w1 V.1 (q.1.below (Ab Y.1 Z)).f).mono ?_;rintro e' w2 ⟨v,rfl,h1,h2⟩;exact k.1 _ _ ⟨h2,h1⟩
 case c2=>kernel_rfl
 intro u w3 Z;simp only[Df,Hu,Jm,Act.put,O,↓reduceIte,Nat.reduceEqDiff];intro a0 a1 a2 hj a3;rw[a0,a1,a2,a3];have D:=jS Y Z;have HE:=I (zAY t c n d o i fa fc p w3 l M (q.1.below D.1) hN (.slice ma t.fs.length mc) (u 39) (λj=>decide ((j:Int)∈L)) (HM.1.below Z) hj 6 [] (.slice none 0 0) G (.slice none 0 0) [] w3 rfl P (by decide) (An _ _) ⟨(λx hx=>by cases hx),.inl ⟨rfl,rfl⟩⟩ (zz4.nilX ..));obtain⟨na,nc,hu,-⟩:=hj;rw[hu]at HE ⊢;clear a0 a1 a2 a3 Z hu;go_simp;refine HE.1.mono ?_;rintro e w4 ⟨v4,rfl,-,b,a4⟩;rw[List.nil_append]at b;obtain⟨Ls,E⟩:∃Ls,Ls=extD t c (λj=>decide ((j:Int)∈L)) 6 [] G:=⟨_,rfl⟩;rw[<-E]at b;have a5:=I E;obtain⟨m4,F⟩:∃m,m=Ls.length:=⟨_,rfl⟩;have a6:=I F;have b5:=I b;have a7:=jS D (rW a4.1 rfl);obtain⟨va,vc,rfl⟩:∃va vc,v4=.slice va m4 vc:=by
  obtain⟨LL,h1,h2,h3⟩:=b;rw[List.length_map,<-F]at h2;exact Js h2
 clear b a4 HE E F;by_cases hm:(2000:Int)<m4
 . have HH:=I hm;go_wp2;go_ret2;exact⟨_,_, [],0,rfl,zz4.nilX ..,Bg _,(λh=>aB h (by decide)),(λ_=>rfl),(λ_ _ h=>aB HH.1 (by rw[<-a5.1]at h;have:=a6.1;omega)),a7.1⟩
 have HH:=I (show m4<=2000 by omega);go_wp2;go_ret2;exact⟨_,_,Ls,_,rfl,b5.1,(by have:=a6.1;have:=HH.1;omega),(λ_=>⟨a5.1,V.1,a9.1,D.1.size⟩),(λh=>aB rfl h),(λ_ _ _=>rfl),a7.1⟩
end Go.Proofs.YtelojoopofolpaaGreat
