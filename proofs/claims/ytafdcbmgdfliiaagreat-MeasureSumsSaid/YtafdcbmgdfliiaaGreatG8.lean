/- a part of the proof -/
import Derived.Deep.DrawnRows
import Derived.Test.YtafdcbmgdfliiaaGreatG7
import Derived.Test.YtafdcbmgdfliiaaGreatGB
set_option linter.all false
set_option maxRecDepth 100000
set_option maxHeartbeats 3000000
namespace Go.Proofs.YtafdcbmgdfliiaaGreat
open Go.RowKit Go.Sort Go.Proofs.Tryz
variable {w w':Wd}{B a b c:Nat}{T:TypeId}{o o' x:Obj}
theorem Al.of_block{A:Type}{r:RT A}{C:Array Value}{f:Nat×Nat}(c:w.heap[b]?=some (.cells C T f))(l:List A)(h:∀i (hi:i<l.length),∃a,(∀j (hj:j<a.length),C[i*r.n+j]?=some a[j])/\r.rep w a l[i]):Al r w (some (aD b 0)) l:=by
 refine .inr ⟨b,0,rfl,Ag c,λi hi=>?_⟩;have⟨a,d,e⟩:=h i hi;exact⟨a,λj hj=>by grind[zm],e⟩
def rI:List (Int×Int):= [(1441500,120),(1444000,60)]
def qZ:List (Int×Int):= [(1442900,-240)]
def bO:List Cy:= [⟨⟨#[117,116,99]⟩,0, []⟩,⟨⟨#[111,115,108,111]⟩,60,rI⟩,⟨⟨#[121,111,114,107]⟩,-300,qZ⟩]
def bX:List Bh:= [⟨⟨#[65,65,65]⟩,⟨#[117,116,99]⟩⟩,⟨⟨#[66,66,66]⟩,⟨#[111,115,108,111]⟩⟩,⟨⟨#[67,67,67]⟩,⟨#[121,111,114,107]⟩⟩]
def cZ:Ft:=⟨⟨#[88,49]⟩,⟨#[65,65,65]⟩,⟨#[66,66,66]⟩,10560,10620,⟨#[98,55,51,55]⟩,0,0,0⟩
def dA:Ft:=⟨⟨#[88,50]⟩,⟨#[66,66,66]⟩,⟨#[65,65,65]⟩,10665,10740,⟨#[98,55,51,55]⟩,0,0,0⟩
def exT:At:=⟨bO,bX, [cZ,dA]⟩
def My:Ad:=⟨60,30,40,1440,2880,0,0, [], [], [], [], [], [],0⟩
def Tz:Ai:= [(0,false),(1,false)]
def fQ:Bd:=⟨none,0,none,0,none,0,none,0,none,0,none,0⟩
theorem Xl(w:Wd)(B:Nat):Kb B w My fQ where
 cs:=⟨by simp[My],.inl rfl⟩
 rs:=⟨by simp[My],.inl rfl⟩
 ks:=⟨by simp[My],.inl rfl⟩
 xs:=by
  exact⟨0,0,λh=>aB rfl h,.nil _ _⟩
 creditN:=by simp[My]
 creditF:=λx hx=>by simp[My]at hx
 ls:=⟨by simp[My],.inl rfl⟩
 oz:=⟨by simp[My],.inl rfl⟩
theorem Xq:zY exT=0:=by decide+kernel
theorem Xm:Ax My=0:=by decide+kernel
theorem Xn:Cc exT My Tz=0:=by decide+kernel
def qU(w:Wd)(x:Int×Int)(a:(Lit.int .i64 x.1).wf=true)(b:(Lit.int .i64 x.2).wf=true):Sa.rep w [Bn x.1,Bn x.2] x:=⟨[_], [_],rfl,⟨rfl,a⟩,rfl,b⟩
structure Pg(w:Wd)(s1 s2 b:Nat):Prop where
 q0:w.heap[s1]?=some (.cells #[Bn 1441500,Bn 120,Bn 1444000,Bn 60] 198 (0,0))
 q1:w.heap[s2]?=some (.cells #[Bn 1442900,Bn (-240)] 198 (0,0))
 q2:w.heap[b]?=some (.cells #[.string ⟨#[117,116,99]⟩,Bn 0,.slice none 0 0,.string ⟨#[111,115,108,111]⟩,Bn 60,.slice (some (aD s1 0)) 2 2,.string ⟨#[121,111,114,107]⟩,Bn (-300),.slice (some (aD s2 0)) 1 1] 168 (0,0))
def Tl(w:Wd)(b:Nat):Prop:=w.heap[b]?=some (.cells #[.string ⟨#[65,65,65]⟩,.string ⟨#[117,116,99]⟩,.string ⟨#[66,66,66]⟩,.string ⟨#[111,115,108,111]⟩,.string ⟨#[67,67,67]⟩,.string ⟨#[121,111,114,107]⟩] 170 (0,0))
theorem Pg.at(h:Pg w a c b):Al Nc w (some (aD b 0)) bO:=by
 refine Al.of_block h.q2 bO (λi hi=>?_);rcases i with _|_|_|i;exact⟨[B_ ⟨#[117,116,99]⟩,Bn 0,Ls],λj hj=>by grind,none,0,rfl,Jr rfl,rfl,Jr rfl,.inl rfl⟩;refine⟨[B_ ⟨#[111,115,108,111]⟩,Bn 60,Kx a 0 2 2],λj hj=>by rcases j with _|_|_|j <;> first|rfl|grind,some (aD a 0),2,rfl,Jr rfl,rfl,Jr rfl,?_⟩;refine Al.of_block h.q0 rI (λi hi=>?_);rcases i with _|_|i;exact⟨[Bn 1441500,Bn 120],λj hj=>by grind,qU _ (1441500,120) rfl rfl⟩;exact⟨[Bn 1444000,Bn 60],λj hj=>by rcases j with _|_|j <;> first|rfl|grind,qU _ (1444000,60) rfl rfl⟩;simp[rI]at hi;omega;refine⟨[B_ ⟨#[121,111,114,107]⟩,Bn (-300),Kx c 0 1 1],λj hj=>by rcases j with _|_|_|j <;> first|rfl|grind,some (aD c 0),1,rfl,Jr rfl,rfl,Jr rfl,?_⟩;refine Al.of_block h.q1 qZ (λi hi=>?_);rcases i with _|i;exact⟨[Bn 1442900,Bn (-240)],λj hj=>by simp_all,qU _ (1442900,-240) rfl rfl⟩;all_goals grind[qZ,bO]
theorem Tl.at(h:Tl w b):Al Mk w (some (aD b 0)) bX:=by
 refine Al.of_block h bX (λi hi=>?_);rcases i with _|_|_|i;exact⟨[B_ ⟨#[65,65,65]⟩,B_ ⟨#[117,116,99]⟩],λj hj=>by grind,rfl,Jr rfl,Jr rfl⟩;exact⟨[B_ ⟨#[66,66,66]⟩,B_ ⟨#[111,115,108,111]⟩],λj hj=>by rcases j with _|_|j <;> first|rfl|grind,rfl,Jr rfl,Jr rfl⟩;exact⟨[B_ ⟨#[67,67,67]⟩,B_ ⟨#[121,111,114,107]⟩],λj hj=>by rcases j with _|_|j <;> first|rfl|grind,rfl,Jr rfl,Jr rfl⟩;grind[bX]
def sQ(w:Wd):Calls prog 49 #[] w λe w'=>∃s1 s2 b,e=.returned (Kx b 0 3 3)/\(w.heap.size<=s1/\w.heap.size<=s2/\w.heap.size<=b)/\Pg w' s1 s2 b/\Bw w w':=by
 go_in;go_wp2;go_ret;have d:=Ab (Ab (J w jR) (J _ jW)) (J _ (Obj.cells #[B_ ⟨#[117,116,99]⟩,Bn 0,Ls,B_ ⟨#[111,115,108,111]⟩,Bn 60,Kx w.heap.size 0 2 2,B_ ⟨#[121,111,114,107]⟩,Bn (-300),Kx (w.heap.size+1) 0 1 1] 168));have f:=zd (o':=Obj.cells #[B_ ⟨#[117,116,99]⟩,Bn 0,Ls,B_ ⟨#[111,115,108,111]⟩,Bn 60,Kx w.heap.size 0 2 2,B_ ⟨#[121,111,114,107]⟩,Bn (-300),Kx (w.heap.size+1) 0 1 1] 168) (zd (o':=jW) (zh w jR));have a:=zd (o':=Obj.cells #[B_ ⟨#[117,116,99]⟩,Bn 0,Ls,B_ ⟨#[111,115,108,111]⟩,Bn 60,Kx w.heap.size 0 2 2,B_ ⟨#[121,111,114,107]⟩,Bn (-300),Kx (w.heap.size+1) 0 1 1] 168) (zh (w.alloc jR) jW);have c:=zh ((w.alloc jR).alloc jW) (Obj.cells #[B_ ⟨#[117,116,99]⟩,Bn 0,Ls,B_ ⟨#[111,115,108,111]⟩,Bn 60,Kx w.heap.size 0 2 2,B_ ⟨#[121,111,114,107]⟩,Bn (-300),Kx (w.heap.size+1) 0 1 1] 168);rw[zr]at a;rw[zr,zr]at c;exact⟨w.heap.size,w.heap.size+1,w.heap.size+1+1,rfl,by omega,⟨f,a,c⟩,d⟩
def sM(w:Wd):Calls prog 50 #[] w λe w'=>∃b,e=.returned (Kx b 0 3 3)/\w.heap.size<=b/\Tl w' b/\Bw w w':=by
 go_in;go_wp2;go_ret;exact⟨w.heap.size,rfl,Bv _,zh w _,J _ _⟩
def zA(a:Bw w w')(q:w.heap[b]?=some o):w'.heap[b]?=some o:=(a.block b (Ag q)).trans q
def Pg.keep(h:Pg w a c b)(d:∀j o,j=a\/j=c\/j=b->w.heap[j]?=some o->w'.heap[j]?=some o):Pg w' a c b:=⟨d _ _ (.inl rfl) h.q0,d _ _ (.inr (.inl rfl)) h.q1,d _ _ (.inr (.inr rfl)) h.q2⟩
def stN(b:Nat):Nat->LV->Wd->Wd
 |_, [],w=>w
 |i,v::l,w=>stN b (i+1) l (w.setCell (aD b i) v)
def Tt(h:B<=b){a:Wd}:∀(l:LV) (i:Nat) (w:Wd),Below B a w->Below B a (stN b i l w)
 |[],_,_,hb=>hb
 |v::l,i,w,hb=>Tt h l (i+1) _ (hb.setCell (p:=aD b i) h v)
def lG{x:Nat}(h:x≠b):∀(l:LV) (i:Nat) (w:Wd),(stN b i l w).heap[x]?=w.heap[x]?
 |[],_,_=>rfl
 |v::l,i,w=>(lG h l (i+1) _).trans (Below.heap_setCell w (aD b i) v x h)
theorem DP:∀(l:LV) (i:Nat) (w:Wd),(stN b i l w).heap.size=w.heap.size
 |[],_,_=>rfl
 |v::l,i,w=>(DP l (i+1) _).trans (by simp_all)
def Pr:∀(l pre old:LV) (w:Wd),old.length=l.length->w.heap[b]?=some (.cells (pre++old).toArray T (0,0))->(stN b pre.length l w).heap[b]?=some (.cells (pre++l).toArray T (0,0))
 |[],pre,old,w,ho,h=>by
  obtain rfl:=List.eq_nil_of_length_eq_zero ho;exact h
 |v::l,pre, [],w,ho,h=>by simp at ho
 |v::l,pre,o::old,w,ho,h=>by
  have q:(w.setCell (aD b pre.length) v).heap[b]?=some (.cells ((pre++ [v])++old).toArray T (0,0)):=by
   rw[zg h];simp
  have r:=Pr l (pre++ [v]) old _ (by simpa using ho) q;simpa[stN] using r
abbrev oX1:Obj:=.cells #[.string ⟨#[88,49]⟩,.string ⟨#[65,65,65]⟩,.string ⟨#[66,66,66]⟩,.int .i64 10560,.int .i64 10620,.string ⟨#[98,55,51,55]⟩,.int .i64 0,.int .i64 0,.int .i64 0] 122
abbrev oX2:Obj:=.cells #[.string ⟨#[88,50]⟩,.string ⟨#[66,66,66]⟩,.string ⟨#[65,65,65]⟩,.int .i64 10665,.int .i64 10740,.string ⟨#[98,55,51,55]⟩,.int .i64 0,.int .i64 0,.int .i64 0] 122
abbrev oXS:Obj:=.cells #[.string ⟨#[88,49]⟩,.string ⟨#[65,65,65]⟩,.string ⟨#[66,66,66]⟩,.int .i64 10560,.int .i64 10620,.string ⟨#[98,55,51,55]⟩,.int .i64 0,.int .i64 0,.int .i64 0,.string ⟨#[88,50]⟩,.string ⟨#[66,66,66]⟩,.string ⟨#[65,65,65]⟩,.int .i64 10665,.int .i64 10740,.string ⟨#[98,55,51,55]⟩,.int .i64 0,.int .i64 0,.int .i64 0] 122
def B2(o o':Obj)(w:Wd)(b c:Nat):Prop:=w.heap[b]?=some o/\w.heap[c]?=some o'
def B2.al(h:B2 o o' w b c):B2 o o' (w.alloc x) b c:=⟨zd h.1,zd h.2⟩
def B2.ald(h:B2 o o' w b c):B2 o o' (w.alloc x).drew b c:=B2.al h
def B2.go(a:Bw w w')(h:B2 o o' w b c):B2 o o' w' b c:=⟨zA a h.1,zA a h.2⟩
def B2.set{p i:Nat}{v:Value}(n:b≠p/\c≠p)(h:B2 o o' w b c):B2 o o' (w.setCell (aD p i) v) b c:=⟨(Below.heap_setCell _ _ _ _ n.1).trans h.1,(Below.heap_setCell _ _ _ _ n.2).trans h.2⟩
def Rs(h:B2 oX1 oX2 w b c):w.cell? (aD b 0)=some (B_ ⟨#[88,49]⟩)/\w.cell? (aD b 1)=some (B_ ⟨#[65,65,65]⟩)/\w.cell? (aD b 2)=some (B_ ⟨#[66,66,66]⟩)/\w.cell? (aD b 3)=some (Bn 10560)/\w.cell? (aD b 4)=some (Bn 10620)/\w.cell? (aD b 5)=some (B_ ⟨#[98,55,51,55]⟩)/\w.cell? (aD b 6)=some (Bn 0)/\w.cell? (aD b 7)=some (Bn 0)/\w.cell? (aD b 8)=some (Bn 0)/\w.cell? (aD c 0)=some (B_ ⟨#[88,50]⟩)/\w.cell? (aD c 1)=some (B_ ⟨#[66,66,66]⟩)/\w.cell? (aD c 2)=some (B_ ⟨#[65,65,65]⟩)/\w.cell? (aD c 3)=some (Bn 10665)/\w.cell? (aD c 4)=some (Bn 10740)/\w.cell? (aD c 5)=some (B_ ⟨#[98,55,51,55]⟩)/\w.cell? (aD c 6)=some (Bn 0)/\w.cell? (aD c 7)=some (Bn 0)/\w.cell? (aD c 8)=some (Bn 0):=
 ⟨EE 0 h.1 rfl,EE 1 h.1 rfl,EE 2 h.1 rfl,EE 3 h.1 rfl,EE 4 h.1 rfl,EE 5 h.1 rfl,EE 6 h.1 rfl,EE 7 h.1 rfl,EE 8 h.1 rfl,EE 0 h.2 rfl,EE 1 h.2 rfl,EE 2 h.2 rfl,EE 3 h.2 rfl,EE 4 h.2 rfl,EE 5 h.2 rfl,EE 6 h.2 rfl,EE 7 h.2 rfl,EE 8 h.2 rfl⟩
def zss(w:Wd)(e:Ending)(w':Wd):Prop:=∃za aa fa:Option Addr,e=.returned (.tuple #[.agg #[.slice za 3 3,.slice aa 3 3,.slice fa 2 2],.agg #[Bn 60,Bn 30,Bn 40,Bn 1440,Bn 2880,Bn 0,Bn 0,.slice none 0 0,.slice none 0 0,.slice none 0 0,.slice none 0 0,.slice none 0 0,.slice none 0 0,Bn 0]])/\Ea w' exT My za aa fa fQ/\Below w.heap.size w w'
theorem Xs(h:w.heap[b]?=some oXS):Al Hi w (some (aD b 0)) [cZ,dA]:=by
 refine Al.of_block h [cZ,dA] (λi hi=>?_);rcases i with _|_|i;exact⟨[B_ ⟨#[88,49]⟩,B_ ⟨#[65,65,65]⟩,B_ ⟨#[66,66,66]⟩,Bn 10560,Bn 10620,B_ ⟨#[98,55,51,55]⟩,Bn 0,Bn 0,Bn 0],λj hj=>by rcases j with _|_|_|_|_|_|_|_|_|j <;> first|rfl|(simp at hj;omega),rfl,⟨Jr rfl,Jr rfl,Jr rfl,Jr rfl⟩,rfl,rfl⟩;exact⟨[B_ ⟨#[88,50]⟩,B_ ⟨#[66,66,66]⟩,B_ ⟨#[65,65,65]⟩,Bn 10665,Bn 10740,B_ ⟨#[98,55,51,55]⟩,Bn 0,Bn 0,Bn 0],λj hj=>by rcases j with _|_|_|_|_|_|_|_|_|j <;> first|rfl|(simp at hj;omega),rfl,⟨Jr rfl,Jr rfl,Jr rfl,Jr rfl⟩,rfl,rfl⟩;grind
abbrev oXT:Obj:=.cells #[.slice none 0 0,.slice none 0 0,.slice none 0 0] 27
abbrev oXC:Obj:=.cells #[.int .i64 0,.int .i64 0,.int .i64 0,.int .i64 0,.int .i64 0,.int .i64 0,.int .i64 0,.slice none 0 0,.slice none 0 0,.slice none 0 0,.slice none 0 0,.slice none 0 0,.slice none 0 0,.int .i64 0] 35
abbrev oXU(z a f:Value):Obj:=.cells #[z,a,f] 27
abbrev oXD:Obj:=.cells #[.int .i64 60,.int .i64 30,.int .i64 40,.int .i64 1440,.int .i64 2880,.int .i64 0,.int .i64 0,.slice none 0 0,.slice none 0 0,.slice none 0 0,.slice none 0 0,.slice none 0 0,.slice none 0 0,.int .i64 0] 35
def stX(b0 b1:Nat)(z a f:Value)(w:Wd):Wd:=stN b1 0 [Bn 60,Bn 30,Bn 40,Bn 1440,Bn 2880,Bn 0,Bn 0,.slice none 0 0,.slice none 0 0,.slice none 0 0,.slice none 0 0,.slice none 0 0,.slice none 0 0,Bn 0] (stN b0 0 [z,a,f] w)
def Xr{d:Wd}(z a f:Value)(e:b≠c)(r:B2 oXT oXC d b c):(∀j o,j≠b->j≠c->d.heap[j]?=some o->(stX b c z a f d).heap[j]?=some o)/\B2 (oXU z a f) oXD (stX b c z a f d) b c/\(stX b c z a f d).heap.size=d.heap.size/\∀(B:Nat) (w0:Wd),Below B w0 d->B<=b->B<=c->Below B w0 (stX b c z a f d):=
 ⟨λj o h0 h1 h=>(lG h1 _ _ _).trans ((lG h0 _ _ _).trans h),⟨(lG e _ _ _).trans (Pr [z,a,f] [] [Ls,Ls,Ls] _ rfl r.1),Pr [Bn 60,Bn 30,Bn 40,Bn 1440,Bn 2880,Bn 0,Bn 0,Ls,Ls,Ls,Ls,Ls,Ls,Bn 0] [] [Bn 0,Bn 0,Bn 0,Bn 0,Bn 0,Bn 0,Bn 0,Ls,Ls,Ls,Ls,Ls,Ls,Bn 0] _ rfl ((lG (Ne.symm e) _ _ _).trans r.2)⟩,(DP _ _ _).trans (DP _ _ _),λB w0 h h0 h1=>Tt h1 _ _ _ (Tt h0 _ _ _ h)⟩
def zDV{G:Wd}{a:Act}{y z A f g h:Nat}(C:a.defers= [])(D:a.tmps[0]?.getD undef=Ua y 0)(E:a.tmps[1]?.getD undef=Ua z 0)(r:B2 (oXU (Kx f 0 3 3) (Kx g 0 3 3) (Kx h 0 2 2)) oXD G y z)(F:Bw w G)(H:Pg G A B f)(K:Tl G g)(L:G.heap[h]?=some oXS):bodyPost prog Tryz.f37 (zss w) .ret a G:=by
 have i:=zw r.1;have j:=zu r.1;have k:=zC r.1;have l:=zw r.2;have m:=zu r.2;have n:=zC r.2;have o:=Hk r.2;have p:=Ks r.2;have q:=Lg r.2;have s:=Mf r.2;have t:=Ic r.2;have u:=Jg r.2;have x:=Mg r.2;have b:=Ol r.2;have c:=Qk r.2;have d:=Qj r.2;have e:=Ui r.2;exact bP (v:=.tuple #[.agg #[Kx f 0 3 3,Kx g 0 3 3,Kx h 0 2 2],.agg #[Bn 60,Bn 30,Bn 40,Bn 1440,Bn 2880,Bn 0,Bn 0,Ls,Ls,Ls,Ls,Ls,Ls,Bn 0]]) (by simp[results,results37,go_sem,D,E,i,j,k,l,m,n,o,p,q,s,t,u,x,b,c,d,e]) C ⟨_,_,_,rfl,⟨H.at,K.at,Xs L,Xl _ _⟩,F⟩
def al4(w:Wd)(a b c d:Obj):∃b0 b1 b2 b3,b0=w.heap.size/\b1=w.heap.size+1/\b2=w.heap.size+1+1/\b3=w.heap.size+1+1+1/\b0≠b1/\(b2≠b0/\b3≠b0)/\(b2≠b1/\b3≠b1)/\(w.heap.size<=b0/\w.heap.size<=b1)/\B2 a b ((((w.alloc a).alloc b).alloc c).alloc d) b0 b1/\B2 c d ((((w.alloc a).alloc b).alloc c).alloc d) b2 b3/\Bw w ((((w.alloc a).alloc b).alloc c).alloc d):=
 ⟨_,_,_,_,rfl,rfl,rfl,rfl,by omega,by omega,by omega,by omega,⟨zd (zd (zd (zh _ _))),by
  have h:=zd (o':=d) (zd (o':=c) (zh (w.alloc a) b));rwa [zr]at h⟩,⟨by
  have h:=zd (o':=d) (zh ((w.alloc a).alloc b) c);rwa [zr,zr]at h,by
  have h:=zh (((w.alloc a).alloc b).alloc c) d;rwa [zr,zr,zr]at h⟩,Ab (Ab (Ab (J _ _) (J _ _)) (J _ _)) (J _ _)⟩
def LN(w:Wd):Calls prog 37 #[] w (zss w):=by
 go_in;go_upto_region 3 with fail
 have⟨i,c,v,x,e0,e1,e2,e3,F,N,h3,t,D,X,B0⟩:=al4 w jL jA oX1 oX2;simp only[<-e3];simp only[<-e2];simp only[<-e1];simp only[<-e0];clear e0 e1 e2 e3;have H:=I B0;clear B0;generalize (((w.alloc jL).alloc jA).alloc oX1).alloc oX2=W at*;have a4:B2 oX1 oX2 W.drew v x:=X;go_region_held3 (λw'=>w'.cell? (aD v 0)=some (B_ ⟨#[88,49]⟩)/\w'.cell? (aD v 1)=some (B_ ⟨#[65,65,65]⟩)/\w'.cell? (aD v 2)=some (B_ ⟨#[66,66,66]⟩)/\w'.cell? (aD v 3)=some (Bn 10560)/\w'.cell? (aD v 4)=some (Bn 10620)/\w'.cell? (aD v 5)=some (B_ ⟨#[98,55,51,55]⟩)/\w'.cell? (aD v 6)=some (Bn 0)/\w'.cell? (aD v 7)=some (Bn 0)/\w'.cell? (aD v 8)=some (Bn 0)/\w'.cell? (aD x 0)=some (B_ ⟨#[88,50]⟩)/\w'.cell? (aD x 1)=some (B_ ⟨#[66,66,66]⟩)/\w'.cell? (aD x 2)=some (B_ ⟨#[65,65,65]⟩)/\w'.cell? (aD x 3)=some (Bn 10665)/\w'.cell? (aD x 4)=some (Bn 10740)/\w'.cell? (aD x 5)=some (B_ ⟨#[98,55,51,55]⟩)/\w'.cell? (aD x 6)=some (Bn 0)/\w'.cell? (aD x 7)=some (Bn 0)/\w'.cell? (aD x 8)=some (Bn 0))
  (with_reducible (exact Rs (by repeat (first|assumption|refine B2.ald ?_|refine B2.al ?_|refine B2.set (by assumption) ?_))))
  (first|(go_at_call 49;refine(sQ _).mono ?_;rintro e E ⟨y,z,g,rfl,L,Y,k⟩;have p0:B2 oXT oXC E i c:=(by first|exact B2.go k D|exact B2.go k (B2.al D));have p2:B2 oX1 oX2 E v x:=(by first|exact B2.go k X|exact B2.go k (B2.al X)))|(go_at_call 50;refine(sM _).mono ?_;rintro e w6 ⟨ab,rfl,hab,ha,hb6⟩;have f:B2 oXT oXC w6 i c:=(by first|exact B2.go hb6 p0|exact B2.go hb6 (B2.al p0));have r2:B2 oX1 oX2 w6 v x:=(by first|exact B2.go hb6 p2|exact B2.go hb6 (B2.al p2));have a5:w6.cell? (aD i 0)=some Ls:=EE 0 f.1 rfl;have a6:w6.cell? (aD i 1)=some Ls:=EE 1 f.1 rfl;have a7:w6.cell? (aD i 2)=some Ls:=EE 2 f.1 rfl;have a8:w6.cell? (aD c 0)=some (Bn 0):=EE 0 f.2 rfl;have a9:w6.cell? (aD c 1)=some (Bn 0):=EE 1 f.2 rfl;have b4:w6.cell? (aD c 2)=some (Bn 0):=EE 2 f.2 rfl;have b5:w6.cell? (aD c 3)=some (Bn 0):=EE 3 f.2 rfl;have b6:w6.cell? (aD c 4)=some (Bn 0):=EE 4 f.2 rfl;have b7:w6.cell? (aD c 5)=some (Bn 0):=EE 5 f.2 rfl;have b8:w6.cell? (aD c 6)=some (Bn 0):=EE 6 f.2 rfl;have b9:w6.cell? (aD c 7)=some Ls:=EE 7 f.2 rfl;have c0:w6.cell? (aD c 8)=some Ls:=EE 8 f.2 rfl;have c1:w6.cell? (aD c 9)=some Ls:=EE 9 f.2 rfl;have a0:w6.cell? (aD c 10)=some Ls:=EE 10 f.2 rfl;have a1:w6.cell? (aD c 11)=some Ls:=EE 11 f.2 rfl;have a2:w6.cell? (aD c 12)=some Ls:=EE 12 f.2 rfl;have a3:w6.cell? (aD c 13)=some (Bn 0):=EE 13 f.2 rfl;have z0:∀j,w6.frozen? (aD i j)=false:=λj=>zQ f.1;have z1:∀j,w6.frozen? (aD c j)=false:=λj=>zQ f.2;have l0:=Ag f.1;have l1:=Ag f.2))
 . have l:=Ab ((An _ W).drew) k;have m:=Ab l hb6;have P:=Ag D.1;have R:=Ag D.2;have s:=l.size;have A:=m.size;have B:Pg w6 y z g:=Y.keep (λj o _ h=>zA hb6 h);have S:W.heap.size<=y/\W.heap.size<=z/\W.heap.size<=g:=L;have C:∀j,j=y\/j=z\/j=g->j≠i/\j≠c:=λj hj=>by omega
   have T:W.heap.size<=ab:=Bf s hab;have⟨U,V⟩:=C_ w6.heap.size;have⟨K,Q,u,d⟩:=Xr (Kx g 0 3 3) (Kx ab 0 3 3) (Kx U 0 2 2) F f;have p:=d _ _ (Ab H.1 m) t.1 t.2;have q:Pg (stX i c (Kx g 0 3 3) (Kx ab 0 3 3) (Kx U 0 2 2) w6) y z g:=B.keep (λj o hj h=>K j o (C j hj).1 (C j hj).2 h);have r:Tl (stX i c (Kx g 0 3 3) (Kx ab 0 3 3) (Kx U 0 2 2) w6) ab:=K _ _ (by omega) (by omega) ha;have M:=zh (stX i c (Kx g 0 3 3) (Kx ab 0 3 3) (Kx U 0 2 2) w6) oXS;rw[u,<-V]at M;have b:=λa h0 h1 N=>zDV (G:=(stX i c (Kx g 0 3 3) (Kx ab 0 3 3) (Kx U 0 2 2) w6).alloc oXS) (a:=a) h0 h1 N (B2.al Q) (Ab p (J _ _)) (q.keep (λj o _ h=>zd h)) (zd r) M;subst V;simp only[stX,stN,Nat.zero_add,Nat.reduceAdd]at b;have b:=I b;clear K Q u d p q r M C T S P R s A;go_wp2_with fail;exact b.1 _ rfl rfl rfl
 . have l:=Ab ((An _ W).drew) k;have m:=Ab l (Ab (J E _) hb6);have P:=Ag D.1;have R:=Ag D.2;have s:=l.size;have A:=m.size;have B:Pg w6 y z g:=Y.keep (λj o _ h=>zA (Ab (J E _) hb6) h);have S:W.heap.size<=y/\W.heap.size<=z/\W.heap.size<=g:=L;have C:∀j,j=y\/j=z\/j=g->j≠i/\j≠c:=λj hj=>by omega
   have T:W.heap.size<=ab:=(by have Z:=hab;simp at Z;omega);have⟨K,Q,u,d⟩:=Xr (Kx g 0 3 3) (Kx ab 0 3 3) (Kx E.heap.size 0 2 2) F f;have p:=d _ _ (Ab H.1 m) t.1 t.2;have q:Pg (stX i c (Kx g 0 3 3) (Kx ab 0 3 3) (Kx E.heap.size 0 2 2) w6) y z g:=B.keep (λj o hj h=>K j o (C j hj).1 (C j hj).2 h);have r:Tl (stX i c (Kx g 0 3 3) (Kx ab 0 3 3) (Kx E.heap.size 0 2 2) w6) ab:=K _ _ (by omega) (by omega) ha;have b:=λa h0 h1 N=>zDV (a:=a) h0 h1 N Q p q r (K _ _ (by omega) (by omega) (zA hb6 (zh E _)));simp only[stX,stN,Nat.zero_add,Nat.reduceAdd]at b;have b:=I b;clear K Q u d p q r C T S P R s A;go_wp2_with fail;exact b.1 _ rfl rfl rfl
 have l:=Ab ((J W _).drew) k;have m:=Ab l hb6;have P:=Ag D.1;have R:=Ag D.2;have s:=l.size;have A:=m.size;have B:Pg w6 y z g:=Y.keep (λj o _ h=>zA hb6 h);have S:W.heap.size<=y/\W.heap.size<=z/\W.heap.size<=g:=(by have Z:=L;simp at Z;omega);have C:∀j,j=y\/j=z\/j=g->j≠i/\j≠c:=λj hj=>by omega
 have T:W.heap.size<=ab:=Bf s hab;have⟨K,Q,u,d⟩:=Xr (Kx g 0 3 3) (Kx ab 0 3 3) (Kx W.heap.size 0 2 2) F f;have p:=d _ _ (Ab H.1 m) t.1 t.2;have q:Pg (stX i c (Kx g 0 3 3) (Kx ab 0 3 3) (Kx W.heap.size 0 2 2) w6) y z g:=B.keep (λj o hj h=>K j o (C j hj).1 (C j hj).2 h);have r:Tl (stX i c (Kx g 0 3 3) (Kx ab 0 3 3) (Kx W.heap.size 0 2 2) w6) ab:=K _ _ (by omega) (by omega) ha;have b:=λa h0 h1 N=>zDV (a:=a) h0 h1 N Q p q r (K _ _ (by omega) (by omega) (zA hb6 (zA k (show(W.alloc oXS).drew.heap[W.heap.size]?=some oXS from zh W _))));simp only[stX,stN,Nat.zero_add,Nat.reduceAdd]at b;have b:=I b;clear K Q u d p q r C T S P R s A;go_wp2_with fail;exact b.1 _ rfl rfl rfl
def mI:Bo exT My Tz= [2,0,1,135,270,0,45,45,0,420,690]:=by decide+kernel
theorem EZ:Bk exT My Tz=0:=by grind[pX,Xq,Xm,Xn]
def Vg:List (BA×Int):=(zk 1).zip (Bo exT My Tz)
theorem zqy:Nh Vg ⟨#[98,108,111,99,107]⟩=(135,0):=by decide+kernel
theorem RU:Nh Vg ⟨#[115,112,97,110]⟩=(270,0):=by decide+kernel
theorem iY:Vg.length=11:=by rfl
theorem iB(N:LB)(q:LI)(h:q.length=N.length):∀k,k<=q.length->∀i,i<k->(Lv N q k)[i*2]?=some (B_ (Do (N.zip q) i).1)/\(Lv N q k)[i*2+1]?=some (Bn (Do (N.zip q) i).2)
 |0,_,i,hi=>aB hi (Nat.not_lt_zero _)
 |k+1,hk,i,hi=>by
  have a:∀m,(Lv N q m).length=m*2:=λm=>by
   induction m<;>grind[Lv]
  rw[Lv];by_cases e:i=k
  . grind[Do,Bl,Am]
  have:=iB N q h k (by omega) i (by omega);grind
theorem We.at{N:LB}{q:LI}(h:We w b N q)(e:q.length=N.length):Jk w (some (aD b 0)) (N.zip q):=by
 obtain⟨C,a,f⟩:=h;refine .inr ⟨b,0,rfl,Ag a,λi hi=>?_⟩;have c:i<q.length:=by rw[List.length_zip]at hi;omega
 have d:=iB N q e q.length (Bv _) i c;grind[zm]
theorem Xo(h:w.heap[b]?=some (.cells #[Bn 0,.bool false,Bn 1,.bool false] 104 (0,0))):Al Ei w (some (aD b 0)) Tz:=by
 refine Al.of_block h Tz (λi hi=>?_);rcases i with _|_|i;exact⟨[Bn 0,.bool false],λj hj=>by grind, [_], [_],rfl,⟨rfl,rfl⟩,rfl⟩;exact⟨[Bn 1,.bool false],λj hj=>by rcases j with _|_|j <;> first|rfl|grind, [_], [_],rfl,⟨rfl,rfl⟩,rfl⟩;grind[Tz]
def iO(w:Wd):CV 10 #[] w (.bool true):=by
 delta CV;go_in;go_wp2_with fail;refine(LN w).mono ?_;rintro e s ⟨g,i,j,rfl,y,k⟩;have z:=I y;have l:=I k;go_wp2_with fail;have a:=I (Ab (J s (Obj.cells #[CU g 3 3,CU i 3 3,CU j 2 2] 27)) (Ab (J _ jK) (J _ jU)));have t:=I (Xo (zh ((s.alloc (Obj.cells #[CU g 3 3,CU i 3 3,CU j 2 2] 27)).alloc jK) jU));rw[zr,zr]at t;have⟨u,c⟩:=aT (s.heap.size+1+1);rw[<-c]at t;simp only[<-c];generalize ((s.alloc (Obj.cells #[CU g 3 3,CU i 3 3,CU j 2 2] 27)).alloc jK).alloc jU=D at*;refine(sP exT My g 3 i 3 j 2 fQ (gI exT g i j 3 3 2 My fQ) D (z.1.below a.1) Tz (some (aD u 0)) 2 (by decide) t.1).mono ?_;rintro e E ⟨m,n⟩;have o:=I (Ab (Ab l.1 a.1) n);rcases m with⟨h,_⟩|⟨b,_,rfl,A,B⟩;exact aB EZ h;have v:=I (B.at A);have C:(Bo exT My Tz).length=11:=rfl;rw[C];go_wp2_with fail;have d:=I (tK Vg ⟨#[98,108,111,99,107]⟩ (some (aD b 0)) 11 E v.1 (by rw[iY];omega));rw[iY,zqy]at d;refine ca (d.1) λF f=>?_;have p:=I (Ab o.1 f);have q:=I (v.1.below f);go_wp2_with fail;have d:=I (tK Vg ⟨#[115,112,97,110]⟩ (some (aD b 0)) 11 F q.1 (by rw[iY];omega));rw[iY,RU]at d;refine ca (d.1) λG r=>?_;have x:=I (Ab p.1 r);go_wp2;go_ret;exact⟨rfl,x.1⟩
