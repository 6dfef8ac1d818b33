/- a part of the proof -/
import Derived.Deep.DrawnRows
import Derived.Test.YtelojoopofolpaaGreatG7
import Derived.Test.YtelojoopofolpaaGreatGB
set_option linter.all false
set_option maxRecDepth 100000
set_option maxHeartbeats 3000000
namespace Go.Proofs.YtelojoopofolpaaGreat
open Go.RowKit Go.Sort Go.Proofs.Tryz
variable {w w':Wd}{a b c:Nat}
theorem Al.of_block{A:Type}{r:RT A}{C:Array Value}{T:TypeId}{f:Nat×Nat}(c:w.heap[b]?=some (.cells C T f))(l:List A)(h:∀i (hi:i<l.length),∃a,(∀j (hj:j<a.length),C[i*r.n+j]?=some a[j])/\r.rep w a l[i]):Al r w (some (aD b 0)) l:=by
 refine .inr ⟨b,0,rfl,Ag c,λi hi=>?_⟩;obtain⟨a,d,e⟩:=h i hi;exact⟨a,λj hj=>by rw[Nat.zero_add];exact zm c (d j hj),e⟩
def rI:List (Int×Int):= [(1441500,120),(1444000,60)]
def qZ:List (Int×Int):= [(1442900,-240)]
def bO:List Cy:= [⟨⟨#[117,116,99]⟩,0, []⟩,⟨⟨#[111,115,108,111]⟩,60,rI⟩,⟨⟨#[121,111,114,107]⟩,-300,qZ⟩]
def bX:List Bh:= [⟨⟨#[65,65,65]⟩,⟨#[117,116,99]⟩⟩,⟨⟨#[66,66,66]⟩,⟨#[111,115,108,111]⟩⟩,⟨⟨#[67,67,67]⟩,⟨#[121,111,114,107]⟩⟩]
theorem qU(w:Wd)(x:Int×Int)(a:(Lit.int .i64 x.1).wf=true)(b:(Lit.int .i64 x.2).wf=true):Sa.rep w [Bn x.1,Bn x.2] x:=⟨[_], [_],rfl,⟨rfl,a⟩,rfl,b⟩
structure Pg(w:Wd)(s1 s2 b:Nat):Prop where
 q0:w.heap[s1]?=some (.cells #[.int .i64 1441500,.int .i64 120,.int .i64 1444000,.int .i64 60] 204 (0,0))
 q1:w.heap[s2]?=some (.cells #[.int .i64 1442900,.int .i64 (-240)] 204 (0,0))
 q2:w.heap[b]?=some (.cells #[.string ⟨#[117,116,99]⟩,.int .i64 0,.slice none 0 0,.string ⟨#[111,115,108,111]⟩,.int .i64 60,.slice (some (aD s1 0)) 2 2,.string ⟨#[121,111,114,107]⟩,.int .i64 (-300),.slice (some (aD s2 0)) 1 1] 165 (0,0))
def Tl(w:Wd)(b:Nat):Prop:=w.heap[b]?=some (.cells #[.string ⟨#[65,65,65]⟩,.string ⟨#[117,116,99]⟩,.string ⟨#[66,66,66]⟩,.string ⟨#[111,115,108,111]⟩,.string ⟨#[67,67,67]⟩,.string ⟨#[121,111,114,107]⟩] 167 (0,0))
theorem Pg.at(h:Pg w a c b):Al Nc w (some (aD b 0)) bO:=by
 refine Al.of_block h.q2 bO (λi hi=>?_);rcases i with _|_|_|i;exact⟨[.string ⟨#[117,116,99]⟩,Bn 0,Hn],λj hj=>by rcases j with _|_|_|j <;> first|rfl|(simp at hj;omega),none,0,rfl,Jr rfl,rfl,Jr rfl,.inl rfl⟩;refine⟨[.string ⟨#[111,115,108,111]⟩,Bn 60,Hy a 0 2 2],λj hj=>by rcases j with _|_|_|j <;> first|rfl|(simp at hj;omega),some (aD a 0),2,rfl,Jr rfl,rfl,Jr rfl,?_⟩;refine Al.of_block h.q0 rI (λi hi=>?_);rcases i with _|_|i;exact⟨[Bn 1441500,Bn 120],λj hj=>by rcases j with _|_|j <;> first|rfl|(simp at hj;omega),qU _ (1441500,120) rfl rfl⟩;exact⟨[Bn 1444000,Bn 60],λj hj=>by rcases j with _|_|j <;> first|rfl|(simp at hj;omega),qU _ (1444000,60) rfl rfl⟩;simp[rI]at hi;omega;refine⟨[.string ⟨#[121,111,114,107]⟩,Bn (-300),Hy c 0 1 1],λj hj=>by rcases j with _|_|_|j <;> first|rfl|(simp at hj;omega),some (aD c 0),1,rfl,Jr rfl,rfl,Jr rfl,?_⟩;refine Al.of_block h.q1 qZ (λi hi=>?_);rcases i with _|i;exact⟨[Bn 1442900,Bn (-240)],λj hj=>by rcases j with _|_|j <;> first|rfl|(simp at hj;omega),qU _ (1442900,-240) rfl rfl⟩;simp[qZ]at hi;simp[bO]at hi;omega
theorem Tl.at(h:Tl w b):Al Mk w (some (aD b 0)) bX:=by
 refine Al.of_block h bX (λi hi=>?_);rcases i with _|_|_|i;exact⟨[.string ⟨#[65,65,65]⟩,.string ⟨#[117,116,99]⟩],λj hj=>by rcases j with _|_|j <;> first|rfl|(simp at hj;omega),rfl,Jr rfl,Jr rfl⟩;exact⟨[.string ⟨#[66,66,66]⟩,.string ⟨#[111,115,108,111]⟩],λj hj=>by rcases j with _|_|j <;> first|rfl|(simp at hj;omega),rfl,Jr rfl,Jr rfl⟩;exact⟨[.string ⟨#[67,67,67]⟩,.string ⟨#[121,111,114,107]⟩],λj hj=>by rcases j with _|_|j <;> first|rfl|(simp at hj;omega),rfl,Jr rfl,Jr rfl⟩;simp[bX]at hi;omega
theorem sQ(w:Wd):Calls prog 55 #[] w λe w'=>∃s1 s2 b,e=.returned (Hy b 0 3 3)/\(w.heap.size<=s1/\w.heap.size<=s2/\w.heap.size<=b)/\Pg w' s1 s2 b/\Bw w w':=by
 go_in;go_wp2;go_ret;have d:=Ab (Ab (J w jL) (J _ jN)) (J _ (Obj.cells #[.string ⟨#[117,116,99]⟩,Bn 0,Hn,.string ⟨#[111,115,108,111]⟩,Bn 60,Hy w.heap.size 0 2 2,.string ⟨#[121,111,114,107]⟩,Bn (-300),Hy (w.heap.size+1) 0 1 1] 165));have f:=zd (o':=Obj.cells #[.string ⟨#[117,116,99]⟩,Bn 0,Hn,.string ⟨#[111,115,108,111]⟩,Bn 60,Hy w.heap.size 0 2 2,.string ⟨#[121,111,114,107]⟩,Bn (-300),Hy (w.heap.size+1) 0 1 1] 165) (zd (o':=jN) (zh w jL));have a:=zd (o':=Obj.cells #[.string ⟨#[117,116,99]⟩,Bn 0,Hn,.string ⟨#[111,115,108,111]⟩,Bn 60,Hy w.heap.size 0 2 2,.string ⟨#[121,111,114,107]⟩,Bn (-300),Hy (w.heap.size+1) 0 1 1] 165) (zh (w.alloc jL) jN);have c:=zh ((w.alloc jL).alloc jN) (Obj.cells #[.string ⟨#[117,116,99]⟩,Bn 0,Hn,.string ⟨#[111,115,108,111]⟩,Bn 60,Hy w.heap.size 0 2 2,.string ⟨#[121,111,114,107]⟩,Bn (-300),Hy (w.heap.size+1) 0 1 1] 165);rw[zr]at a;rw[zr,zr]at c;exact⟨w.heap.size,w.heap.size+1,w.heap.size+1+1,rfl,by omega,⟨f,a,c⟩,d⟩
theorem sM(w:Wd):Calls prog 56 #[] w λe w'=>∃b,e=.returned (Hy b 0 3 3)/\w.heap.size<=b/\Tl w' b/\Bw w w':=by
 go_in;go_wp2;go_ret;exact⟨w.heap.size,rfl,Bv _,zh w _,J _ _⟩
theorem zA{o:Obj}(a:Bw w w')(q:w.heap[b]?=some o):w'.heap[b]?=some o:=(a.block b (Ag q)).trans q
theorem Pg.keep(h:Pg w a c b)(d:∀j o,j=a\/j=c\/j=b->w.heap[j]?=some o->w'.heap[j]?=some o):Pg w' a c b:=⟨d _ _ (.inl rfl) h.q0,d _ _ (.inr (.inl rfl)) h.q1,d _ _ (.inr (.inr rfl)) h.q2⟩
end Go.Proofs.YtelojoopofolpaaGreat
namespace Go.Proofs.YtelojoopofolpaaGreat
open Go.RowKit Go.Sort Go.Proofs.Tryz
attribute [local go_sem ↓] Go.wp_at_zero Go.wp_at_succ
theorem KX{w:Wd}{a:Nat}{T:TypeId}(e f g b c d:Value)(q:w.heap[a]?=some (.cells #[e,f,g] T (0,0))):(((w.setCell (aD a 0) b).setCell (aD a 1) c).setCell (aD a 2) d).heap[a]?=some (.cells #[b,c,d] T (0,0)):=zg (i:=2) (u:=d) (zg (i:=1) (u:=c) (zg (i:=0) (u:=b) q))
theorem GJ{B:Nat}{b w:Wd}{a:Nat}(h:B<=a)(c d e:Value)(f:Below B b w):Below B b (((w.setCell (aD a 0) c).setCell (aD a 1) d).setCell (aD a 2) e):=(((f.setCell (p:=aD a 0) h c).setCell (p:=aD a 1) h d).setCell (p:=aD a 2) h e)
end Go.Proofs.YtelojoopofolpaaGreat
namespace Go.Proofs.YtelojoopofolpaaGreat
open Go.RowKit Go.Sort Go.Proofs.Tryz
theorem iB(N:LB)(q:LI)(h:q.length=N.length):∀k,k<=q.length->∀i,i<k->(Lv N q k)[i*2]?=some (.string (Do (N.zip q) i).1)/\(Lv N q k)[i*2+1]?=some (Bn (Do (N.zip q) i).2)
 |0,_,i,hi=>aB hi (Nat.not_lt_zero _)
 |k+1,hk,i,hi=>by
  have a:∀m,(Lv N q m).length=m*2:=λm=>by
   induction m with
   |zero=>rfl
   |succ m ih=>rw[Lv,Gh,ih];simp;omega
  rw[Lv];by_cases e:i=k
  . subst e;have f:Do (N.zip q) i=(Bl N i,Am q i):=by
     have g:i<N.length:=by omega
     have j:i<q.length:=by omega
     have d:N[i]?=some N[i]:=Cz g;have b:q[i]?=some q[i]:=Cz j;have c:(N.zip q)[i]?=some (N[i],q[i]):=List.getElem?_zip_eq_some.2 ⟨d,b⟩;unfold Do Bl Am
     rw[Cr,Cr,Cr,c,d,b];rfl
    rw[f];constructor
    . rw[Nf (by rw[a];omega),a,Nat.sub_self];rfl
    rw[Nf (by rw[a];omega),a,Nat.add_sub_cancel_left];rfl
  have:=iB N q h k (by omega) i (by omega);rw[Tp (by rw[a];omega),Tp (by rw[a];omega)];exact this
theorem We.at{w:Wd}{b:Nat}{N:LB}{q:LI}(h:We w b N q)(e:q.length=N.length):Jk w (some (aD b 0)) (N.zip q):=by
 obtain⟨C,a,f⟩:=h;refine .inr ⟨b,0,rfl,Ag a,λi hi=>?_⟩;have c:i<q.length:=by rw[List.length_zip]at hi;omega
 have d:=iB N q e q.length (Bv _) i c;rw[<-f,List.getElem?_take_of_lt (by omega),List.getElem?_take_of_lt (by omega),Array.getElem?_toList,Array.getElem?_toList]at d;rw[Nat.zero_add];exact⟨zm a d.1,zm a d.2⟩
end Go.Proofs.YtelojoopofolpaaGreat
