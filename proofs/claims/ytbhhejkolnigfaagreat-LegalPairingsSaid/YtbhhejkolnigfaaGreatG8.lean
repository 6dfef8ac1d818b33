/- a part of the proof -/
import Derived.Deep.DrawnRows
import Derived.Test.YtbhhejkolnigfaaGreatG7
import Derived.Test.YtbhhejkolnigfaaGreatGB
set_option linter.unusedVariables false
set_option linter.unusedSimpArgs false
set_option maxRecDepth 100000
set_option maxHeartbeats 51200000
namespace Go.Proofs.YtbhhejkolnigfaaGreat
open Go.RowKit Go.Sort Go.Proofs.Tryz
theorem SlAt.of_block{A:Type}{r:RT A}{w:World}{b:Nat}{C:Array Value}{T:TypeId}{f:Nat×Nat}(c:w.heap[b]?=some (.cells C T f))(l:List A)(h:∀i (hi:i<l.length),∃a,(∀j (hj:j<a.length),C[i*r.n+j]?=some a[j])/\r.rep w a l[i]):SlAt r w (some ⟨b,0,none⟩) l:=by
 refine .inr ⟨b,0,rfl,ztW c,λi hi=>?_⟩;obtain⟨a,d,e⟩:=h i hi;exact⟨a,λj hj=>by rw[Nat.zero_add];exact zm c (d j hj),e⟩
def zta:List (Int×Int):= [(1441500,120),(1444000,60)]
def zs9:List (Int×Int):= [(1442900,-240)]
def zhM:List zaC:= [⟨⟨#[117,116,99]⟩,0, []⟩,⟨⟨#[111,115,108,111]⟩,60,zta⟩,⟨⟨#[121,111,114,107]⟩,-300,zs9⟩]
def zlk:List AirM:= [⟨⟨#[65,65,65]⟩,⟨#[117,116,99]⟩⟩,⟨⟨#[66,66,66]⟩,⟨#[111,115,108,111]⟩⟩,⟨⟨#[67,67,67]⟩,⟨#[121,111,114,107]⟩⟩]
theorem zpm(w:World)(x:Int×Int)(a:(Lit.int .i64 x.1).wf=true)(b:(Lit.int .i64 x.2).wf=true):shRT.rep w [.int .i64 x.1,.int .i64 x.2] x:=⟨[_], [_],rfl,⟨rfl,a⟩,rfl,b⟩
structure zcO(w:World)(s1 s2 b:Nat):Prop where
 q0:w.heap[s1]?=some (.cells #[.int .i64 1441500,.int .i64 120,.int .i64 1444000,.int .i64 60] 158 (0,0))
 q1:w.heap[s2]?=some (.cells #[.int .i64 1442900,.int .i64 (-240)] 158 (0,0))
 q2:w.heap[b]?=some (.cells #[.string ⟨#[117,116,99]⟩,.int .i64 0,.slice none 0 0,.string ⟨#[111,115,108,111]⟩,.int .i64 60,.slice (some ⟨s1,0,none⟩) 2 2,.string ⟨#[121,111,114,107]⟩,.int .i64 (-300),.slice (some ⟨s2,0,none⟩) 1 1] 109 (0,0))
def zem(w:World)(b:Nat):Prop:=w.heap[b]?=some (.cells #[.string ⟨#[65,65,65]⟩,.string ⟨#[117,116,99]⟩,.string ⟨#[66,66,66]⟩,.string ⟨#[111,115,108,111]⟩,.string ⟨#[67,67,67]⟩,.string ⟨#[121,111,114,107]⟩] 125 (0,0))
theorem zcO.at{w:World}{a c b:Nat}(h:zcO w a c b):SlAt zcg w (some ⟨b,0,none⟩) zhM:=by
 refine SlAt.of_block h.q2 zhM (λi hi=>?_);rcases i with _|_|_|i
 . exact⟨[.string ⟨#[117,116,99]⟩,.int .i64 0,.slice none 0 0],λj hj=>by rcases j with _|_|_|j <;> first|rfl|(simp at hj;omega),none,0,rfl,zt7 rfl,rfl,zt7 rfl,.inl rfl⟩
 . refine⟨[.string ⟨#[111,115,108,111]⟩,.int .i64 60,.slice (some ⟨a,0,none⟩) 2 2],λj hj=>by rcases j with _|_|_|j <;> first|rfl|(simp at hj;omega),some ⟨a,0,none⟩,2,rfl,zt7 rfl,rfl,zt7 rfl,?_⟩;refine SlAt.of_block h.q0 zta (λi hi=>?_);rcases i with _|_|i
   . exact⟨[.int .i64 1441500,.int .i64 120],λj hj=>by rcases j with _|_|j <;> first|rfl|(simp at hj;omega),zpm _ (1441500,120) rfl rfl⟩
   . exact⟨[.int .i64 1444000,.int .i64 60],λj hj=>by rcases j with _|_|j <;> first|rfl|(simp at hj;omega),zpm _ (1444000,60) rfl rfl⟩
   simp[zta]at hi;omega
 . refine⟨[.string ⟨#[121,111,114,107]⟩,.int .i64 (-300),.slice (some ⟨c,0,none⟩) 1 1],λj hj=>by rcases j with _|_|_|j <;> first|rfl|(simp at hj;omega),some ⟨c,0,none⟩,1,rfl,zt7 rfl,rfl,zt7 rfl,?_⟩;refine SlAt.of_block h.q1 zs9 (λi hi=>?_);rcases i with _|i
   . exact⟨[.int .i64 1442900,.int .i64 (-240)],λj hj=>by rcases j with _|_|j <;> first|rfl|(simp at hj;omega),zpm _ (1442900,-240) rfl rfl⟩
   simp[zs9]at hi
 simp[zhM]at hi;omega
theorem zem.at{w:World}{b:Nat}(h:zem w b):SlAt zei w (some ⟨b,0,none⟩) zlk:=by
 refine SlAt.of_block h zlk (λi hi=>?_);rcases i with _|_|_|i
 . exact⟨[.string ⟨#[65,65,65]⟩,.string ⟨#[117,116,99]⟩],λj hj=>by rcases j with _|_|j <;> first|rfl|(simp at hj;omega),rfl,zt7 rfl,zt7 rfl⟩
 . exact⟨[.string ⟨#[66,66,66]⟩,.string ⟨#[111,115,108,111]⟩],λj hj=>by rcases j with _|_|j <;> first|rfl|(simp at hj;omega),rfl,zt7 rfl,zt7 rfl⟩
 . exact⟨[.string ⟨#[67,67,67]⟩,.string ⟨#[121,111,114,107]⟩],λj hj=>by rcases j with _|_|j <;> first|rfl|(simp at hj;omega),rfl,zt7 rfl,zt7 rfl⟩
 simp[zlk]at hi;omega
theorem zdN(w:World):Calls prog 37 #[] w λe w'=>∃s1 s2 b,e=.returned (.slice (some ⟨b,0,none⟩) 3 3)/\(w.heap.size<=s1/\w.heap.size<=s2/\w.heap.size<=b)/\zcO w' s1 s2 b/\Bw w w':=by
 go_enter func37,ntmps37
 go_wp2_with fail;go_ret;have d:=ztS (ztS (J w jH) (J _ jJ)) (J _ (Obj.cells #[.string ⟨#[117,116,99]⟩,.int .i64 0,.slice none 0 0,.string ⟨#[111,115,108,111]⟩,.int .i64 60,.slice (some ⟨w.heap.size,0,none⟩) 2 2,.string ⟨#[121,111,114,107]⟩,.int .i64 (-300),.slice (some ⟨w.heap.size+1,0,none⟩) 1 1] 109));have f:=zd (o':=Obj.cells #[.string ⟨#[117,116,99]⟩,.int .i64 0,.slice none 0 0,.string ⟨#[111,115,108,111]⟩,.int .i64 60,.slice (some ⟨w.heap.size,0,none⟩) 2 2,.string ⟨#[121,111,114,107]⟩,.int .i64 (-300),.slice (some ⟨w.heap.size+1,0,none⟩) 1 1] 109) (zd (o':=jJ) (zh w jH));have a:=zd (o':=Obj.cells #[.string ⟨#[117,116,99]⟩,.int .i64 0,.slice none 0 0,.string ⟨#[111,115,108,111]⟩,.int .i64 60,.slice (some ⟨w.heap.size,0,none⟩) 2 2,.string ⟨#[121,111,114,107]⟩,.int .i64 (-300),.slice (some ⟨w.heap.size+1,0,none⟩) 1 1] 109) (zh (w.alloc jH) jJ);have c:=zh ((w.alloc jH).alloc jJ) (Obj.cells #[.string ⟨#[117,116,99]⟩,.int .i64 0,.slice none 0 0,.string ⟨#[111,115,108,111]⟩,.int .i64 60,.slice (some ⟨w.heap.size,0,none⟩) 2 2,.string ⟨#[121,111,114,107]⟩,.int .i64 (-300),.slice (some ⟨w.heap.size+1,0,none⟩) 1 1] 109);rw[zr]at a;rw[zr,zr]at c;exact⟨w.heap.size,w.heap.size+1,w.heap.size+1+1,rfl,by omega,⟨f,a,c⟩,d⟩
theorem zaQ(w:World):Calls prog 38 #[] w λe w'=>∃b,e=.returned (.slice (some ⟨b,0,none⟩) 3 3)/\w.heap.size<=b/\zem w' b/\Bw w w':=by
 go_enter func38,ntmps38
 go_wp2_with fail;go_ret;exact⟨w.heap.size,rfl,ztY _,zh w _,J _ _⟩
theorem zA{w w':World}{o:Obj}{b:Nat}(a:Bw w w')(q:w.heap[b]?=some o):w'.heap[b]?=some o:=(a.block b (ztW q)).trans q
theorem zcO.keep{w w':World}{a c b:Nat}(h:zcO w a c b)(d:∀j o,j=a\/j=c\/j=b->w.heap[j]?=some o->w'.heap[j]?=some o):zcO w' a c b:=⟨d _ _ (.inl rfl) h.q0,d _ _ (.inr (.inl rfl)) h.q1,d _ _ (.inr (.inr rfl)) h.q2⟩
end Go.Proofs.YtbhhejkolnigfaaGreat
namespace Go.Proofs.YtbhhejkolnigfaaGreat
open Go.RowKit Go.Sort Go.Proofs.Tryz
attribute [local go_sem ↓] Go.wp_at_zero Go.wp_at_succ
theorem zm2{w:World}{a:Nat}{T:TypeId}(e f g b c d:Value)(q:w.heap[a]?=some (.cells #[e,f,g] T (0,0))):(((w.setCell ⟨a,0,none⟩ b).setCell ⟨a,1,none⟩ c).setCell ⟨a,2,none⟩ d).heap[a]?=some (.cells #[b,c,d] T (0,0)):=zg (i:=2) (u:=d) (zg (i:=1) (u:=c) (zg (i:=0) (u:=b) q))
theorem ziI{B:Nat}{b w:World}{a:Nat}(h:B<=a)(c d e:Value)(f:Below B b w):Below B b (((w.setCell ⟨a,0,none⟩ c).setCell ⟨a,1,none⟩ d).setCell ⟨a,2,none⟩ e):=(((f.setCell (p:=⟨a,0,none⟩) h c).setCell (p:=⟨a,1,none⟩) h d).setCell (p:=⟨a,2,none⟩) h e)
end Go.Proofs.YtbhhejkolnigfaaGreat
namespace Go.Proofs.YtbhhejkolnigfaaGreat
open Go.RowKit Go.Sort Go.Proofs.Tryz
theorem zfr(N:List ByteArray)(q:List Int)(h:q.length=N.length):∀k,k<=q.length->∀i,i<k->(zbL N q k)[i*2]?=some (.string (arAt (N.zip q) i).1)/\(zbL N q k)[i*2+1]?=some (.int .i64 (arAt (N.zip q) i).2)
 |0,_,i,hi=>absurd hi (Nat.not_lt_zero _)
 |k+1,hk,i,hi=>by
  have a:∀m,(zbL N q m).length=m*2:=λm=>by
   induction m with
   |zero=>rfl
   |succ m ih=>rw[zbL,zt2,ih];simp;omega
  rw[zbL];by_cases e:i=k
  . subst e;have f:arAt (N.zip q) i=(sAt N i,iAt q i):=by
     have g:i<N.length:=by omega
     have j:i<q.length:=by omega
     have d:N[i]?=some N[i]:=zt1 g;have b:q[i]?=some q[i]:=zt1 j;have c:(N.zip q)[i]?=some (N[i],q[i]):=List.getElem?_zip_eq_some.2 ⟨d,b⟩;unfold arAt sAt iAt
     rw[zt0,zt0,zt0,c,d,b];rfl
    rw[f];constructor
    . rw[zt9 (by rw[a];omega),a,Nat.sub_self];rfl
    rw[zt9 (by rw[a];omega),a,Nat.add_sub_cancel_left];rfl
  have:=zfr N q h k (by omega) i (by omega);rw[zt8 (by rw[a];omega),zt8 (by rw[a];omega)];exact this
theorem zkn.at{w:World}{b:Nat}{N:List ByteArray}{q:List Int}(h:zkn w b N q)(e:q.length=N.length):zcs w (some ⟨b,0,none⟩) (N.zip q):=by
 obtain⟨C,a,f⟩:=h;refine .inr ⟨b,0,rfl,ztW a,λi hi=>?_⟩;have c:i<q.length:=by rw[List.length_zip]at hi;omega
 have d:=zfr N q e q.length (ztY _) i c;rw[<-f,List.getElem?_take_of_lt (by omega),List.getElem?_take_of_lt (by omega),Array.getElem?_toList,Array.getElem?_toList]at d;rw[Nat.zero_add];exact⟨zm a d.1,zm a d.2⟩
end Go.Proofs.YtbhhejkolnigfaaGreat
