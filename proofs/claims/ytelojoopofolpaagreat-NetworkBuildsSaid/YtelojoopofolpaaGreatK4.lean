/- a part of the proof -/
import Derived.Test.YtelojoopofolpaaGreatK1
set_option linter.all false
set_option maxRecDepth 100000
set_option maxHeartbeats 3000000
namespace Go.Proofs.YtelojoopofolpaaGreat
open Go.RowKit Go.Sort Go.Proofs.Tryz
variable {w:Wd}{b base d lo n:Nat}{S e:TypeId}{v z:Value}{xs:LV}{ops:Array Oper}{o:Oper}{a:Act}{Q:Exit->Act->Wd->Prop}{s x:Operand}
structure EI(S e:TypeId)(z:Value)(size bytes:Nat):Prop where
 ht:prog.underlying S=some (.slice e)
 info:(prog.info? e).map (λi=>(i.zero,i.size,i.bytes))=some (some z,size,bytes)
 zs:z.cells.size=size
 pos:0<size
theorem Js(h:w.ownsRow base e b v n xs):∃a c,v=.slice a n c:=by
 rcases h.2 with⟨d,f⟩|⟨g,i,j,rfl,_⟩;exact⟨none,0,by rw[d,f]⟩;exact⟨_,_,rfl⟩
theorem fI{f:Nat}(m:EI S e z d f){g:List Oper}{j:Wd}(t:Bw j w)(i:w.ownsRow j.heap.size e d v n xs)(l:LV) 
  (y:a.eval s=v) (A:a.eval x=Hy w.heap.size 0 1 1) (B:o.op=.call {callee:=.builtin .append,args:=#[s,x],argTypes:=#[S,S]}) (C:o.guard=none)
 (H:l.length=d) (D:∀u∈l,u.oneCell'=true) (E:(n+1)*f<=2^47/\n<=2^47)
 (h:∀(b:Ae) (c:Nat) (w':Wd),w'.ownsRow j.heap.size e d (.slice b (n+1) c) (n+1) (xs++l)->Bw j w'->(∀k,k<w.heap.size->v.ownBlock≠some k->w'.heap[k]?=w.heap[k]?)->wpList prog ops Q g (a.put o.dst (.slice b (n+1) c)) w'):
 wpList prog ops Q (o::g) a (w.alloc (.cells l.toArray e)):=by
 obtain⟨F,G,p,q,r⟩:=info_parts m.info;refine wpList_append_own _ C s x S B j.heap.size e F z d f m.ht G p q r m.zs m.pos v n xs y (i.alloc _) (aD w.heap.size 0) 1 1 l A (by omega) ?_ D (by unfold maxLen;omega) E.1 (by have:=t.size;simp;omega) λv' w' h2 h3 _=>?_;exact Hh w l e;obtain⟨b,c,rfl⟩:=Js h2;refine h b c w' h2 (Ld (e':=e) t rfl i h3) λk hk hne=>?_;exact(h3.block k (by simp;omega) (λe=>hne e.symm)).trans (heap_alloc_old w _ hk)
theorem cF:EI 22 3 (Bn 0) 1 8:=⟨underlying22,by kernel_rfl,rfl,by decide⟩
theorem Zw(k:EI S e z b d){f:List Oper}(q:lo<=w.heap.size)(j:w.ownsRow lo e b v n xs)(i:LV) 
  (r:a.eval s=v) (t:a.eval x=Hy w.heap.size 0 1 1) (y:o.op=.call {callee:=.builtin .append,args:=#[s,x],argTypes:=#[S,S]}) (A:o.guard=none)
 (F:i.length=b) (B:∀u∈i,u.oneCell'=true) (C:(n+1)*d<=2^47/\n<=2^47)
 (h:∀(g c:Nat) (w':Wd),w'.ownsRow lo e b (Hy g 0 (n+1) c) (n+1) (xs++i)->(w.alloc (.cells i.toArray e)).grownBy w' v.ownBlock->(v.ownBlock=some g\/g=w.heap.size+1)->wpList prog ops Q f (a.put o.dst (Hy g 0 (n+1) c)) w'):
 wpList prog ops Q (o::f) a (w.alloc (.cells i.toArray e)):=by
 obtain⟨D,E,l,m,p⟩:=info_parts k.info;refine wpList_append_lies _ A s x S y lo e D z b d k.ht E l m p k.zs k.pos v n xs r (j.alloc _) (aD w.heap.size 0) 1 1 i t (by omega) ?_ B (by decide) (by unfold maxLen;omega) C.1 (by simp;omega) (w.heap.size+1) (by simp) λg c w' h2 h3 h4 _=>h g c w' h2 h3 h4;exact Hh w i e
theorem Sw{c:Nat}(h:w.ownsRow base e c v n xs):∃a b,v=.slice a n b/\n<=b/\b<=9223372036854775807/\(n=0\/∃g,a=some (aD g 0)/\base<=g/\g<w.heap.size/\∀j u,xs[j]?=some u->w.cell? (aD g j)=some u):=by
 rcases h.2 with⟨d,f⟩|⟨g,b,i,rfl,k,l,d,m,_⟩;exact⟨none,0,by rw[d,f],by omega,by decide,.inl f⟩;exact⟨_,b,rfl,d,by unfold maxLen at m;omega,.inr ⟨g,rfl,k,(Array.getElem?_eq_some_iff.1 l).1,λj u hu=>by have:=h.cells (g:=g) rfl j u hu;rwa [Addr.add_lit,Nat.zero_add]at this⟩⟩
theorem Zy:∀(L:List (LV)) (h:∀c∈L,c.length=n) (i:Nat) (hi:i<L.length) (j:Nat),j<n->L.flatten[i*n+j]?=L[i][j]?
 |[],_,i,hi,_,_=>aB hi (by simp)
 |c::L,h,0,_,j,hj=>by
  rw[List.flatten_cons,Tp (by rw[h c (by simp)];omega),Nat.zero_mul,Nat.zero_add];rfl
 |c::L,h,i+1,hi,j,hj=>by
  have a:c.length=n:=h c (by simp);rw[List.flatten_cons,Nf (by rw[a,Nat.succ_mul];omega),a,show(i+1)*n+j-n=i*n+j by rw[Nat.succ_mul];omega];exact Zy L (λc a=>h c (by simp[a])) i (by simpa using hi) j hj
theorem Al.of_own{A:Type}{r:RT A}{L:List (LV)}(h:w.ownsRow lo e r.n v L.length L.flatten)(f:∀c∈L,∃x,r.rep w c x):
 ∃(a:Ae) (b:Nat) (l:List A),v=.slice a l.length b/\l.length=L.length/\(l.length<=b/\b<=9223372036854775807)/\Al r w a l/\∀i (o:i<l.length) (k:i<L.length),r.rep w L[i] l[i]:=by
 obtain⟨a,b,rfl,o,k,t⟩:=Sw h;have d:∀c∈L,c.length=r.n:=λc p=>by
  obtain⟨x,u⟩:=f c p;exact r.len u
 have s:∀i (o:i<(List.ofFn (λi:Fin L.length=>Classical.choose (f L[i.1] (gM i.2)))).length) (k:i<L.length),r.rep w L[i] (List.ofFn (λi:Fin L.length=>Classical.choose (f L[i.1] (gM i.2))))[i]:=λi o k=>by
  rw[List.getElem_ofFn];exact Classical.choose_spec (f L[i] (gM k))
 refine⟨a,b,List.ofFn (λi:Fin L.length=>Classical.choose (f L[i.1] (gM i.2))),by simp,by simp,by simpa using⟨o,k⟩,?_,s⟩;rcases t with y|⟨g,rfl,B,z,p⟩;exact .inl (List.eq_nil_of_length_eq_zero (by simpa using y));refine .inr ⟨g,0,rfl,z,λi hi=>⟨L[i]'(by simpa using hi),λj hj=>?_,s i hi (by simpa using hi)⟩⟩;have m:i<L.length:=by simpa using hi
 have q:j<r.n:=by rw[<-d _ (gM m)];exact hj
 rw[Nat.zero_add];exact p _ _ (by rw[Zy L d i m j q,Cz hj])
def stN(b:Nat):Nat->LV->Wd->Wd
 |_, [],w=>w
 |i,v::l,w=>stN b (i+1) l (w.setCell (aD b i) v)
theorem Tt{B:Nat}(h:B<=b){a:Wd}:∀(l:LV) (i:Nat) (w:Wd),Below B a w->Below B a (stN b i l w)
 |[],_,_,hb=>hb
 |v::l,i,w,hb=>Tt h l (i+1) _ (hb.setCell (p:=aD b i) h v)
theorem lG{x:Nat}(h:x≠b):∀(l:LV) (i:Nat) (w:Wd),(stN b i l w).heap[x]?=w.heap[x]?
 |[],_,_=>rfl
 |v::l,i,w=>(lG h l (i+1) _).trans (Below.heap_setCell w (aD b i) v x h)
theorem DP:∀(l:LV) (i:Nat) (w:Wd),(stN b i l w).heap.size=w.heap.size
 |[],_,_=>rfl
 |v::l,i,w=>(DP l (i+1) _).trans (by simp[World.setCell])
theorem Pr{T:TypeId}:∀(l pre old:LV) (w:Wd),old.length=l.length->w.heap[b]?=some (.cells (pre++old).toArray T (0,0))->(stN b pre.length l w).heap[b]?=some (.cells (pre++l).toArray T (0,0))
 |[],pre,old,w,ho,h=>by
  obtain rfl:=List.eq_nil_of_length_eq_zero ho;exact h
 |v::l,pre, [],w,ho,h=>by simp at ho
 |v::l,pre,o::old,w,ho,h=>by
  have q:(w.setCell (aD b pre.length) v).heap[b]?=some (.cells ((pre++ [v])++old).toArray T (0,0)):=by
   rw[zg h];simp
  have r:=Pr l (pre++ [v]) old _ (by simpa using ho) q;simpa[stN] using r
def Fr(w w':Wd)(F:Wd->Prop):Prop:=∀W,w'.heap.size<=W.heap.size->(∀b,w.heap.size<=b->b<w'.heap.size->W.heap[b]?=w'.heap[b]?)->F W
section
variable {w w':Wd} {F G:Wd→Prop} (h:Fr w w' F)
include h
theorem Fr.self:F w':=h w' (Bv _) λ_ _ _=>rfl
theorem Fr.next{c:Wd}(a:Bw w' c):Fr w c F:=λW h1 h2=>h W (Bf a.size h1) λb h3 h4=>(h2 b h3 (As h4 a.size)).trans (a.block b h4)
theorem Fr.old{a:Wd}(c:a.heap.size<=w.heap.size):Fr a w' F:=λW h1 h2=>h W h1 λb h3 h4=>h2 b (Bf c h3) h4
theorem Fr.set{b:Nat}(a:b<w.heap.size)(i:Nat)(v:Value):Fr w (w'.setCell (aD b i) v) F:=λW h1 h2=>h W (by simpa[World.setCell] using h1) λx h3 h4=>(h2 x h3 (by simpa[World.setCell] using h4)).trans (Below.heap_setCell w' (aD b i) v x (by show x≠b;omega))
theorem Fr.imp(a:∀W,F W->G W):Fr w w' G:=λW h1 h2=>a W (h W h1 h2)
theorem Fr.sets{b:Nat}(a:b<w.heap.size)(l:LV)(i:Nat):Fr w (stN b i l w') F:=by
 induction l generalizing i w' with
 |nil=>exact h
 |cons v l ih=>exact ih (h.set a i v) (i+1)
end


end Go.Proofs.YtelojoopofolpaaGreat
