/- a part of the proof -/
import Derived.Test.YtelojoopofolpaaGreatGX
set_option linter.all false
set_option maxRecDepth 100000
set_option maxHeartbeats 3000000
namespace Go.Proofs.YtelojoopofolpaaGreat
open Go.RowKit Go.Sort Go.Proofs.Tryz
def Ro(w:Wd)(g n:Nat)(f:Nat->LI):Prop:=∃C,w.heap[g]?=some (Obj.cells C 22)/\∀i,i<n->∃b,C[i]?=some (.slice (some (aD b 0)) 11 11)/\b<w.heap.size/\b≠g/\∀j,j<11->w.cell? (aD b j)=some (.int .i64 (Am (f i) j))
theorem Ro.below{w w':Wd}{g n:Nat}{f:Nat->LI}(h:Ro w g n f)(a:Bw w w'):Ro w' g n f:=by
 obtain⟨C,d,e⟩:=h;refine⟨C,Ac a d,λi hi=>?_⟩;obtain⟨b,k,c,l,m⟩:=e i hi;exact⟨b,k,As c a.size,l,λj hj=>zj (m j hj) c a⟩
theorem cB(w:Wd)(t:At)(c:Ad)(a:Ae)(b:Nat)(d:Ae)(e:Nat)(fa:Ae)(fc:Nat)(p:Bd)(o:Obj):Bw w (((w.alloc (Ap t a b d e fa fc)).alloc (Aj c p)).alloc o)/\(((w.alloc (Ap t a b d e fa fc)).alloc (Aj c p)).alloc o).heap[w.heap.size]?=some (Ap t a b d e fa fc)/\(((w.alloc (Ap t a b d e fa fc)).alloc (Aj c p)).alloc o).heap[w.heap.size+1]?=some (Aj c p)/\(((w.alloc (Ap t a b d e fa fc)).alloc (Aj c p)).alloc o).heap[w.heap.size+1+1]?=some o:=by
 obtain⟨f,g,i⟩:=Uy w t c a b d e fa fc p;refine⟨Ab f (J _ _),zd g,zd i,?_⟩;have h:=zh ((w.alloc (Ap t a b d e fa fc)).alloc (Aj c p)) o;rw[zr,zr]at h;exact h
end Go.Proofs.YtelojoopofolpaaGreat
