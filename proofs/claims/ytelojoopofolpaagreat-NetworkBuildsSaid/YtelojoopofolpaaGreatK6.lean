/- a part of the proof -/
import Derived.Test.YtelojoopofolpaaGreatGZ
import Derived.Test.YtelojoopofolpaaGreatGB
import Derived.Test.YtelojoopofolpaaGreatK3
import Derived.Test.YtelojoopofolpaaGreatK4
set_option linter.all false
set_option maxRecDepth 100000
set_option maxHeartbeats 3000000
namespace Go.Proofs.YtelojoopofolpaaGreat
open Go.RowKit Go.Sort Go.Proofs.Tryz
variable {u:Nat->Value}{N a cap d i k lo n sb t:Nat}{l:List (Nat×Value)}{w w':Wd}{P:Nat->Prop}{c:LV}{v:Value}
def Dj(a:Act):List (Nat×Value)->Act
 |[]=>a
 |p::l=>(Dj a l).put (some p.1) p.2
def look(u:Nat->Value):List (Nat×Value)->Nat->Value
 |[],t=>u t
 |p::l,t=>if p.1=t then p.2 else look u l t
theorem DZ(a:Act):∀l,(Dj a l).tmps.size=a.tmps.size
 |[]=>rfl
 |p::l=>by
  have:=DZ a l;simp[Dj,Act.put,this]
def E3(A:Act)(u:Nat->Value):Prop:=(∀t,A.eval (.tmp t)=u t)/\(∀t,A.tmps.getD t undef=u t)/\(∀t:Nat,A.tmps[t]?.getD undef=u t)
theorem E3.at{A:Act}(h:E3 A u){V:Value}(e:u t=V):A.eval (.tmp t)=V/\A.tmps.getD t undef=V/\A.tmps[t]?.getD undef=V:=⟨(h.1 t).trans e,(h.2.1 t).trans e,(h.2.2 t).trans e⟩
abbrev fr(a:Act):Nat->Value:=λt=>a.tmps.getD t undef
theorem lC{a:Act}(b:a.tmps.size=N):∀(l:List (Nat×Value)),l.all (λp=>decide (p.1<N))=true->∀t,(Dj a l).tmps.getD t undef=look (fr a) l t
 |[],_,t=>rfl
 |p::l,h,t=>by
  simp only[List.all_cons,Em,decide_eq_true_eq]at h;rw[Dj,cC,DZ,b,look];by_cases e:p.1=t
  . rw[iP ⟨e,h.1⟩,iP e]
  rw[iN (λx=>e x.1),iN e,lC b l h.2]
theorem Wl{a:Act}(b:a.tmps.size=N)(h:l.all (λp=>decide (p.1<N))=true):E3 (Dj a l) (look (fr a) l):=
 ⟨lC b l h,lC b l h,λt=>by have:=lC b l h t;simpa using this⟩
section
variable {P:Program} {ops:Array Oper} {Q:Exit→Act→Wd→Prop} {md:Region.Mode} {S:Wd→Prop} {Z:List Nat}
def Wz(md:Region.Mode)(ops:Array Oper):Nat->List Nat->Nat->Bool
 |z, [],i=>Region.waitsFor md ops z i
 |z,p::l,i=>Region.waitsFor md ops z p&&Wz md ops p l i
def Wo(md:Region.Mode)(ops:Array Oper)(L:Array Bool):Prop:=∀(k:Nat) (o:Oper),ops[k]?=some o->L.getD k false=true->∀e∈o.after,Region.binds md e=true->L.getD e.on false=true
theorem EF{L:Array Bool}(d:Wo md ops L):∀(l:List Nat) (z i:Nat),Wz md ops z l i=true->(∀o,ops[z]?=some o->∀e∈o.after,Region.binds md e=true->L.getD e.on false=true)->L.getD i false=true
 |[],z,i,h,ha=>by
  obtain⟨o,a,e,b,c,rfl⟩:=Region.waitsFor_spec h;exact ha o a e b c
 |p::l,z,i,h,ha=>by
  simp only[Wz,Em]at h;obtain⟨o,a,e,b,c,rfl⟩:=Region.waitsFor_spec h.1;exact EF d l _ i h.2 λo' ho'=>d _ o' ho' (ha o a e b c)
theorem YK{L:Array Bool}(c:Wo md ops L){z i:Nat}{l:List Nat}(d:Wz md ops z l i=true)(e:i∈Region.ready md ops L):z ∉ Region.ready md ops L:=by
 intro f;obtain⟨_,g,b,a⟩:=mem_ready.1 f;exact dQ (mem_ready.1 e).1 (EF c l z i d λo ho=>by
  rw[b]at ho;cases ho;exact a)
theorem Wo.set{L:Array Bool}(m:Wo md ops L){j:Nat}(n:j∈Region.ready md ops L):Wo md ops (L.setIfInBounds j true):=by
 obtain⟨c,p,d,a⟩:=mem_ready.1 n;have f:j<L.size:=by
  rcases Nat.lt_or_ge j L.size with h|h;exact h;simp[Array.getElem?_eq_none h]at c
 intro k o g b e i l;rw[lB f]at b ⊢;rcases b with rfl|b;rw[d]at g;cases g;exact .inr (a e i l);exact .inr (m k o g b e i l)
theorem YN{i:Nat}{oi:Oper}{v:Value}(y:ops[i]?=some oi)(D:Region.noSelect ops=true)(E:∀z∈Z,∃l,Wz md ops z l i=true) 
 (F:∀c a w,Q (.panic c) (a.put oi.dst v) w->Q (.panic c) a w):∀(n:Nat) (d:Array Bool) (a:Act) (w:Wd),Wo md ops d->
  (∀j o,ops[j]?=some o->j≠i->d.getD j true=false->(∀e∈o.after,Region.binds md e=true->e.on≠i)->oi.apart ops o=true)->
  i∈Region.ready md ops d->YieldsIf P ops S oi v a->S w->
  Ds P md ops Q S Z n (d.setIfInBounds i true) (a.put oi.dst v) w->Ds P md ops Q S Z (n+1) d a w:=by
 have g:=Region.noSelect_spec D;intro n;induction n with
 |zero=>
  intro d a w _ _ m u x H;refine⟨λh=>(by rw[h]at m;cases m),λj hj=>?_⟩;by_cases e:j=i
  . subst e;exact u.wpOp y x ⟨λ_ h=>h,H⟩
  have q:=ready_mono hj e;rw[H.1]at q;cases q
 |succ n ih=>
  intro d a w r f m u x H;refine⟨λh=>(by rw[h]at m;cases m),λj hj=>?_⟩;by_cases e:j=i
  . subst e;exact u.wpOp y x ⟨λ_ h=>h,H⟩
  have A:j ∉ Z:=λhz=>by
   obtain⟨l,G⟩:=E j hz;exact YK r G m hj
  obtain⟨s,o,p,t⟩:=mem_ready.1 hj;have B:∀b∈o.after,Region.binds md b=true->b.on≠i:=λb hb hbb hon=>by
   have q:=t b hb hbb;rw[hon]at q;exact dQ (mem_ready.1 m).1 q
  have K:=wpOp_putIf p (f j o p e s B) (λcs b=>g i oi cs b y) (λcs b=>g j o cs b p) F u (H.2 j (ready_mono hj e));refine wpOp_mono (λa' w' h3=>?_) K;have hS':S w':=h3.2.1 A x;refine⟨λ_ _=>hS',ih (d.setIfInBounds j true) a' w' (r.set hj) (λk ok hk hki hu hn=>?_) (ready_mono m (Ne.symm e)) h3.1 hS' ?_⟩
  . refine f k ok hk hki ?_ hn;by_cases C:j=k
    . subst C;exact s
    rw[getD_set_ne true C]at hu;exact hu
  rw[Array.setIfInBounds_comm _ _ e];exact h3.2.2
end
section
variable {P:Program} {ops:Array Oper} {Q:Exit→Act→Wd→Prop} {w0 w:Wd} {Z:List Nat} {n i d N:Nat} {L:Array Bool} {a:Act} {l:List (Nat×Value)} {o:Oper} {v:Value}
def Jd(P:Program)(ops:Array Oper)(Q:Exit->Act->Wd->Prop)(w0:Wd)(Z:List Nat)(n:Nat)(L:Array Bool)(a:Act)(l:List (Nat×Value))(w:Wd):Prop:=Wo .any ops L->Ds P .any ops Q (λw'=>Below w0.heap.size w0 w') Z n L (Dj a l) w
theorem Kr(i d:Nat)(v:Value)(f:ops[i]?=some o)(g:a.tmps.size=N)(j:∀(A:Act) (w:Wd),E3 A (look (fr a) l)->(execOp A.eval o).run P w=.ok (.value v) w)(h:Jd P ops Q w0 Z n (L.setIfInBounds i true) a ((d,v)::l) w) 
 (k:l.all (λp=>decide (p.1<N))=true:=by kernel_rfl) (m:o.dst=some d:=by rfl) (q:Region.wanted o (yielded ops (Dj a l).tmps)=true:=by rfl) (r:Region.noSelect ops=true:=by kernel_rfl) (s:Region.free .any ops L i=true:=by kernel_rfl) (b:(Region.ready .any ops L).contains i=true:=by kernel_rfl)
 (t:∀c a' w,Q (.panic c) (a'.put o.dst v) w->Q (.panic c) a' w:=by exact λ_ _ _ h=>h):Jd P ops Q w0 Z (n+1) L a l w:=by
 intro u;have e:=Wl g k;refine AB f r s b t q (λw'=>j _ w' e) ?_;rw[m];exact h (u.set (by simpa using b))
theorem Vk(i d:Nat)(v:Value)(b:List (List Nat))(f:ops[i]?=some o)(q:a.tmps.size=N)(r:Bw w0 w)(s:∀(A:Act) (w:Wd),E3 A (look (fr a) l)->Bw w0 w->(execOp A.eval o).run P w=.ok (.value v) w)(h:Jd P ops Q w0 Z n (L.setIfInBounds i true) a ((d,v)::l) w) 
 (t:l.all (λp=>decide (p.1<N))=true:=by kernel_rfl) (u:o.dst=some d:=by rfl) (x:Region.wanted o (yielded ops (Dj a l).tmps)=true:=by rfl) (y:Region.noSelect ops=true:=by kernel_rfl) (g:(Z.length==b.length&&(Z.zip b).all (λp=>Wz .any ops p.1 p.2 i))=true:=by kernel_rfl) (B:Region.free .any ops L i=true:=by kernel_rfl) (k:(Region.ready .any ops L).contains i=true:=by kernel_rfl)
 (C:∀c a' w,Q (.panic c) (a'.put o.dst v) w->Q (.panic c) a' w:=by exact λ_ _ _ h=>h):Jd P ops Q w0 Z (n+1) L a l w:=by
 intro m;have e:=Wl q t;refine YN f y ?_ C n L _ w m (Region.free_spec f B) (by simpa using k) (.inl ⟨x,λw' hS'=>s _ w' e hS'⟩) r ?_;intro z D;simp only[Em,beq_iff_eq,List.all_eq_true]at g;obtain⟨j,F,rfl⟩:=List.getElem_of_mem D;have E:j<b.length:=by omega
 exact⟨b[j],g.2 (Z[j],b[j]) (List.mem_iff_getElem.2 ⟨j,by simp;omega,by simp⟩)⟩;rw[u];exact h (m.set (by simpa using k))
def sK(u:Nat->Value):Operand->Value
 | .tmp t=>u t
 |x=>Act.eval ⟨#[], []⟩ x
theorem Xk{A:Act}{u:Nat->Value}(h:E3 A u):A.eval=sK u:=by
 funext x;cases x with
 |tmp t=>exact h.1 t
 |_=>rfl
theorem EA{N:Nat}{a:Act}(b:a.tmps.size=N):∀(l:List (Nat×Value)),(∀p∈l,fr a p.1=p.2/\p.1<N)->Dj a l=a
 |[],_=>rfl
 |p::l,h=>by
  rw[Dj,EA b l λq hq=>h q (by simp[hq])];obtain⟨c,d⟩:=h p (by simp);have e:a.tmps.setIfInBounds p.1 p.2=a.tmps:=by
   refine Array.ext_getElem? λi=>?_
   rw[Array.getElem?_setIfInBounds];split
   . next e=>
     subst e;rw[iP (by omega),<-c];simp[fr,show p.1<a.tmps.size by omega]
   rfl
  show({a with tmps:=a.tmps.setIfInBounds p.1 p.2}:Act)=a
  rw[e]
theorem aF{b N:Nat}(Z:List Nat)(l:List (Nat×Value))(c:a.tmps.size=N)(d:l.map (λp=>fr a p.1)=l.map Prod.snd)(h:Jd P ops Q w Z ops.size (Array.replicate ops.size false) a l w.drew)(e:l.all (λp=>decide (p.1<N))=true:=by kernel_rfl)(f:P.follows .mixedOrders=true:=by kernel_rfl):(Code.region b ops true).wp P Q a w:=bE _ Z f (by
 have:=h λk o _ hk=>aB hk (mJ k)
 rwa [EA c l λp hp=>⟨List.map_inj_left.1 d p hp,by simpa using List.all_eq_true.1 e p hp⟩]at this)
theorem De(i d:Nat)(v:Value)(b:ops[i]?=some o)(f:a.tmps.size=N)(h:Jd P ops Q w0 Z n (L.setIfInBounds i true) a ((d,v)::l) w)(g:∀w,(execOp (sK (look (fr a) l)) o).run P w=.ok (.value v) w:=by exact λ_=>rfl) 
 (j:l.all (λp=>decide (p.1<N))=true:=by kernel_rfl) (k:o.dst=some d:=by rfl) (m:Region.wanted o (yielded ops (Dj a l).tmps)=true:=by rfl) (q:Region.noSelect ops=true:=by kernel_rfl) (r:Region.free .any ops L i=true:=by kernel_rfl) (s:(Region.ready .any ops L).contains i=true:=by kernel_rfl)
 (t:∀c a' w,Q (.panic c) (a'.put o.dst v) w->Q (.panic c) a' w:=by exact λ_ _ _ h=>h):Jd P ops Q w0 Z (n+1) L a l w:=
 Kr i d v b f (λA w e=>by rw[Xk e];exact g w) h j k m q r s t
theorem Nk(i d t:Nat)(v:Value)(f:List (List Nat)){p:Addr}(k:ops[i]?=some o)(m:a.tmps.size=N)(q:Bw w0 w)(r:w0.cell? p=some v)(j:p.block<w0.heap.size)(h:Jd P ops Q w0 Z n (L.setIfInBounds i true) a ((d,v)::l) w) 
 (g:look (fr a) l t=.pointer (some p):=by rfl) (s:∀(A:Act) (b:Wd),A.eval (.tmp t)=.pointer (some p)->A.tmps.getD t undef=.pointer (some p)->A.tmps[t]?.getD undef=.pointer (some p)->b.cell? p=some v->p.block<b.heap.size->(execOp A.eval o).run P b=.ok (.value v) b:=by(intro A b F G H c K;go_simp))
 (u:l.all (λp=>decide (p.1<N))=true:=by kernel_rfl) (x:o.dst=some d:=by rfl) (y:Region.wanted o (yielded ops (Dj a l).tmps)=true:=by rfl) (z:Region.noSelect ops=true:=by kernel_rfl) (B:(Z.length==f.length&&(Z.zip f).all (λp=>Wz .any ops p.1 p.2 i))=true:=by kernel_rfl) (C:Region.free .any ops L i=true:=by kernel_rfl) (D:(Region.ready .any ops L).contains i=true:=by kernel_rfl)
 (E:∀c a' w,Q (.panic c) (a'.put o.dst v) w->Q (.panic c) a' w:=by exact λ_ _ _ h=>h):Jd P ops Q w0 Z (n+1) L a l w:=
 Vk i d v f k m q (λA b e hS'=>s A b (e.at g).1 (e.at g).2.1 (e.at g).2.2 ((hS'.cell (p:=p) j).trans r) (As j hS'.size)) h u x y z B C D E
theorem Rz(i d:Nat)(c:ops[i]?=some o)(e:a.tmps.size=N)(h:∀A:Act,E3 A (look (fr a) l)->∀K:Act->Wd->Prop,Af (∀v w',(i ∉ Z->Bw w0 w->Bw w0 w')->Jd P ops Q w0 Z n (L.setIfInBounds i true) a ((d,v)::l) w'->K (A.put (some d) v) w')->Oper.wp P o A w K Q) 
 (b:Region.ready .any ops L= [i]:=by kernel_rfl) (f:l.all (λp=>decide (p.1<N))=true:=by kernel_rfl) (j:o.dst=some d:=by rfl) (g:Region.wanted o (yielded ops (Dj a l).tmps)=true:=by rfl):Jd P ops Q w0 Z (n+1) L a l w:=
 λhc=>zo b c g λK hK=>h _ (Wl e f) K (I λv w' h1 h2=>hK.1 _ _ h1 (h2 (hc.set (by rw[b];simp))))
theorem Ub(i:Nat)(c:ops[i]?=some o)(d:a.tmps.size=N)(h:∀A:Act,E3 A (look (fr a) l)->∀K:Act->Wd->Prop,Af (∀w',(i ∉ Z->Bw w0 w->Bw w0 w')->Jd P ops Q w0 Z n (L.setIfInBounds i true) a l w'->K A w')->Oper.wp P o A w K Q) 
 (b:Region.ready .any ops L= [i]:=by kernel_rfl) (e:l.all (λp=>decide (p.1<N))=true:=by kernel_rfl) (f:Region.wanted o (yielded ops (Dj a l).tmps)=true:=by rfl):Jd P ops Q w0 Z (n+1) L a l w:=
 λhc=>zo b c f λK hK=>h _ (Wl d e) K (I λw' h1 h2=>hK.1 _ _ h1 (h2 (hc.set (by rw[b];simp))))
theorem Wn(h:Q .normal (Dj a l) w)(b:Region.ready .any ops L= []:=by kernel_rfl):Jd P ops Q w0 Z n L a l w:=λ_=>zM b h
end
theorem aE{P:Program}{c:Code}{Q:Exit->Act->Wd->Prop}{b:Act}(h:∀a,a=b->Code.wp P c Q a w):Code.wp P c Q b w:=h _ rfl
def Nn(k:Nat):TypeId:= [218,118,120,116,305,307].getD k 0
def Nm(k:Nat):Nat:= [5,6,5,4,4,3].getD k 0
def sH:Nat->LV->Prop
 |0,h=>∃s:BA,h= [.string s]/\s.size<=140737488355328
 |1,h=>∃(n:Int) (s:BA),h= [.int .i64 n,.string s]/\(Lit.int .i64 n).wf=true/\s.size<=140737488355328
 |2,h=>∃n:Int,h= [.int .i64 n]/\(Lit.int .i64 n).wf=true
 |3,h=>h= []
 |4,h=>∃(s t:BA) (a b:Int),h= [.string s,.string t,.int .i64 a,.int .i64 b]/\s.size<=140737488355328/\t.size<=140737488355328
 |5,h=>∃(s:BA) (a b:Int),h= [.string s,.int .i64 a,.int .i64 b]/\s.size<=140737488355328
 |_,_=>False
def Mq(k:Nat)(P:Nat->Prop)(w:Wd)(c:LV):Prop:=∃h e,c=h++e/\sH k h/\(k<4->Iu P w e)/\(4<=k->e= [])
theorem Mq.step{Q:Nat->Prop}(h:Mq k P w c)(d:∀b,b<w.heap.size->P b->Q b/\w'.heap[b]?=w.heap[b]?):Mq k Q w' c:=by
 obtain⟨a,e,f,g,i,j⟩:=h;exact⟨a,e,f,g,λhk=>(i hk).step d,j⟩
structure CI(lo cb sb:Nat)(n:Nat)(I:Nat->Int)(U:Nat->Value)(C:Nat->List (LV))(w:Wd):Prop where
 box:w.heap[cb]?=some (.cells #[(I 0),(I 1),(I 2),(I 3),(I 4),(I 5),(I 6),U 0,U 1,U 2,U 3,U 4,U 5,(I 7)] 35 (0,0))
 seen:∃s:Nat->Bool,w.heap[sb]?=some (.cells #[.bool (s 0),.bool (s 1),.bool (s 2),.bool (s 3),.bool (s 4),.bool (s 5),.bool (s 6)] 229 (0,0))
 own:∀k,k<6->w.ownsRow lo (Nn k) (Nm k) (U k) (C k).length (C k).flatten
 ok:∀k,k<6->∀c∈C k,Mq k (λb=>lo<=b/\∀j,j<6->(U j).ownBlock≠some b) w c
 len:∀k,k<6->(C k).length<=n
 lt:cb<lo/\sb<lo/\cb≠sb
def up{A:Type}(f:Nat->A)(k:Nat)(v:A):Nat->A:=λj=>if j=k then v else f j
structure DF(lo cb sb:Nat)(w w':Wd):Prop where
 os:w'.os=w.os
 tape:w'.tape=w.tape
 output:w'.output=w.output
 size:w.heap.size<=w'.heap.size
 blk:∀b,b<lo->b≠cb->b≠sb->b<w.heap.size->w'.heap[b]?=w.heap[b]?
theorem DF.refl(lo a sb:Nat)(w:Wd):DF lo a sb w w:=⟨rfl,rfl,rfl,Bv _,λ_ _ _ _ _=>rfl⟩
theorem DF.trans{a b c:Wd}(h:DF lo d sb a b)(k:DF lo d sb b c):DF lo d sb a c:=⟨k.os.trans h.os,k.tape.trans h.tape,k.output.trans h.output,Bf h.size k.size,λx h1 h2 h3 h4=>(k.blk x h1 h2 h3 (As h4 h.size)).trans (h.blk x h1 h2 h3 h4)⟩
theorem DF.of(h:Bw w w'):DF lo a sb w w':=⟨h.os,h.tape,h.output,h.size,λb _ _ _ h4=>h.block b h4⟩
section
variable {lo cb sb n:Nat} {I0:Nat→Int} {U:Nat→Value} {C:Nat→List (LV)} {w w':Wd} (S:CI lo cb sb n I0 U C w)
include S
theorem CI.below(h:Bw w w'):CI lo cb sb n I0 U C w' where
 box:=Ac h S.box
 seen:=by obtain⟨s,q⟩:=S.seen;exact⟨s,Ac h q⟩
 own k hk:=(S.own k hk).kept (Sj (r:=none) h) (by cases (U k).ownBlock <;> simp)
 ok k hk c hc:=(S.ok k hk c hc).step λb hb hP=>⟨hP,h.block b hb⟩
 len:=S.len
 lt:=S.lt
theorem CI.more{a:Nat}(h:n<=a):CI lo cb sb a I0 U C w:={S with len:=λk hk=>Bf (S.len k hk) h}
theorem CI.store{a:Nat->Int}{b i:Nat}{v:Value}(d:b=cb\/b=sb)(e:(w.setCell (aD b i) v).heap[cb]?=some (.cells #[(a 0),(a 1),(a 2),(a 3),(a 4),(a 5),(a 6),U 0,U 1,U 2,U 3,U 4,U 5,(a 7)] 35 (0,0))) 
 (f:∃s:Nat->Bool,(w.setCell (aD b i) v).heap[sb]?=some (.cells #[.bool (s 0),.bool (s 1),.bool (s 2),.bool (s 3),.bool (s 4),.bool (s 5),.bool (s 6)] 229 (0,0))):CI lo cb sb n a U C (w.setCell (aD b i) v) where
 box:=e
 seen:=f
 own k hk:=ownsRow_setCell_below (S.own k hk) (by have:=S.lt;rcases d with rfl|rfl;exact this.1;exact this.2.1) v
 ok k hk c hc:=(S.ok k hk c hc).step λx hx hP=>⟨hP,Below.heap_setCell w (aD b i) v x (by have:=S.lt;have:=hP.1;show x≠b;rcases d with rfl|rfl <;> omega)⟩
 len:=S.len
 lt:=S.lt
theorem CI.int{j:Nat}(a:j<8)(v:Int):CI lo cb sb n (up I0 j v) U C (w.setCell (aD cb (if j<7 then j else 13)) (Bn v)):=by
 refine S.store (.inl rfl) ?_ ?_;rw[zg S.box];match j,a with
 |0,_|1,_|2,_|3,_|4,_|5,_|6,_|7,_=>simp[up]
 obtain⟨s,q⟩:=S.seen;exact⟨s,(Below.heap_setCell w (aD cb _) _ sb (Ne.symm S.lt.2.2)).trans q⟩
theorem CI.df{b i:Nat}{v:Value}(a:b=cb\/b=sb):DF lo cb sb w (w.setCell (aD b i) v):=
 ⟨rfl,rfl,rfl,by simp[World.setCell],λx _ h2 h3 _=>Below.heap_setCell w (aD b i) v x (by rcases a with rfl|rfl;exact h2;exact h3)⟩
theorem CI.push{k:Nat}(p:k<6){c:LV}(L:Mq k (λb=>lo<=b/\∀j,j<6->(U j).ownBlock≠some b) w c){u:Obj}{g cap H:Nat}(B:w'.ownsRow lo (Nn k) (Nm k) (Hy g 0 ((C k).length+1) cap) ((C k).length+1) ((C k).flatten++c))(q:(w.alloc u).grownBy w' (U k).ownBlock) 
 (M:(U k).ownBlock=some g\/g=H) (W:H=w.heap.size+1):
 CI lo cb sb (n+1) I0 (up U k (Hy g 0 ((C k).length+1) cap)) (up C k (C k++ [c])) (w'.setCell (aD cb (7+k)) (Hy g 0 ((C k).length+1) cap))/\DF lo cb sb w (w'.setCell (aD cb (7+k)) (Hy g 0 ((C k).length+1) cap)):=by
 have X:(w.alloc u).heap.size=w.heap.size+1:=by simp
 have s:=S.lt;have v:=Ag S.box;obtain⟨N,D⟩:=S.seen;have x:=Ag D;have r:∀j,j<6->∀b,(U j).ownBlock=some b->lo<=b/\b<w.heap.size:=λj hj b e=>(S.own j hj).lt b e;have f:∀b,b<w.heap.size->(U k).ownBlock≠some b->w'.heap[b]?=w.heap[b]?:=λb hb hne=>(q.block b (by omega) (λe=>hne e.symm)).trans (heap_alloc_old w _ hb);have P:lo<=g:=by
  rcases B.2 with⟨e,_⟩|⟨Y,E,m,e,y,_⟩;cases e;cases e;exact y
 have a:∀b,b<lo->(U k).ownBlock≠some b:=λb hb e=>by have:=(r k p b e).1;omega
 refine⟨{box:=?_,seen:=⟨N,?_⟩,own:=λj hj=>?_,ok:=λj hj d l=>?_,len:=λj hj=>?_,lt:=S.lt},⟨q.os,q.tape,q.output,by have:=q.size;simp[World.setCell];omega,λb y h2 _ h4=>(Below.heap_setCell _ _ _ _ h2).trans (f b h4 (a b y))⟩⟩;rw[zg ((f cb v (a cb s.1)).trans S.box)];match k,p with
 |0,_|1,_|2,_|3,_|4,_|5,_=>simp[up]
 exact(Below.heap_setCell _ _ _ _ (Ne.symm s.2.2)).trans ((f sb x (a sb s.2.1)).trans D);refine ownsRow_setCell_below ?_ s.1 _;by_cases e:j=k;subst e;simpa[up] using B;have Q:up U k (Hy g 0 ((C k).length+1) cap) j=U j:=iN e;have R:up C k (C k++ [c]) j=C j:=iN e;rw[Q,R];refine((S.own j hj).alloc u).kept q ?_;cases t:(U j).ownBlock with
 |none=>exact .inl rfl
 |some b=>
  refine .inr λek=>?_
  have d:∀j,j<6->∀k,k<6->j≠k->Nn j≠Nn k:=by decide
  obtain⟨F,T⟩:∃F,w.heap[b]?=some (.cells F (Nn j) (0,0)):=by
   rcases(S.own j hj).2 with⟨h,_⟩|⟨V,_,m,h,_,z,_⟩
   . rw[h]at t;cases t
   rw[h]at t;cases t;exact⟨m,z⟩
  obtain⟨G,A⟩:∃G,w.heap[b]?=some (.cells G (Nn k) (0,0)):=by
   rcases(S.own k p).2 with⟨h,_⟩|⟨V,_,m,h,_,z,_⟩
   . rw[h]at ek;cases ek
   rw[h]at ek;cases ek;exact⟨m,z⟩
  rw[T]at A;simp only[Option.some.injEq,Obj.cells.injEq]at A;exact d j hj k p e A.2.1
 have o:∀d,Mq j (λb=>lo<=b/\∀j,j<6->(U j).ownBlock≠some b) w d->Mq j (λb=>lo<=b/\∀i,i<6->(up U k (Hy g 0 ((C k).length+1) cap) i).ownBlock≠some b) (w'.setCell (aD cb (7+k)) (Hy g 0 ((C k).length+1) cap)) d:=λd l=>l.step λb hb hP=>by
  refine⟨⟨hP.1,λi hi e=>?_⟩,(Below.heap_setCell _ _ _ _ (show b≠cb by have:=hP.1;omega)).trans (f b hb (hP.2 k p))⟩;by_cases K:i=k;rw[up,iP K]at e;obtain rfl:g=b:=by simpa[Value.ownBlock] using e
  rcases M with h|h;exact hP.2 k p h;omega;rw[up,iN K]at e;exact hP.2 i hi e
 by_cases e:j=k;subst e;rw[up,iP rfl]at l;rcases List.mem_append.1 l with l|l;exact o d (S.ok j hj d l);obtain rfl:=List.mem_singleton.1 l;exact o _ L;rw[up,iN e]at l;exact o d (S.ok j hj d l);by_cases e:j=k;subst e;have:=S.len j hj;simp[up];omega;have:=S.len j hj;rw[up,iN e];omega
end
abbrev Ij:=Qt (λ_=>True)
theorem Ij.cells{a:Ae}(h:Ij w (.slice a n cap) n)(g:i<n):∃b c,a=some (aD b c)/\b<w.heap.size/\∃(k:Int) (s:BA) (m p:Int),
 w.cell? (aD b (c+i*4))=some (Bn k)/\w.cell? (aD b (c+i*4+1))=some (.string s)/\w.cell? (aD b (c+i*4+2))=some (Bn m)/\w.cell? (aD b (c+i*4+3))=some (Bn p)/\s.size<=2^47/\(Lit.int .i64 m).wf=true:=by
 obtain⟨_,o,d,e,_,_,j⟩:=h;cases e;obtain⟨b,c,e,_,l⟩:=j (by omega);obtain⟨k,s,m,p,f,r⟩:=l i g;exact⟨b,c,e,bK w _ f,k,s,m,p,f,r⟩
abbrev Fe(cb sb:Nat):=Qt (λb=>b≠cb/\b≠sb)
theorem Fe.tt(h:Fe a sb w v n):Ij w v n:=h.imp λ_ _ _=>trivial
theorem Fe.below(h:Fe a sb w v n)(b:Bw w w'):Fe a sb w' v n:=h.step λk hk _=>b.block k hk
theorem Fe.own{c:Nat}{u:Value}(h:Fe a sb w v n)(b:c=a\/c=sb):Fe a sb (w.setCell (aD c i) u) v n:=h.step λk hk hx=>Below.heap_setCell _ _ _ _ (show k≠c by rcases b with rfl|rfl;exact hx.1;exact hx.2)
theorem Fe.cells{a:Ae}(h:Fe d sb w (.slice a n cap) n)(j:i<n):∃b c,a=some (aD b c)/\b<w.heap.size/\b≠d/\b≠sb:=by
 obtain⟨_,t,f,e,_,_,l⟩:=h;cases e;obtain⟨b,c,e,g,o⟩:=l (by omega);obtain⟨k,s,m,p,q,r⟩:=o i j;exact⟨b,c,e,bK w _ q,g.1,g.2⟩
section
variable {lo cb sb m:Nat} {I0:Nat→Int} {U:Nat→Value} {C:Nat→List (LV)}
theorem CI.drew{w:Wd}(S:CI lo cb sb m I0 U C w):CI lo cb sb m I0 U C w.drew:=S.below (dr w 1)
end
theorem ZT{h:LV}(H:sH k h):h.length=Nm k-(if k<4 then 4 else 0)/\∀u∈h,u.oneCell'=true:=by
 match k with
 |0=>obtain⟨s,rfl,_⟩:=H;exact⟨rfl,λu hu=>by simp at hu;subst hu;rfl⟩
 |1=>obtain⟨n,s,rfl,_⟩:=H;exact⟨rfl,λu hu=>by simp at hu;rcases hu with rfl|rfl <;> rfl⟩
 |2=>obtain⟨n,rfl,_⟩:=H;exact⟨rfl,λu hu=>by simp at hu;subst hu;rfl⟩
 |3=>obtain rfl:h= []:=H;exact⟨rfl,λu hu=>by cases hu⟩
 |4=>obtain⟨s,t,x,y,rfl,_⟩:=H;exact⟨rfl,λu hu=>by simp at hu;rcases hu with rfl|rfl|rfl|rfl <;> rfl⟩
 |5=>obtain⟨s,x,y,rfl,_⟩:=H;exact⟨rfl,λu hu=>by simp at hu;rcases hu with rfl|rfl|rfl <;> rfl⟩
 |k+6=>exact H.elim
theorem Mq.len(j:k<6)(H:Mq k P w c):c.length=Nm k/\∀u∈c,u.oneCell'=true:=by
 obtain⟨h,e,rfl,f,g,i⟩:=H;have L:=ZT f;by_cases d:k<4;obtain⟨x,a,l,rfl,_⟩:=g d;rw[iP d]at L;have m:4<=Nm k:=by match k,d with|0,_|1,_|2,_|3,_=>decide
 refine⟨(by rw[Gh,L.1];simp[xv];omega),λu b=>?_⟩;rcases List.mem_append.1 b with b|b;exact L.2 u b;simp[xv]at b;rcases b with rfl|rfl|rfl|rfl <;> rfl;obtain rfl:=i (by omega);rw[iN d]at L;simpa using L
section
variable {lo cb sb m n:Nat} {I0:Nat→Int} {U:Nat→Value} {C:Nat→List (LV)} {w0 w w':Wd} {v:Value}
structure DS(lo cb sb m:Nat)(I0:Nat->Int)(U:Nat->Value)(C:Nat->List (LV))(w0:Wd)(v:Value)(n:Nat)(w:Wd):Prop where
 ci:CI lo cb sb m I0 U C w
 tk:Fe cb sb w v n
 df:DF lo cb sb w0 w
 le:lo<=w.heap.size
theorem DS.call(S:DS lo cb sb m I0 U C w0 v n w)(h:Bw w w'):DS lo cb sb m I0 U C w0 v n w':=⟨S.ci.below h,S.tk.below h,S.df.trans (DF.of h),Bf S.le h.size⟩
abbrev HD(lo cb sb m:Nat)(I0:Nat->Int)(U:Nat->Value)(C:Nat->List (LV))(w0:Wd)(v:Value)(n:Nat)(w:Wd):Prop:=Af (DS lo cb sb m I0 U C w0 v n w)
variable {a:Ae} {cap:Nat}
theorem DS.tx{b a:Nat}(S:DS lo cb sb m I0 U C w0 (Hy b a n cap) n w){i:Nat}(c:i<n):∃(s:BA) (p:Int),w.cell? (aD b (a+i*4+1))=some (.string s)/\w.cell? (aD b (a+i*4+2))=some (Bn p)/\s.size<=2^47/\(Lit.int .i64 p).wf=true/\b<w.heap.size:=by
 obtain⟨_,_,e,d,k,s,q,p,l,f,g,o,h,j⟩:=Ij.cells S.tk.tt c;cases e;exact⟨s,q,f,g,h,j,d⟩
theorem DS.drop{f d:Nat}(S:DS lo cb sb m I0 U C w0 (Hy f d n cap) n w)(i:Nat):Qt (λ_=>True) w (Hy f (d+i*4) (n-i) (cap-i)) (n-i):=by
 obtain⟨l,a,c,e,t,u,g⟩:=S.tk;cases e;refine⟨by omega,_,_,rfl,by omega,by omega,λhn=>⟨f,d+i*4,rfl,trivial,λj hj=>?_⟩⟩;obtain⟨b,o,e,_,h⟩:=g (by omega);cases e;obtain⟨k,s,q,p,r⟩:=h (i+j) (by omega);rw[show d+(i+j)*4=d+i*4+j*4 by omega]at r;exact⟨k,s,q,p,r⟩
def sG(lo cb sb m:Nat)(w:Wd)(e:Ending)(w':Wd):Prop:=∃(k:Int) (J0:Nat->Int) (U:Nat->Value) (C:Nat->List (LV)),e=.returned k/\CI lo cb sb (m+1) J0 U C w'/\DF lo cb sb w w'
theorem HD.fail(S:HD lo cb sb m I0 U C w0 v n w)(k:Int):sG lo cb sb m w0 (.returned k) w:=⟨k,I0,U,C,rfl,S.1.ci.more (Nat.le_succ _),S.1.df⟩
def XB(lo:Nat)(U:Nat->Value)(xb:Nat)(x:zH)(xa:Ae)(xc:Nat)(w:Wd):Prop:=w.heap[xb]?=some (.cells (xv x xa xc).toArray 116 (0,0))/\Iu (λb=>lo<=b/\∀j,j<6->(U j).ownBlock≠some b) w (xv x xa xc)
theorem XB.call{a:Nat}{x:zH}{c:Ae}{d:Nat}(h:XB lo U a x c d w)(e:Bw w w'):XB lo U a x c d w':=⟨Ac e h.1,h.2.step λb hb hP=>⟨hP,e.block b hb⟩⟩
theorem DS.xb{x:zH}{a:Ae}{c:Nat}(S:DS lo cb sb m I0 U C w0 v n w)(E:Iu (λb=>w.heap.size<=b) w' (xv x a c))(d:Bw w w'):XB lo U w'.heap.size x a c (w'.alloc (.cells (xv x a c).toArray 116)):=
 ⟨zh _ _,E.step λb hb hP=>⟨⟨Bf S.le hP,λj hj e=>by have:=((S.ci.own j hj).lt b e).2;omega⟩,heap_alloc_old _ _ hb⟩⟩
end
section
variable {ops:Array Oper} {Q:Exit→Act→Wd→Prop} {w0 w:Wd} {Z:List Nat} {n i d N:Nat} {L:Array Bool} {a:Act} {l:List (Nat×Value)} {o:Oper}
variable {lo cb sb m:Nat} {I0:Nat→Int} {U:Nat→Value} {C:Nat→List (LV)}
end
section
variable {lo cb sb m:Nat} {I0:Nat→Int} {U:Nat→Value} {C:Nat→List (LV)}
end
section
variable {P:Program} {ops:Array Oper} {Q:Exit→Act→Wd→Prop} {w0 w:Wd} {Z:List Nat} {n N:Nat} {L:Array Bool} {a:Act} {l:List (Nat×Value)} {oi oj:Oper}
theorem rgDuo(i j c d:Nat)(g:ops[i]?=some oi)(h:ops[j]?=some oj)(e:a.tmps.size=N) 
 (k:∀A:Act,E3 A (look (fr a) l)->∀K:Act->Wd->Prop,Af (∀v w',(i ∉ Z->Bw w0 w->Bw w0 w')->Jd P ops Q w0 Z n (L.setIfInBounds i true) a ((c,v)::l) w'->K (A.put (some c) v) w')->Oper.wp P oi A w K Q)
 (m:∀A:Act,E3 A (look (fr a) l)->∀K:Act->Wd->Prop,Af (∀v w',(j ∉ Z->Bw w0 w->Bw w0 w')->Jd P ops Q w0 Z n (L.setIfInBounds j true) a ((d,v)::l) w'->K (A.put (some d) v) w')->Oper.wp P oj A w K Q)
 (b:Region.ready .any ops L= [i,j]:=by kernel_rfl) (f:l.all (λp=>decide (p.1<N))=true:=by kernel_rfl) (o:Region.wanted oi (yielded ops (Dj a l).tmps)=true:=by rfl) (q:Region.wanted oj (yielded ops (Dj a l).tmps)=true:=by rfl):Jd P ops Q w0 Z (n+1) L a l w:=
 λhc=>Yr b g h o q (λK hK=>k _ (Wl e f) K (I λv w' g1 g2=>hK.1 _ _ g1 (g2 (hc.set (by rw[b];simp))))) (λK hK=>m _ (Wl e f) K (I λv w' g1 g2=>hK.1 _ _ g1 (g2 (hc.set (by rw[b];simp)))))
theorem zBq{a:Act}{i j:Nat}{u v:Value}{l:List (Nat×Value)}(h:i≠j):Dj a ((i,u)::(j,v)::l)=Dj a ((j,v)::(i,u)::l):=by
 simp only[Dj,Act.put];rw[Array.setIfInBounds_comm _ _ (Ne.symm h)]
theorem zCg{a:Act}{i:Nat}{u:Value}(l:List (Nat×Value)):∀(m:List (Nat×Value)),m.all (λp=>p.1 !=i)=true->Dj a (m++(i,u)::l)=Dj a ((i,u)::(m++l))
 |[],_=>rfl
 |p::m,h=>by
  simp only[List.all_cons,Em,bne_iff_ne]at h;have b:=zCg (a:=a) (u:=u) l m h.2;show(Dj a (m++(i,u)::l)).put (some p.1) p.2=_
  rw[b];exact zBq (i:=p.1) (u:=p.2) h.1
def PostQ(Post:Act->Wd->Prop)(Q:Exit->Act->Wd->Prop):Exit->Act->Wd->Prop
 | .normal,a,w=>Post a w
 |e,a,w=>Q e a w
theorem rgCut{c:Nat}(b:Act->Wd->Prop)(Z:List Nat)(l:List (Nat×Value))(d:a.tmps.size=N)(f:l.map (λp=>fr a p.1)=l.map Prod.snd)(h:Jd P ops (PostQ b Q) w Z ops.size (Array.replicate ops.size false) a l w.drew)(g:∀a' w',b a' w'->Q .normal a' w')(i:l.all (λp=>decide (p.1<N))=true:=by kernel_rfl)(j:P.follows .mixedOrders=true:=by kernel_rfl):(Code.region c ops true).wp P Q a w:=
 Code.wp_mono (λe a' w' h=>by
  cases e with
  |normal=>exact g a' w' h
  |_=>exact h) (aF Z l d f h i j)
end
section
variable {P:Program} {ops:Array Oper} {Q:Exit→Act→Wd→Prop} {S:Wd→Prop} {w:Wd} {Z:List Nat} {n i d N:Nat} {L:Array Bool} {a:Act} {l:List (Nat×Value)} {o:Oper} {v:Value}
def rxR(P:Program)(ops:Array Oper)(Q:Exit->Act->Wd->Prop)(S:Wd->Prop)(Z:List Nat)(n:Nat)(L:Array Bool)(a:Act)(l:List (Nat×Value))(w:Wd):Prop:=Wo .any ops L->Ds P .any ops Q S Z n L (Dj a l) w
theorem zCP{b N:Nat}(S:Wd->Prop)(Z:List Nat)(l:List (Nat×Value))(c:a.tmps.size=N)(d:l.map (λp=>fr a p.1)=l.map Prod.snd)(h:rxR P ops Q S Z ops.size (Array.replicate ops.size false) a l w.drew)(e:l.all (λp=>decide (p.1<N))=true:=by kernel_rfl)(f:P.follows .mixedOrders=true:=by kernel_rfl):(Code.region b ops true).wp P Q a w:=bE _ Z f (by
 have:=h λk o _ hk=>aB hk (mJ k)
 rwa [EA c l λp hp=>⟨List.map_inj_left.1 d p hp,by simpa using List.all_eq_true.1 e p hp⟩]at this)
theorem rxQ(i d:Nat)(v:Value)(f:ops[i]?=some o)(g:a.tmps.size=N)(h:rxR P ops Q S Z n (L.setIfInBounds i true) a ((d,v)::l) w)(j:∀w,(execOp (sK (look (fr a) l)) o).run P w=.ok (.value v) w:=by exact λ_=>rfl) 
 (k:l.all (λp=>decide (p.1<N))=true:=by kernel_rfl) (m:o.dst=some d:=by rfl) (q:Region.wanted o (yielded ops (Dj a l).tmps)=true:=by rfl) (r:Region.noSelect ops=true:=by kernel_rfl) (s:Region.free .any ops L i=true:=by kernel_rfl) (b:(Region.ready .any ops L).contains i=true:=by kernel_rfl)
 (t:∀c a' w,Q (.panic c) (a'.put o.dst v) w->Q (.panic c) a' w:=by exact λ_ _ _ h=>h):rxR P ops Q S Z (n+1) L a l w:=by
 intro u;have e:=Wl g k;refine AB f r s b t q (λw'=>by rw[Xk e];exact j w') ?_;rw[m];exact h (u.set (by simpa using b))
theorem rxT(i d:Nat)(v:Value)(b:List (List Nat))(f:ops[i]?=some o)(q:a.tmps.size=N)(r:S w)(s:∀(A:Act) (w:Wd),E3 A (look (fr a) l)->S w->(execOp A.eval o).run P w=.ok (.value v) w)(h:rxR P ops Q S Z n (L.setIfInBounds i true) a ((d,v)::l) w) 
 (t:l.all (λp=>decide (p.1<N))=true:=by kernel_rfl) (u:o.dst=some d:=by rfl) (x:Region.wanted o (yielded ops (Dj a l).tmps)=true:=by rfl) (y:Region.noSelect ops=true:=by kernel_rfl) (g:(Z.length==b.length&&(Z.zip b).all (λp=>Wz .any ops p.1 p.2 i))=true:=by kernel_rfl) (B:Region.free .any ops L i=true:=by kernel_rfl) (k:(Region.ready .any ops L).contains i=true:=by kernel_rfl)
 (C:∀c a' w,Q (.panic c) (a'.put o.dst v) w->Q (.panic c) a' w:=by exact λ_ _ _ h=>h):rxR P ops Q S Z (n+1) L a l w:=by
 intro m;have e:=Wl q t;refine YN f y ?_ C n L _ w m (Region.free_spec f B) (by simpa using k) (.inl ⟨x,λw' hS'=>s _ w' e hS'⟩) r ?_;intro z D;simp only[Em,beq_iff_eq,List.all_eq_true]at g;obtain⟨j,F,rfl⟩:=List.getElem_of_mem D;have E:j<b.length:=by omega
 exact⟨b[j],g.2 (Z[j],b[j]) (List.mem_iff_getElem.2 ⟨j,by simp;omega,by simp⟩)⟩;rw[u];exact h (m.set (by simpa using k))
theorem rxO(i d:Nat)(c:ops[i]?=some o)(e:a.tmps.size=N)(h:∀A:Act,E3 A (look (fr a) l)->∀K:Act->Wd->Prop,Af (∀v w',(i ∉ Z->S w->S w')->rxR P ops Q S Z n (L.setIfInBounds i true) a ((d,v)::l) w'->K (A.put (some d) v) w')->Oper.wp P o A w K Q) 
 (b:Region.ready .any ops L= [i]:=by kernel_rfl) (f:l.all (λp=>decide (p.1<N))=true:=by kernel_rfl) (j:o.dst=some d:=by rfl) (g:Region.wanted o (yielded ops (Dj a l).tmps)=true:=by rfl):rxR P ops Q S Z (n+1) L a l w:=
 λhc=>zo b c g λK hK=>h _ (Wl e f) K (I λv w' h1 h2=>hK.1 _ _ h1 (h2 (hc.set (by rw[b];simp))))
theorem rxS(i:Nat)(c:ops[i]?=some o)(d:a.tmps.size=N)(h:∀A:Act,E3 A (look (fr a) l)->∀K:Act->Wd->Prop,Af (∀w',(i ∉ Z->S w->S w')->rxR P ops Q S Z n (L.setIfInBounds i true) a l w'->K A w')->Oper.wp P o A w K Q) 
 (b:Region.ready .any ops L= [i]:=by kernel_rfl) (e:l.all (λp=>decide (p.1<N))=true:=by kernel_rfl) (f:Region.wanted o (yielded ops (Dj a l).tmps)=true:=by rfl):rxR P ops Q S Z (n+1) L a l w:=
 λhc=>zo b c f λK hK=>h _ (Wl d e) K (I λw' h1 h2=>hK.1 _ _ h1 (h2 (hc.set (by rw[b];simp))))
theorem zCQ(h:Q .normal (Dj a l) w)(b:Region.ready .any ops L= []:=by kernel_rfl):rxR P ops Q S Z n L a l w:=λ_=>zM b h
end
def lstd(L:Array Bool):List Nat->Array Bool
 |[]=>L
 |i::T=>(lstd L T).setIfInBounds i true
def zBc(R:List Nat):Nat->List (List Nat)
 |0=> [[]]
 |k+1=>(zBc R k).flatMap λT=>(R.filter λi=>!T.contains i).map λi=>i::T
theorem zCh{a:Act}{c f:List (Nat×Value)}(h:c.Perm f):(c.map Prod.fst).Nodup->Dj a (c++l)=Dj a (f++l):=by
 induction h with
 |nil=>intro _;rfl
 |cons x _ ih=>
  intro b;show(Dj a (_++l)).put _ _=(Dj a (_++l)).put _ _
  rw[ih (List.nodup_cons.1 b).2]
 |swap x y t=>
  intro b;have d:y.1≠x.1:=λe=>(List.nodup_cons.1 b).1 (by simp[e])
  exact zBq (i:=y.1) (j:=x.1) d
 |trans h1 h2 ih1 ih2=>
  intro b;exact(ih1 b).trans (ih2 ((h1.map _).nodup_iff.1 b))
theorem zBs:∀(m:List (Nat×Value)),(∀p∈m,p.1≠t)->look u (m++l) t=look u l t
 |[],_=>rfl
 |p::m,h=>by
  show look u (p::(m++l)) t=_
  rw[look,iN (h p (by simp))];exact zBs m λq hq=>h q (by simp[hq])
section
variable {P:Program} {ops:Array Oper} {Q:Exit→Act→Wd→Prop} {w0 w:Wd} {Z:List Nat} {n N:Nat} {L:Array Bool} {a:Act} {l:List (Nat×Value)}
theorem rgFree(R:List Nat)(D:Nat->Nat)(O:Nat->Obj)(V:Nat->Nat->Value)(hN:a.tmps.size=N) 
 (a0:∀i∈R,∃F,ops[i]?=some F/\F.dst=some (D i)/\F.guard=none/\∀(A:Act) (b:Wd),(∀t,(R.map D).contains t=false->A.eval (.tmp t)=look (fr a) l t/\A.tmps.getD t undef=look (fr a) l t/\A.tmps[t]?.getD undef=look (fr a) l t)->(execOp A.eval F).run P b=.ok (.value (V i b.heap.size)) (b.alloc (O i)))
 (hB:Bw w0 w)
 (H:∀(p:Nat->Nat) (b:Wd),(∀i∈R,w.heap.size<=p i/\p i<b.heap.size/\b.heap[p i]?=some (O i))->(∀i∈R,∀j∈R,p i=p j->i=j)->Bw w b->Jd P ops Q w0 Z n (lstd L R) a (R.map (λi=>(D i,V i (p i)))++l) b)
 (hl:l.all (λp=>decide (p.1<N))=true:=by kernel_rfl) (hD:R.all (λi=>decide (D i<N))=true:=by kernel_rfl) (a1:(R.map D).Nodup:=by decide)
 (hr:(List.range R.length).all (λk=>(zBc R k).all λT=>Region.ready .any ops (lstd L T)==(R.filter λi=>!T.contains i) && !(R.filter λi=>!T.contains i).isEmpty)=true:=by kernel_rfl)
 (hp:(zBc R R.length).all (λT=>T.isPerm R&&(lstd L T==lstd L R))=true:=by kernel_rfl):Jd P ops Q w0 Z (n+R.length) L a l w:=by
 intro a2;have a3:∀(m k:Nat) (T:List Nat) (p:Nat->Nat) (b:Wd),k+m=R.length->T∈zBc R k->T.Nodup->(∀i∈T,i∈R)->Wo .any ops (lstd L T)->(∀i∈T,w.heap.size<=p i/\p i<b.heap.size/\b.heap[p i]?=some (O i))->(∀i∈T,∀j∈T,p i=p j->i=j)->Bw w b->
  Ds P .any ops Q (λb=>Bw w0 b) Z (n+m) (lstd L T) (Dj a (T.map (λi=>(D i,V i (p i)))++l)) b:=by
  intro m;induction m with
  |zero=>
   intro k T p b hk hT K o u r v f;obtain rfl:k=R.length:=by omega
   have B:=List.all_eq_true.1 hp T hT;simp only[Em,beq_iff_eq]at B;have c:T.Perm R:=List.isPerm_iff.1 B.1
   rw[B.2,zCh (c.map _) (by
    rw[List.map_map];exact((c.map D).nodup_iff).2 a1)]
   refine H p b (λi hi=>r i (c.mem_iff.2 hi)) (λi hi j d=>v i (c.mem_iff.2 hi) j (c.mem_iff.2 d)) f ?_;rw[<-B.2];exact u
  |succ m ih=>
   intro k T p b hk hT K o u r v f;have B:=List.all_eq_true.1 (List.all_eq_true.1 hr k (List.mem_range.2 (by omega))) T hT;simp only[Em,beq_iff_eq,Bool.not_eq_true']at B;obtain⟨M,S⟩:=B;refine⟨λh0=>?_,λi hi=>?_⟩
   . rw[M]at h0;rw[h0]at S;cases S
   have U:=hi;rw[M]at U;obtain⟨C,g⟩:=List.mem_filter.1 U;have g:i ∉ T:=by simpa using g
   obtain⟨F,a4,a5,a6,a7⟩:=a0 i C;have W:(T.map (λi=>(D i,V i (p i)))++l).all (λp=>decide (p.1<N))=true:=by
    rw[List.all_append,Em];refine⟨List.all_eq_true.2 λq hq=>?_,hl⟩;obtain⟨j,d,rfl⟩:=List.mem_map.1 hq;exact List.all_eq_true.1 hD j (o j d)
   have e3:=Wl hN W
   have X:=a7 (Dj a (T.map (λi=>(D i,V i (p i)))++l)) b (λt ht=>by
    have hs:look (fr a) (T.map (λi=>(D i,V i (p i)))++l) t=look (fr a) l t:=zBs _ λq hq=>by
     obtain⟨j,d,rfl⟩:=List.mem_map.1 hq;intro e;have:(R.map D).contains t=true:=by
      rw[List.contains_iff_mem];exact List.mem_map.2 ⟨j,o j d,e⟩
     rw[this]at ht;cases ht
    exact⟨(e3.1 t).trans hs,(e3.2.1 t).trans hs,(e3.2.2 t).trans hs⟩)
   have a8:Bw w0 b:=hB.trans (f.mono hB.size);unfold wpOp
   rw[a4];have a9:Region.wanted F (yielded ops (Dj a (T.map (λi=>(D i,V i (p i)))++l)).tmps)=true:=by
    unfold Region.wanted
    rw[a6]
   simp only[a9,if_true];refine .inl ?_;unfold Oper.wp
   rw[X];refine⟨λ_ h=>h.alloc a8.size (O i),?_⟩;rw[a5];have Y:=zh b (O i);have b0:(i::T)∈zBc R (k+1):=List.mem_flatMap.2 ⟨T,hT,List.mem_map.2 ⟨i,List.mem_filter.2 ⟨C,by simpa using g⟩,rfl⟩⟩
   have:=ih (k+1) (i::T) (λj=>if j=i then b.heap.size else p j) (b.alloc (O i)) (by omega) b0 (List.nodup_cons.2 ⟨g,K⟩) (λj d=>by
    rcases List.mem_cons.1 d with rfl|d
    . exact C
    . exact o j d) (u.set hi) (λj d=>by
    by_cases e:j=i
    . subst e;simp only[if_true];exact⟨f.size,by simp,Y⟩
    . rw[iN e]
      obtain⟨q1,q2,q3⟩:=r j (by
       rcases List.mem_cons.1 d with h|h
       . exact aB h e
       exact h)
      exact⟨q1,by simp;omega,(heap_alloc_old b (O i) q2).trans q3⟩) (λx hx y hy=>by
    have lt:∀z∈T,p z<b.heap.size:=λz hz=>(r z hz).2.1
    have s:∀z,z∈i::T->z≠i->z∈T:=λz hz hzi=>(List.mem_cons.1 hz).resolve_left hzi
    by_cases G:x=i
    . by_cases E:y=i
      . intro _;rw[G,E]
      rw[iP G,iN E];intro h;have:=lt y (s y hy E);omega
    by_cases E:y=i
    . rw[iN G,iP E];intro h;have:=lt x (s x hx G);omega
    rw[iN G,iN E];exact v x (s x hx G) y (s y hy E)) (Ab f (J b (O i)))
   have em:T.map (λj=>(D j,V j (if j=i then b.heap.size else p j)))=T.map (λj=>(D j,V j (p j))):=List.map_congr_left λj d=>by
    rw[iN (λe=>g (by rw[<-e];exact d))]
   rw[List.map_cons,iP rfl,em]at this;exact this
 have:=a3 R.length 0 [] (λ_=>0) w (by omega) (by simp[zBc]) List.nodup_nil (λi h=>by cases h) a2 (λi h=>by cases h) (λi h=>by cases h) (An _ _);exact this
end
end Go.Proofs.YtelojoopofolpaaGreat
