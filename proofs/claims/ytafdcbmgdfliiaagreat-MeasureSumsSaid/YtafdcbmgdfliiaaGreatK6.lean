/- a part of the proof -/
import Derived.Test.YtafdcbmgdfliiaaGreatK3
import Derived.Test.YtafdcbmgdfliiaaGreatK4
set_option linter.all false
set_option maxRecDepth 100000
set_option maxHeartbeats 3000000
namespace Go.Proofs.YtafdcbmgdfliiaaGreat
open Go.RowKit Go.Sort Go.Proofs.Tryz
variable {a:Act}{N cap cb i k lo n sb:Nat}{w w':Wd}{P:Nat->Prop}{c:LV}{v:Value}
def Dj(a:Act):List (Nat×Value)->Act
 |[]=>a
 |p::l=>(Dj a l).put (some p.1) p.2
def Gr(u:Nat->Value):List (Nat×Value)->Nat->Value
 |[],t=>u t
 |p::l,t=>if p.1=t then p.2 else Gr u l t
theorem DZ(a:Act):∀l,(Dj a l).tmps.size=a.tmps.size
 |[]=>rfl
 |p::l=>by
  have:=DZ a l;grind[Dj,Act.put]
def E3(A:Act)(u:Nat->Value):Prop:=(∀t,A.eval (.tmp t)=u t)/\(∀t,A.tmps.getD t undef=u t)/\(∀t:Nat,A.tmps[t]?.getD undef=u t)
def E3.at{A:Act}{u:Nat->Value}(h:E3 A u){t:Nat}{V:Value}(e:u t=V):A.eval (.tmp t)=V/\A.tmps.getD t undef=V/\A.tmps[t]?.getD undef=V:=⟨(h.1 t).trans e,(h.2.1 t).trans e,(h.2.2 t).trans e⟩
def F_{A:Act}{u:Nat->Value}(t:Nat)(V:Value)(h:E3 A u)(e:u t=V):=h.at (t:=t) (V:=V) e
abbrev fr(a:Act):Nat->Value:=λt=>a.tmps.getD t undef
theorem lC(b:a.tmps.size=N):∀(l:List (Nat×Value)),l.all (λp=>decide (p.1<N))=true->∀t,(Dj a l).tmps.getD t undef=Gr (fr a) l t
 |[],_,t=>rfl
 |p::l,h,t=>by
  simp only[List.all_cons,Em,decide_eq_true_eq]at h;rw[Dj,cC,DZ,b,Gr];by_cases e:p.1=t
  . simp_all
  rw[iN (λx=>e x.1),iN e,lC b l h.2]
theorem Wl(b:a.tmps.size=N){l:List (Nat×Value)}(h:l.all (λp=>decide (p.1<N))=true):E3 (Dj a l) (Gr (fr a) l):=
 ⟨lC b l h,lC b l h,λt=>by have:=lC b l h t;simp_all⟩
section
variable {P:Program} {ops:Array Oper} {Q:Exit→Act→Wd→Prop} {md:Region.Mode} {S:Wd→Prop} {Z:List Nat}
def Wz(md:Region.Mode)(ops:Array Oper):Nat->List Nat->Nat->Bool
 |z, [],i=>Region.waitsFor md ops z i
 |z,p::l,i=>Region.waitsFor md ops z p&&Wz md ops p l i
def Wo(md:Region.Mode)(ops:Array Oper)(L:Array Bool):Prop:=∀(k:Nat) (o:Oper),ops[k]?=some o->L.getD k false=true->∀e∈o.after,Region.binds md e=true->L.getD e.on false=true
theorem EF{L:Array Bool}(d:Wo md ops L):∀(l:List Nat) (z i:Nat),Wz md ops z l i=true->(∀o,ops[z]?=some o->∀e∈o.after,Region.binds md e=true->L.getD e.on false=true)->L.getD i false=true
 |[],z,i,h,ha=>by
  obtain⟨o,a,e,b,c,rfl⟩:=Region.waitsFor_spec h;simp_all
 |p::l,z,i,h,ha=>by
  simp only[Wz,Em]at h;obtain⟨o,a,e,b,c,rfl⟩:=Region.waitsFor_spec h.1;exact EF d l _ i h.2 λo' ho'=>d _ o' ho' (ha o a e b c)
theorem YK{L:Array Bool}(c:Wo md ops L){z i:Nat}{l:List Nat}(d:Wz md ops z l i=true)(e:i∈Region.ready md ops L):z ∉ Region.ready md ops L:=by
 grind[mem_ready,EF]
def Wo.set{L:Array Bool}(m:Wo md ops L){j:Nat}(n:j∈Region.ready md ops L):Wo md ops (L.setIfInBounds j true):=by
 have⟨c,p,d,a⟩:=mem_ready.1 n;have f:j<L.size:=by
  rcases Nat.lt_or_ge j L.size with h|h;exact h;simp[Array.getElem?_eq_none h]at c
 intro k o g b e i l;rw[lB f]at b ⊢;rcases b with rfl|b;rw[d]at g;cases g;exact .inr (a e i l);exact .inr (m k o g b e i l)
theorem YN{i:Nat}{oi:Oper}{v:Value}(y:ops[i]?=some oi)(D:Region.noSelect ops=true)(E:∀z∈Z,∃l,Wz md ops z l i=true) 
 (F:∀c a w,Q (.panic c) (a.put oi.dst v) w->Q (.panic c) a w):∀(n:Nat) (d:Array Bool) (a:Act) (w:Wd),Wo md ops d->
  (∀j o,ops[j]?=some o->j≠i->d.getD j true=false->(∀e∈o.after,Region.binds md e=true->e.on≠i)->oi.apart ops o=true)->
  i∈Region.ready md ops d->YieldsIf P ops S oi v a->S w->
  Ds P md ops Q S Z n (d.setIfInBounds i true) (a.put oi.dst v) w->Ds P md ops Q S Z (n+1) d a w:=by
 have g:=Region.noSelect_spec D;intro n;induction n with
 |zero=>
  intro d a w _ _ m u x H;refine⟨λh=>(by simp_all),λj hj=>?_⟩;by_cases e:j=i
  . subst e;exact u.wpOp y x ⟨λ_ h=>h,H⟩
  have q:=ready_mono hj e;rw[H.1]at q;cases q
 |succ n ih=>
  intro d a w r f m u x H;refine⟨λh=>(by grind),λj hj=>?_⟩;by_cases e:j=i
  . subst e;exact u.wpOp y x ⟨λ_ h=>h,H⟩
  have A:j ∉ Z:=λhz=>by
   grind[YK]
  have⟨s,o,p,t⟩:=mem_ready.1 hj;have B:∀b∈o.after,Region.binds md b=true->b.on≠i:=λb hb hbb hon=>by
   grind[mem_ready]
  have K:=wpOp_putIf p (f j o p e s B) (λcs b=>g i oi cs b y) (λcs b=>g j o cs b p) F u (H.2 j (ready_mono hj e));refine wpOp_mono (λa' w' h3=>?_) K;have hS':S w':=h3.2.1 A x;refine⟨λ_ _=>hS',ih (d.setIfInBounds j true) a' w' (r.set hj) (λk ok hk hki hu hn=>?_) (ready_mono m (Ne.symm e)) h3.1 hS' ?_⟩
  . refine f k ok hk hki ?_ hn;by_cases C:j=k
    . subst C;exact s
    rw[getD_set_ne true C]at hu;exact hu
  grind[Array.setIfInBounds_comm]
end
section
variable {P:Program} {ops:Array Oper} {Q:Exit→Act→Wd→Prop} {w0 w:Wd} {Z:List Nat} {n i d N:Nat} {L:Array Bool} {a:Act} {l:List (Nat×Value)} {o:Oper} {v:Value}
def Jd(P:Program)(ops:Array Oper)(Q:Exit->Act->Wd->Prop)(w0:Wd)(Z:List Nat)(n:Nat)(L:Array Bool)(a:Act)(l:List (Nat×Value))(w:Wd):Prop:=Wo .any ops L->Ds P .any ops Q (λw'=>Below w0.heap.size w0 w') Z n L (Dj a l) w
def Kr(i d:Nat)(v:Value)(f:ops[i]?=some o)(g:a.tmps.size=N)(j:∀(A:Act) (w:Wd),E3 A (Gr (fr a) l)->(execOp A.eval o).run P w=.ok (.value v) w)(h:Jd P ops Q w0 Z n (L.setIfInBounds i true) a ((d,v)::l) w) 
 (k:l.all (λp=>decide (p.1<N))=true:=by kernel_rfl) (hd:o.dst=some d:=by rfl) (m:Region.wanted o (yielded ops (Dj a l).tmps)=true:=by rfl) (q:Region.noSelect ops=true:=by kernel_rfl) (r:Region.free .any ops L i=true:=by kernel_rfl) (b:(Region.ready .any ops L).contains i=true:=by kernel_rfl)
 (s:∀c a' w,Q (.panic c) (a'.put o.dst v) w->Q (.panic c) a' w:=by exact λ_ _ _ h=>h):Jd P ops Q w0 Z (n+1) L a l w:=by
 intro t;have e:=Wl g k;refine AB f q r b s m (λw'=>j _ w' e) ?_;rw[hd];exact h (t.set (by simpa using b))
theorem Vk(i d:Nat)(v:Value)(b:List (List Nat))(f:ops[i]?=some o)(q:a.tmps.size=N)(r:Bw w0 w)(s:∀(A:Act) (w:Wd),E3 A (Gr (fr a) l)->Bw w0 w->(execOp A.eval o).run P w=.ok (.value v) w)(h:Jd P ops Q w0 Z n (L.setIfInBounds i true) a ((d,v)::l) w) 
 (t:l.all (λp=>decide (p.1<N))=true:=by kernel_rfl) (hd:o.dst=some d:=by rfl) (u:Region.wanted o (yielded ops (Dj a l).tmps)=true:=by rfl) (x:Region.noSelect ops=true:=by kernel_rfl) (g:(Z.length==b.length&&(Z.zip b).all (λp=>Wz .any ops p.1 p.2 i))=true:=by kernel_rfl) (y:Region.free .any ops L i=true:=by kernel_rfl) (k:(Region.ready .any ops L).contains i=true:=by kernel_rfl)
 (B:∀c a' w,Q (.panic c) (a'.put o.dst v) w->Q (.panic c) a' w:=by exact λ_ _ _ h=>h):Jd P ops Q w0 Z (n+1) L a l w:=by
 intro m;have e:=Wl q t;refine YN f x ?_ B n L _ w m (Region.free_spec f y) (by simpa using k) (.inl ⟨u,λw' hS'=>s _ w' e hS'⟩) r ?_;intro z C;simp only[Em,beq_iff_eq,List.all_eq_true]at g;obtain⟨j,E,rfl⟩:=List.getElem_of_mem C;exact⟨b[j],g.2 (Z[j],b[j]) (List.mem_iff_getElem.2 ⟨j,by simp;omega,by simp⟩)⟩;rw[hd];exact h (m.set (by simpa using k))
def sK(u:Nat->Value):Operand->Value
 | .tmp t=>u t
 |x=>Act.eval ⟨#[], []⟩ x
theorem Xk{A:Act}{u:Nat->Value}(h:E3 A u):A.eval=sK u:=by
 funext x;cases x with
 |tmp t=>exact h.1 t
 |_=>rfl
theorem EA{N:Nat}{a:Act}(b:a.tmps.size=N):∀(l:List (Nat×Value)),(∀p∈l,fr a p.1=p.2/\p.1<N)->Dj a l=a
 |[],_=>rfl
 |p::l,h=>by
  rw[Dj,EA b l λq hq=>h q (by simp[hq])];have⟨c,d⟩:=h p (by simp);have e:a.tmps.setIfInBounds p.1 p.2=a.tmps:=by
   refine Array.ext_getElem? λi=>?_
   rw[Array.getElem?_setIfInBounds];split
   . simp_all
   rfl
  show({a with tmps:=a.tmps.setIfInBounds p.1 p.2}:Act)=a
  rw[e]
theorem aF{b N:Nat}(Z:List Nat)(l:List (Nat×Value))(c:a.tmps.size=N)(d:l.map (λp=>fr a p.1)=l.map Prod.snd)(h:Jd P ops Q w Z ops.size (Array.replicate ops.size false) a l w.drew)(e:l.all (λp=>decide (p.1<N))=true:=by kernel_rfl)(f:P.follows .mixedOrders=true:=by kernel_rfl):(Code.region b ops true).wp P Q a w:=bE _ Z f (by
 have:=h λk o _ hk=>aB hk (mJ k)
 rwa [EA c l λp hp=>⟨List.map_inj_left.1 d p hp,by grind⟩]at this)
theorem De(i d:Nat)(v:Value)(b:ops[i]?=some o)(f:a.tmps.size=N)(h:Jd P ops Q w0 Z n (L.setIfInBounds i true) a ((d,v)::l) w)(g:∀w,(execOp (sK (Gr (fr a) l)) o).run P w=.ok (.value v) w:=by exact λ_=>rfl) 
 (j:l.all (λp=>decide (p.1<N))=true:=by kernel_rfl) (hd:o.dst=some d:=by rfl) (k:Region.wanted o (yielded ops (Dj a l).tmps)=true:=by rfl) (m:Region.noSelect ops=true:=by kernel_rfl) (q:Region.free .any ops L i=true:=by kernel_rfl) (r:(Region.ready .any ops L).contains i=true:=by kernel_rfl)
 (s:∀c a' w,Q (.panic c) (a'.put o.dst v) w->Q (.panic c) a' w:=by exact λ_ _ _ h=>h):Jd P ops Q w0 Z (n+1) L a l w:=
 Kr i d v b f (λA w e=>by grind[Xk]) h j hd k m q r s
def Nk(i d t:Nat)(v:Value)(f:List (List Nat)){p:Addr}(k:ops[i]?=some o)(m:a.tmps.size=N)(q:Bw w0 w)(r:w0.cell? p=some v)(j:p.block<w0.heap.size)(h:Jd P ops Q w0 Z n (L.setIfInBounds i true) a ((d,v)::l) w) 
 (g:Gr (fr a) l t=.pointer (some p):=by rfl) (s:∀(A:Act) (b:Wd),A.eval (.tmp t)=.pointer (some p)->A.tmps.getD t undef=.pointer (some p)->A.tmps[t]?.getD undef=.pointer (some p)->b.cell? p=some v->p.block<b.heap.size->(execOp A.eval o).run P b=.ok (.value v) b:=by(intro A b E F G c H;go_simp))
 (u:l.all (λp=>decide (p.1<N))=true:=by kernel_rfl) (hd:o.dst=some d:=by rfl) (x:Region.wanted o (yielded ops (Dj a l).tmps)=true:=by rfl) (y:Region.noSelect ops=true:=by kernel_rfl) (z:(Z.length==f.length&&(Z.zip f).all (λp=>Wz .any ops p.1 p.2 i))=true:=by kernel_rfl) (B:Region.free .any ops L i=true:=by kernel_rfl) (C:(Region.ready .any ops L).contains i=true:=by kernel_rfl)
 (D:∀c a' w,Q (.panic c) (a'.put o.dst v) w->Q (.panic c) a' w:=by exact λ_ _ _ h=>h):Jd P ops Q w0 Z (n+1) L a l w:=
 Vk i d v f k m q (λA b e hS'=>s A b (e.at g).1 (e.at g).2.1 (e.at g).2.2 ((hS'.cell (p:=p) j).trans r) (As j hS'.size)) h u hd x y z B C D
def Rz(i d:Nat)(c:ops[i]?=some o)(e:a.tmps.size=N)(h:∀A:Act,E3 A (Gr (fr a) l)->∀K:Act->Wd->Prop,Af (∀v w',(i ∉ Z->Bw w0 w->Bw w0 w')->Jd P ops Q w0 Z n (L.setIfInBounds i true) a ((d,v)::l) w'->K (A.put (some d) v) w')->Oper.wp P o A w K Q) 
 (b:Region.ready .any ops L= [i]:=by kernel_rfl) (f:l.all (λp=>decide (p.1<N))=true:=by kernel_rfl) (hd:o.dst=some d:=by rfl) (g:Region.wanted o (yielded ops (Dj a l).tmps)=true:=by rfl):Jd P ops Q w0 Z (n+1) L a l w:=
 λhc=>zo b c g λK hK=>h _ (Wl e f) K (I λv w' h1 h2=>hK.1 _ _ h1 (h2 (hc.set (by rw[b];simp))))
def Ub(i:Nat)(c:ops[i]?=some o)(d:a.tmps.size=N)(h:∀A:Act,E3 A (Gr (fr a) l)->∀K:Act->Wd->Prop,Af (∀w',(i ∉ Z->Bw w0 w->Bw w0 w')->Jd P ops Q w0 Z n (L.setIfInBounds i true) a l w'->K A w')->Oper.wp P o A w K Q) 
 (b:Region.ready .any ops L= [i]:=by kernel_rfl) (e:l.all (λp=>decide (p.1<N))=true:=by kernel_rfl) (f:Region.wanted o (yielded ops (Dj a l).tmps)=true:=by rfl):Jd P ops Q w0 Z (n+1) L a l w:=
 λhc=>zo b c f λK hK=>h _ (Wl d e) K (I λw' h1 h2=>hK.1 _ _ h1 (h2 (hc.set (by rw[b];simp))))
def Wn(h:Q .normal (Dj a l) w)(b:Region.ready .any ops L= []:=by kernel_rfl):Jd P ops Q w0 Z n L a l w:=λ_=>zM b h
end
def aE{P:Program}{c:Code}{Q:Exit->Act->Wd->Prop}{b:Act}(h:∀a,a=b->Code.wp P c Q a w):Code.wp P c Q b w:=h _ rfl
def Nn(k:Nat):TypeId:= [214,73,82,71,302,304].getD k 0
def Nm(k:Nat):Nat:= [5,6,5,4,4,3].getD k 0
def sH:Nat->LV->Prop
 |0,h=>∃s:BA,h= [.string s]/\s.size<=140737488355328
 |1,h=>∃(n:Int) (s:BA),h= [Bn n,.string s]/\(Lit.int .i64 n).wf=true/\s.size<=140737488355328
 |2,h=>∃n:Int,h= [Bn n]/\(Lit.int .i64 n).wf=true
 |3,h=>h= []
 |4,h=>∃(s t:BA) (a b:Int),h= [.string s,.string t,Bn a,Bn b]/\s.size<=140737488355328/\t.size<=140737488355328
 |5,h=>∃(s:BA) (a b:Int),h= [.string s,Bn a,Bn b]/\s.size<=140737488355328
 |_,_=>False
def Mq(k:Nat)(P:Nat->Prop)(w:Wd)(c:LV):Prop:=∃h e,c=h++e/\sH k h/\(k<4->Iu P w e)/\(4<=k->e= [])
def Mq.step{Q:Nat->Prop}(h:Mq k P w c)(d:∀b,b<w.heap.size->P b->Q b/\w'.heap[b]?=w.heap[b]?):Mq k Q w' c:=by
 obtain⟨a,e,f,g,i,j⟩:=h;exact⟨a,e,f,g,λhk=>(i hk).step d,j⟩
structure CI(lo cb sb:Nat)(n:Nat)(I:Nat->Int)(U:Nat->Value)(C:Nat->List (LV))(w:Wd):Prop where
 box:w.heap[cb]?=some (.cells #[(I 0),(I 1),(I 2),(I 3),(I 4),(I 5),(I 6),U 0,U 1,U 2,U 3,U 4,U 5,(I 7)] 35 (0,0))
 seen:∃s:Nat->Bool,w.heap[sb]?=some (.cells #[.bool (s 0),.bool (s 1),.bool (s 2),.bool (s 3),.bool (s 4),.bool (s 5),.bool (s 6)] 225 (0,0))
 own:∀k,k<6->w.ownsRow lo (Nn k) (Nm k) (U k) (C k).length (C k).flatten
 ok:∀k,k<6->∀c∈C k,Mq k (λb=>lo<=b/\∀j,j<6->(U j).ownBlock≠some b) w c
 len:∀k,k<6->(C k).length<=n
 lt:cb<lo/\sb<lo/\cb≠sb
def up{A:Type}(f:Nat->A)(k:Nat)(v:A):Nat->A:=λj=>if j=k then v else f j
structure DF(lo cb sb:Nat)(w w':Wd):Prop where
 os:w'.os=w.os
 tape:w'.tape=w.tape
 output:w'.output=w.output
 size:w.heap.size<=w'.heap.size
 blk:∀b,b<lo->b≠cb->b≠sb->b<w.heap.size->w'.heap[b]?=w.heap[b]?
def DF.refl(lo cb sb:Nat)(w:Wd):DF lo cb sb w w:=⟨rfl,rfl,rfl,Bv _,λ_ _ _ _ _=>rfl⟩
def DF.trans{a b c:Wd}(h:DF lo cb sb a b)(k:DF lo cb sb b c):DF lo cb sb a c:=⟨k.os.trans h.os,k.tape.trans h.tape,k.output.trans h.output,Bf h.size k.size,λx h1 h2 h3 h4=>(k.blk x h1 h2 h3 (As h4 h.size)).trans (h.blk x h1 h2 h3 h4)⟩
def DF.of(h:Bw w w'):DF lo cb sb w w':=⟨h.os,h.tape,h.output,h.size,λb _ _ _ h4=>h.block b h4⟩
section
variable {lo cb sb n:Nat} {I0:Nat→Int} {U:Nat→Value} {C:Nat→List (LV)} {w w':Wd} (S:CI lo cb sb n I0 U C w)
include S
theorem CI.below(h:Bw w w'):CI lo cb sb n I0 U C w' where
 box:=Ac h S.box
 seen:=by have⟨s,q⟩:=S.seen;exact⟨s,Ac h q⟩
 own k hk:=(S.own k hk).kept (Sj (r:=none) h) (by grind)
 ok k hk c hc:=(S.ok k hk c hc).step λb hb hP=>⟨hP,h.block b hb⟩
 len:=S.len
 lt:=S.lt
def CI.more{a:Nat}(h:n<=a):CI lo cb sb a I0 U C w:={S with len:=λk hk=>Bf (S.len k hk) h}
def CI.store{a:Nat->Int}{b i:Nat}{v:Value}(d:b=cb\/b=sb)(e:(w.setCell (aD b i) v).heap[cb]?=some (.cells #[(a 0),(a 1),(a 2),(a 3),(a 4),(a 5),(a 6),U 0,U 1,U 2,U 3,U 4,U 5,(a 7)] 35 (0,0))) 
 (f:∃s:Nat->Bool,(w.setCell (aD b i) v).heap[sb]?=some (.cells #[.bool (s 0),.bool (s 1),.bool (s 2),.bool (s 3),.bool (s 4),.bool (s 5),.bool (s 6)] 225 (0,0))):CI lo cb sb n a U C (w.setCell (aD b i) v) where
 box:=e
 seen:=f
 own k hk:=ownsRow_setCell_below (S.own k hk) (by have:=S.lt;rcases d with rfl|rfl;exact this.1;exact this.2.1) v
 ok k hk c hc:=(S.ok k hk c hc).step λx hx hP=>⟨hP,Below.heap_setCell w (aD b i) v x (by have:=S.lt;have:=hP.1;show x≠b;rcases d with rfl|rfl <;> omega)⟩
 len:=S.len
 lt:=S.lt
def CI.int{j:Nat}(a:j<8)(v:Int):CI lo cb sb n (up I0 j v) U C (w.setCell (aD cb (if j<7 then j else 13)) (Bn v)):=by
 refine S.store (.inl rfl) ?_ ?_;rw[zg S.box];match j,a with
 |0,_|1,_|2,_|3,_|4,_|5,_|6,_|7,_=>simp[up]
 have⟨s,q⟩:=S.seen;exact⟨s,(Below.heap_setCell w (aD cb _) _ sb (Ne.symm S.lt.2.2)).trans q⟩
def CI.see{j:Nat}(a:j<7):CI lo cb sb n I0 U C (w.setCell (aD sb j) (.bool true)):=by
 refine S.store (.inr rfl) ((Below.heap_setCell w (aD sb j) _ cb S.lt.2.2).trans S.box) ?_;have⟨s,q⟩:=S.seen;refine⟨up s j true,?_⟩;rw[zg q];match j,a with
 |0,_|1,_|2,_|3,_|4,_|5,_|6,_=>simp[up]
def CI.df{b i:Nat}{v:Value}(a:b=cb\/b=sb):DF lo cb sb w (w.setCell (aD b i) v):=
 ⟨rfl,rfl,rfl,by simp[World.setCell],λx _ h2 h3 _=>Below.heap_setCell w (aD b i) v x (by rcases a with rfl|rfl;exact h2;exact h3)⟩
def CI.push{k:Nat}(p:k<6){c:LV}(K:Mq k (λb=>lo<=b/\∀j,j<6->(U j).ownBlock≠some b) w c){ob:Obj}{g cap H:Nat}(A:w'.ownsRow lo (Nn k) (Nm k) (Kx g 0 ((C k).length+1) cap) ((C k).length+1) ((C k).flatten++c))(q:(w.alloc ob).grownBy w' (U k).ownBlock) 
 (L:(U k).ownBlock=some g\/g=H) (V:H=w.heap.size+1):
 CI lo cb sb (n+1) I0 (up U k (Kx g 0 ((C k).length+1) cap)) (up C k (C k++ [c])) (w'.setCell (aD cb (7+k)) (Kx g 0 ((C k).length+1) cap))/\DF lo cb sb w (w'.setCell (aD cb (7+k)) (Kx g 0 ((C k).length+1) cap)):=by
 have W:(w.alloc ob).heap.size=w.heap.size+1:=by simp
 have s:=S.lt;have u:=Ag S.box;have⟨M,B⟩:=S.seen;have v:=Ag B;have r:∀j,j<6->∀b,(U j).ownBlock=some b->lo<=b/\b<w.heap.size:=λj hj b e=>(S.own j hj).lt b e;have f:∀b,b<w.heap.size->(U k).ownBlock≠some b->w'.heap[b]?=w.heap[b]?:=λb hb hne=>(q.block b (by omega) (λe=>hne e.symm)).trans (heap_alloc_old w _ hb);have N:lo<=g:=by
  rcases A.2 with⟨e,_⟩|⟨X,D,m,e,x,_⟩;cases e;cases e;exact x
 have a:∀b,b<lo->(U k).ownBlock≠some b:=λb hb e=>by have:=(r k p b e).1;omega
 refine⟨{box:=?_,seen:=⟨M,?_⟩,own:=λj hj=>?_,ok:=λj hj d l=>?_,len:=λj hj=>?_,lt:=S.lt},⟨q.os,q.tape,q.output,by have:=q.size;simp[World.setCell];omega,λb x h2 _ h4=>(Below.heap_setCell _ _ _ _ h2).trans (f b h4 (a b x))⟩⟩;rw[zg ((f cb u (a cb s.1)).trans S.box)];match k,p with
 |0,_|1,_|2,_|3,_|4,_|5,_=>simp[up]
 exact(Below.heap_setCell _ _ _ _ (Ne.symm s.2.2)).trans ((f sb v (a sb s.2.1)).trans B);refine ownsRow_setCell_below ?_ s.1 _;by_cases e:j=k;subst e;simpa[up] using A;have P:up U k (Kx g 0 ((C k).length+1) cap) j=U j:=iN e;have Q:up C k (C k++ [c]) j=C j:=iN e;rw[P,Q];refine((S.own j hj).alloc ob).kept q ?_;cases t:(U j).ownBlock with
 |none=>exact .inl rfl
 |some b=>
  refine .inr λek=>?_
  have d:∀j,j<6->∀k,k<6->j≠k->Nn j≠Nn k:=by decide
  obtain⟨E,R⟩:∃E,w.heap[b]?=some (.cells E (Nn j) (0,0)):=by
   rcases(S.own j hj).2 with⟨h,_⟩|⟨T,_,m,h,_,y,_⟩
   . rw[h]at t;cases t
   rw[h]at t;cases t;exact⟨m,y⟩
  obtain⟨F,z⟩:∃F,w.heap[b]?=some (.cells F (Nn k) (0,0)):=by
   rcases(S.own k p).2 with⟨h,_⟩|⟨T,_,m,h,_,y,_⟩
   . rw[h]at ek;cases ek
   rw[h]at ek;cases ek;exact⟨m,y⟩
  rw[R]at z;simp only[Option.some.injEq,Obj.cells.injEq]at z;exact d j hj k p e z.2.1
 have o:∀d,Mq j (λb=>lo<=b/\∀j,j<6->(U j).ownBlock≠some b) w d->Mq j (λb=>lo<=b/\∀i,i<6->(up U k (Kx g 0 ((C k).length+1) cap) i).ownBlock≠some b) (w'.setCell (aD cb (7+k)) (Kx g 0 ((C k).length+1) cap)) d:=λd l=>l.step λb hb hP=>by
  refine⟨⟨hP.1,λi hi e=>?_⟩,(Below.heap_setCell _ _ _ _ (show b≠cb by have:=hP.1;omega)).trans (f b hb (hP.2 k p))⟩;by_cases G:i=k;rw[up,iP G]at e;obtain rfl:g=b:=by simpa[Value.ownBlock] using e
  rcases L with h|h;exact hP.2 k p h;omega;rw[up,iN G]at e;exact hP.2 i hi e
 by_cases e:j=k;subst e;rw[up,iP rfl]at l;rcases List.mem_append.1 l with l|l;exact o d (S.ok j hj d l);obtain rfl:=List.mem_singleton.1 l;exact o _ K;rw[up,iN e]at l;exact o d (S.ok j hj d l);by_cases e:j=k;subst e;have:=S.len j hj;simp[up];omega;have:=S.len j hj;rw[up,iN e];omega
end
abbrev Ij:=Qt (λ_=>True)
def lX(n i:Nat)(w:Wd)(e:Ending)(w':Wd):Prop:=∃b:Bool,e=.returned (.bool b)/\(b=true->i<n)/\Below w.heap.size w w'
def Ij.cells{a:Ae}(h:Ij w (CU a n cap) n)(g:i<n):∃b c,a=some (aD b c)/\b<w.heap.size/\∃(k:Int) (s:BA) (m p:Int),
 w.cell? (aD b (c+i*4))=some (Bn k)/\w.cell? (aD b (c+i*4+1))=some (B_ s)/\w.cell? (aD b (c+i*4+2))=some (Bn m)/\w.cell? (aD b (c+i*4+3))=some (Bn p)/\s.size<=2^47/\(Lit.int .i64 m).wf=true:=by
 obtain⟨_,o,d,e,_,_,j⟩:=h;cases e;have⟨b,c,e,_,l⟩:=j (by omega);have⟨k,s,m,p,f,r⟩:=l i g;exact⟨b,c,e,bK w _ f,k,s,m,p,f,r⟩
def fH(w:Wd)(a:Ae)(n cap i:Nat)(k:Int)(h:Ij w (CU a n cap) n):Calls prog 192 #[CU a n cap,i,k] w (lX n i w):=by
 have f:=h.1;by_cases c:i<n
 . obtain⟨b,d,rfl,g,j,s,m,p,l,o,q,r,t,u⟩:=Ij.cells h c;have e:(i:Int)<n:=by omega
   go_in;go_wp2;go_ret;exact⟨_,rfl,λ_=>c,An _ _⟩
 have e:decide ((i:Int)<n)=false:=by simp;omega
 go_in;go_wp2;go_ret;exact⟨false,rfl,by simp,An _ _⟩
def EK(w:Wd)(a:Ae)(n cap i:Nat)(t:BA)(h:Ij w (CU a n cap) n):Calls prog 195 #[CU a n cap,i,B_ t] w (lX n i w):=by
 have f:=h.1;by_cases c:i<n
 . obtain⟨b,d,rfl,g,j,s,m,p,k,l,o,q,r,u⟩:=Ij.cells h c;have e:(i:Int)<n:=by omega
   go_in;go_wp2_with fail
   all_goals
    go_ret;exact⟨_,rfl,λ_=>c,An _ _⟩
 have e:decide ((i:Int)<n)=false:=by simp;omega
 go_in;go_wp2;go_ret;exact⟨false,rfl,by simp,An _ _⟩
def YB(w:Wd)(a:Ae)(n cap i:Nat)(h:Ij w (CU a n cap) n):Calls prog 194 #[CU a n cap,i] w (lX n i w):=by
 have x:=h.1;have j:=fH w a n cap i 1 h;have l:=I h;go_in;go_wp2_with fail;refine j.mono ?_;rintro e r ⟨b,rfl,d,f⟩;have o:=I f;have t:=I (l.1.step λk hk _=>f.block k hk);cases b
 . go_wp2;go_ret;exact⟨false,rfl,by simp,o.1⟩
 have q:=d rfl;obtain⟨b,u,rfl,v,y,s,m,p,z,A,B,C,D,E⟩:=Ij.cells t.1 q;have F:(i:Int)<n:=by omega
 go_wp2_with fail;refine ca (bC s r (by unfold maxLen;omega)) λG c=>?_;have g:=fE o c;go_wp2;go_ret;exact⟨_,rfl,λ_=>q,g.1⟩
def mA(w:Wd)(e:Ending)(w':Wd):Prop:=∃k:Int,e=.returned k/\(Lit.int .i64 k).wf=true/\w=w'
def lJ(s:BA)(w:Wd):Calls prog 197 #[B_ s] w (mA w):=by
 go_in;go_wp2_with fail
 all_goals
  go_ret;exact⟨_,rfl,by rfl,rfl⟩
abbrev Fe(cb sb:Nat):=Qt (λb=>b≠cb/\b≠sb)
def Fe.tt(h:Fe cb sb w v n):Ij w v n:=h.imp λ_ _ _=>trivial
def Fe.below(h:Fe cb sb w v n)(a:Bw w w'):Fe cb sb w' v n:=h.step λk hk _=>a.block k hk
def Fe.own{c:Nat}{u:Value}(h:Fe cb sb w v n)(a:c=cb\/c=sb):Fe cb sb (w.setCell (aD c i) u) v n:=h.step λk hk hx=>Below.heap_setCell _ _ _ _ (show k≠c by rcases a with rfl|rfl;exact hx.1;exact hx.2)
def Fe.cells{a:Ae}(h:Fe cb sb w (CU a n cap) n)(g:i<n):∃b c,a=some (aD b c)/\b<w.heap.size/\b≠cb/\b≠sb:=by
 obtain⟨_,q,d,e,_,_,j⟩:=h;cases e;have⟨b,c,e,f,l⟩:=j (by omega);have⟨k,s,m,p,o,r⟩:=l i g;exact⟨b,c,e,bK w _ o,f.1,f.2⟩
def EP(lo cb sb n:Nat)(U:Nat->Value)(C:Nat->List (LV))(w:Wd)(e:Ending)(w':Wd):Prop:=∃(k:Int) (J0:Nat->Int),e=.returned k/\CI lo cb sb n J0 U C w'/\DF lo cb sb w w'
section
variable {lo cb sb m:Nat} {I0:Nat→Int} {U:Nat→Value} {C:Nat→List (LV)}
def CI.drew{w:Wd}(S:CI lo cb sb m I0 U C w):CI lo cb sb m I0 U C w.drew:=S.below (dr w 1)
def dM{P:Program}{c:Code}{Q:Exit->Act->Wd->Prop}{A:Act}{w a:Wd}{v:Value}{n j:Nat}(b:j<7)(S:CI lo cb sb m I0 U C a)(T:Fe cb sb a v n)(D:DF lo cb sb w a) 
 (K:∀W2,CI lo cb sb m I0 U C W2->Fe cb sb W2 v n->DF lo cb sb w W2->Code.wp P c Q A W2):Code.wp P c Q A (a.setCell (aD sb j) (.bool true)):=
 K _ (S.see b) (T.own (.inr rfl)) (D.trans (S.df (.inr rfl)))
def ZC(w:Wd)(a:Ae)(n cap i:Nat)(hi:i<7)(S:CI lo cb sb m I0 U C w)(T:Fe cb sb w (CU a n cap) n):
 Calls prog 193 #[Ua cb 0,Ua sb 0,CU a n cap,i] w (EP lo cb sb m U C w):=by
 have c:=I S;have u:=I T;have hn:=T.1;match i,hi with
 |0,_|1,_|2,_|3,_|4,_|5,_=>
  by_cases A:n=2
  . subst A;go_in
    go_wp2_with fail;refine(fH _ a 2 cap 1 3 u.1.tt).mono ?_;rintro e w1 ⟨b,rfl,-,f⟩;have o:=I (c.1.below f);have x:=I (u.1.below f);have t:=I (DF.of (lo:=lo) (cb:=cb) (sb:=sb) f);clear c u f;cases b
    . go_wp2;go_ret;exact⟨_,_,rfl,o.1,t.1⟩
    have⟨s,g⟩:=o.1.seen;have K:=D_ g;have B:=D_ g;have Q:=CH g;have D:=CH g;have y:=Ag g;clear g;go_upto_region 8 with fail
    all_goals first
    |(go_ret
      exact⟨_,_,rfl,o.1,t.1⟩)
    |skip
    clear K B Q D y;refine dM (by decide) o.1 x.1 t.1 λW2 k h l=>?_
    obtain⟨tb,E,rfl,F,-,-⟩:=h.cells (i:=1) (by decide);obtain⟨_,_,e,-,kd,s,m,p,c0,c1,c2,c3,-,hw⟩:=Ij.cells h.tt (i:=1) (by decide);cases e;have q:=k.box;have K:=D_ q;have B:=D_ q;have Q:=CH q;have D:=CH q;have y:=Ag q;have c:=I k;have r:=I l;clear q k h l;go_wp2;go_ret;first
    |exact⟨_,_,rfl,c.1.int (j:=0) (by decide) m,r.1.trans (c.1.df (.inl rfl))⟩
    |exact⟨_,_,rfl,c.1.int (j:=1) (by decide) m,r.1.trans (c.1.df (.inl rfl))⟩
    |exact⟨_,_,rfl,c.1.int (j:=2) (by decide) m,r.1.trans (c.1.df (.inl rfl))⟩
    |exact⟨_,_,rfl,c.1.int (j:=3) (by decide) m,r.1.trans (c.1.df (.inl rfl))⟩
    |exact⟨_,_,rfl,c.1.int (j:=4) (by decide) m,r.1.trans (c.1.df (.inl rfl))⟩
    |exact⟨_,_,rfl,c.1.int (j:=7) (by decide) m,r.1.trans (c.1.df (.inl rfl))⟩
  have G:((n:Int) !=2)=true:=by simp;omega
  go_in
  go_wp2;go_ret;exact⟨_,_,rfl,c.1,DF.refl ..⟩
 |6,_=>
  by_cases A:n=4
  . subst A;go_in
    go_wp2_with fail;refine(fH _ a 4 cap 1 4 u.1.tt).mono ?_;rintro e w1 ⟨b,rfl,-,f⟩;have o:=I (c.1.below f);have x:=I (u.1.below f);have t:=I (DF.of (lo:=lo) (cb:=cb) (sb:=sb) f);clear c u f;cases b
    . go_wp2;go_ret;exact⟨_,_,rfl,o.1,t.1⟩
    go_wp2_with fail;refine(EK _ a 4 cap 2 _ x.1.tt).mono ?_;rintro e w2 ⟨b,rfl,-,f⟩;have k:=I (o.1.below f);have h:=I (x.1.below f);have l:=I (t.1.trans (DF.of (lo:=lo) (cb:=cb) (sb:=sb) f));clear o x t f;cases b
    . go_wp2;go_ret;exact⟨_,_,rfl,k.1,l.1⟩
    go_wp2_with fail;refine(fH _ a 4 cap 3 4 h.1.tt).mono ?_;rintro e w3 ⟨b,rfl,-,f⟩;have z:=I (k.1.below f);have T3:=I (h.1.below f);have H:=I (l.1.trans (DF.of (lo:=lo) (cb:=cb) (sb:=sb) f));clear k h l f;cases b
    . go_wp2;go_ret;exact⟨_,_,rfl,z.1,H.1⟩
    have⟨s,g⟩:=z.1.seen;have Y:=D_ g;have Z:=CH g;have y:=Ag g;clear g;go_upto_region 8 with fail
    all_goals first
    |(go_ret
      exact⟨_,_,rfl,z.1,H.1⟩)
    |skip
    clear Y Z y;refine dM (by decide) z.1 T3.1 H.1 λW2 k h l=>?_
    obtain⟨tb,E,rfl,F,-,-⟩:=h.cells (i:=1) (by decide);obtain⟨_,_,e,-,kd,s,m,p,c0,c1,c2,c3,-,hw⟩:=Ij.cells h.tt (i:=1) (by decide);cases e;obtain⟨_,_,e,-,a0,s3,m3,p3,d0,d1,d2,d3,-,a1⟩:=Ij.cells h.tt (i:=3) (by decide);cases e;have q:=k.box;have B:=D_ q;have Y:=D_ q;have D:=CH q;have Z:=CH q;have y:=Ag q;have c:=I k;have r:=I l;clear q k h l;go_wp2_with fail;go_region_law (fail)
    all_goals
     have e:=c.1.drew.int (j:=5) (by decide) m;have e2:=e.int (j:=6) (by decide) m3;have d:=((DF.of (lo:=lo) (cb:=cb) (sb:=sb) (dr W2 1)).trans (c.1.drew.df (b:=cb) (i:=5) (v:=Bn m) (.inl rfl))).trans (e.df (b:=cb) (i:=6) (v:=Bn m3) (.inl rfl));have HE:=I e2;have HG:=I (r.1.trans d);clear e e2 d;go_wp2;go_ret;exact⟨_,_,rfl,HE.1,HG.1⟩
  have G:((n:Int) !=4)=true:=by simp;omega
  go_in
  go_wp2;go_ret;exact⟨_,_,rfl,c.1,DF.refl ..⟩
end
def Yo(k:Nat):TypeId:= [28,29,30,31,32,33].getD k 0
def cM(k:Nat):Nat:= [72,80,64,56,48,32].getD k 0
def Ye:Nat->Value
 |0=>.agg #[.string ByteArray.empty,Bn 0,Bn 0,.string ByteArray.empty,.slice none 0 0]
 |1=>.agg #[Bn 0,.string ByteArray.empty,Bn 0,Bn 0,.string ByteArray.empty,.slice none 0 0]
 |2=>.agg #[Bn 0,Bn 0,Bn 0,.string ByteArray.empty,.slice none 0 0]
 |3=>.agg #[Bn 0,Bn 0,.string ByteArray.empty,.slice none 0 0]
 |4=>.agg #[.string ByteArray.empty,.string ByteArray.empty,Bn 0,Bn 0]
 |_=>.agg #[.string ByteArray.empty,Bn 0,Bn 0]
def Vf(a:k<6):EI (Yo k) (Nn k) (Ye k) (Nm k) (cM k):=by
 match k,a with
 |0,_|1,_|2,_|3,_|4,_|5,_=>exact⟨by rfl,by kernel_rfl,by rfl,by decide⟩
def ZT{h:LV}(H:sH k h):h.length=Nm k-(if k<4 then 4 else 0)/\∀u∈h,u.oneCell'=true:=by
 match k with
 |0=>obtain⟨s,rfl,_⟩:=H;exact⟨rfl,λu hu=>by simp at hu;subst hu;rfl⟩
 |1=>obtain⟨n,s,rfl,_⟩:=H;exact⟨rfl,λu hu=>by simp at hu;rcases hu with rfl|rfl <;> rfl⟩
 |2=>obtain⟨n,rfl,_⟩:=H;exact⟨rfl,λu hu=>by simp at hu;subst hu;rfl⟩
 |3=>obtain rfl:h= []:=H;exact⟨rfl,λu hu=>by cases hu⟩
 |4=>obtain⟨s,t,x,y,rfl,_⟩:=H;exact⟨rfl,λu hu=>by simp at hu;rcases hu with rfl|rfl|rfl|rfl <;> rfl⟩
 |5=>obtain⟨s,x,y,rfl,_⟩:=H;exact⟨rfl,λu hu=>by simp at hu;rcases hu with rfl|rfl|rfl <;> rfl⟩
 |k+6=>exact H.elim
theorem Mq.len(j:k<6)(H:Mq k P w c):c.length=Nm k/\∀u∈c,u.oneCell'=true:=by
 obtain⟨h,e,rfl,f,g,i⟩:=H;have L:=ZT f;by_cases d:k<4;obtain⟨x,a,l,rfl,_⟩:=g d;rw[iP d]at L;have m:4<=Nm k:=by match k,d with|0,_|1,_|2,_|3,_=>decide
 refine⟨(by simp_all),λu b=>?_⟩;rcases List.mem_append.1 b with b|b;exact L.2 u b;simp[xv]at b;rcases b with rfl|rfl|rfl|rfl <;> rfl;simp_all
def lH{tb off:Nat}(i:Nat)(k:Int)(d:k=i)(h:i<=n)(f:n<=cap):∃p c,((p=some ((aD tb (off+i*4)):Addr)/\c=cap-i)\/(c=0/\n-i=0))/\
 ∀wx,(Instr.slice 226 (Kx tb off n cap) (some (Bn k)) none none).run prog wx=.ok (CU p (n-i) c) wx:=by
 subst d;have a:(0:Int)<=(i:Int)/\(i:Int)<=n:=by omega
 by_cases b:cap=i;refine⟨some (aD tb off),cap-i,.inr ⟨by omega,by omega⟩,λwx=>?_⟩;simp[Instr.slice,Instr.sliceBounds,Instr.sliceBound,asIntOf,a,b,go_sem,underlying226];omega;refine⟨some (aD tb (off+i*4)),cap-i,.inl ⟨rfl,rfl⟩,λwx=>?_⟩;simp[Instr.slice,Instr.sliceBounds,Instr.sliceBound,asIntOf,a,b,go_sem,underlying226,Addr.add];rw[iP h];split
 next e=>rw[e];rfl
 rfl
section
variable {lo cb sb m n:Nat} {I0:Nat→Int} {U:Nat→Value} {C:Nat→List (LV)} {w0 w w':Wd} {v:Value}
structure DS(lo cb sb m:Nat)(I0:Nat->Int)(U:Nat->Value)(C:Nat->List (LV))(w0:Wd)(v:Value)(n:Nat)(w:Wd):Prop where
 ci:CI lo cb sb m I0 U C w
 tk:Fe cb sb w v n
 df:DF lo cb sb w0 w
 le:lo<=w.heap.size
def DS.call(S:DS lo cb sb m I0 U C w0 v n w)(h:Bw w w'):DS lo cb sb m I0 U C w0 v n w':=⟨S.ci.below h,S.tk.below h,S.df.trans (DF.of h),Bf S.le h.size⟩
abbrev HD(lo cb sb m:Nat)(I0:Nat->Int)(U:Nat->Value)(C:Nat->List (LV))(w0:Wd)(v:Value)(n:Nat)(w:Wd):Prop:=Af (DS lo cb sb m I0 U C w0 v n w)
abbrev KD(lo cb sb m:Nat)(I0:Nat->Int)(U:Nat->Value)(C:Nat->List (LV))(w0:Wd)(v:Value)(n i:Nat)(e:Ending)(w':Wd):Prop:=∃b:Bool,e=.returned (.bool b)/\(b=true->i<n)/\HD lo cb sb m I0 U C w0 v n w'
variable {a:Ae} {cap:Nat}
def Zz(S:HD lo cb sb m I0 U C w0 (CU a n cap) n w)(i:Nat)(k:Int):Calls prog 192 #[CU a n cap,i,k] w (KD lo cb sb m I0 U C w0 (CU a n cap) n i):=
 (fH w a n cap i k S.1.tk.tt).mono λe w' ⟨b,h1,h2,h3⟩=>⟨b,h1,h2,I (S.1.call h3)⟩
def Pz(S:HD lo cb sb m I0 U C w0 (CU a n cap) n w)(i:Nat)(t:BA):Calls prog 195 #[CU a n cap,i,B_ t] w (KD lo cb sb m I0 U C w0 (CU a n cap) n i):=
 (EK w a n cap i t S.1.tk.tt).mono λe w' ⟨b,h1,h2,h3⟩=>⟨b,h1,h2,I (S.1.call h3)⟩
def lM(S:HD lo cb sb m I0 U C w0 (CU a n cap) n w)(i:Nat):Calls prog 194 #[CU a n cap,i] w (KD lo cb sb m I0 U C w0 (CU a n cap) n i):=
 (YB w a n cap i S.1.tk.tt).mono λe w' ⟨b,h1,h2,h3⟩=>⟨b,h1,h2,I (S.1.call h3)⟩
def DS.tx{tb off:Nat}(S:DS lo cb sb m I0 U C w0 (Kx tb off n cap) n w){i:Nat}(a:i<n):∃(s:BA) (p:Int),w.cell? (aD tb (off+i*4+1))=some (B_ s)/\w.cell? (aD tb (off+i*4+2))=some (Bn p)/\s.size<=2^47/\(Lit.int .i64 p).wf=true/\tb<w.heap.size:=by
 have⟨_,_,e,b,h,s,q,p,j,c,d,k,f,g⟩:=Ij.cells S.tk.tt a;cases e;exact⟨s,q,c,d,f,g,b⟩
theorem DS.drop{tb off:Nat}(S:DS lo cb sb m I0 U C w0 (Kx tb off n cap) n w)(i:Nat):Qt (λ_=>True) w (Kx tb (off+i*4) (n-i) (cap-i)) (n-i):=by
 have⟨g,a,c,e,h,l,d⟩:=S.tk;cases e;refine⟨by omega,_,_,rfl,by omega,by omega,λhn=>⟨tb,off+i*4,rfl,trivial,λj hj=>?_⟩⟩;have⟨b,o,e,_,f⟩:=d (by omega);cases e;have⟨k,s,q,p,r⟩:=f (i+j) (by omega);grind
def sG(lo cb sb m:Nat)(w:Wd)(e:Ending)(w':Wd):Prop:=∃(k:Int) (J0:Nat->Int) (U:Nat->Value) (C:Nat->List (LV)),e=.returned k/\CI lo cb sb (m+1) J0 U C w'/\DF lo cb sb w w'
def HD.fail(S:HD lo cb sb m I0 U C w0 v n w)(k:Int):sG lo cb sb m w0 (.returned k) w:=⟨k,I0,U,C,rfl,S.1.ci.more (Nat.le_succ _),S.1.df⟩
def XB(lo:Nat)(U:Nat->Value)(xb:Nat)(x:zH)(xa:Ae)(xc:Nat)(w:Wd):Prop:=w.heap[xb]?=some (.cells (xv x xa xc).toArray 71 (0,0))/\Iu (λb=>lo<=b/\∀j,j<6->(U j).ownBlock≠some b) w (xv x xa xc)
def XB.call{a:Nat}{x:zH}{c:Ae}{d:Nat}(h:XB lo U a x c d w)(e:Bw w w'):XB lo U a x c d w':=⟨Ac e h.1,h.2.step λb hb hP=>⟨hP,e.block b hb⟩⟩
def DS.xb{x:zH}{a:Ae}{c:Nat}(S:DS lo cb sb m I0 U C w0 v n w)(E:Iu (λb=>w.heap.size<=b) w' (xv x a c))(d:Bw w w'):XB lo U w'.heap.size x a c (w'.alloc (.cells (xv x a c).toArray 71)):=
 ⟨zh _ _,E.step λb hb hP=>⟨⟨Bf S.le hP,λj hj e=>by have:=((S.ci.own j hj).lt b e).2;omega⟩,heap_alloc_old _ _ hb⟩⟩
def HD.expr{tb off i:Nat}(S:HD lo cb sb m I0 U C w0 (Kx tb off n cap) n w){p:Ae}{c:Nat}(h:(p=some (aD tb (off+i*4))/\c=cap-i)\/(c=0/\n-i=0)):Qt (λ_=>True) w (CU p (n-i) c) (n-i):=by
 rcases h with⟨rfl,rfl⟩|⟨rfl,h⟩;exact S.1.drop i;exact⟨by omega,_,_,rfl,by omega,by omega,λh=>by omega⟩
end
section
variable {ops:Array Oper} {Q:Exit→Act→Wd→Prop} {w0 w:Wd} {Z:List Nat} {n i d N:Nat} {L:Array Bool} {a:Act} {l:List (Nat×Value)} {o:Oper}
variable {lo cb sb m:Nat} {I0:Nat→Int} {U:Nat→Value} {C:Nat→List (LV)}
def fJ(i d:Nat){k:Nat}(q:k<6)(S:CI lo cb sb m I0 U C w)(hm:m<=30000)(R:lo<=w.heap.size){c:LV}(E:Mq k (λb=>lo<=b/\∀j,j<6->(U j).ownBlock≠some b) w c) 
 (T:ops[i]?=some o) (V:a.tmps.size=N) (s x:Nat) (W:Gr (fr a) l s=U k) (X:Gr (fr a) l x=Kx w.heap.size 0 1 1)
 (h:∀g f r,r.heap[cb]?=some (.cells #[(I0 0),(I0 1),(I0 2),(I0 3),(I0 4),(I0 5),(I0 6),U 0,U 1,U 2,U 3,U 4,U 5,(I0 7)] 35 (0,0))->
  CI lo cb sb (m+1) I0 (up U k (Kx g 0 ((C k).length+1) f)) (up C k (C k++ [c])) (r.setCell (aD cb (7+k)) (Kx g 0 ((C k).length+1) f))->
  DF lo cb sb w (r.setCell (aD cb (7+k)) (Kx g 0 ((C k).length+1) f))->Jd prog ops Q w0 Z n (L.setIfInBounds i true) a ((d,Kx g 0 ((C k).length+1) f)::l) r)
 (Y:o.op=.call {callee:=.builtin .append,args:=#[.tmp s,.tmp x],argTypes:=#[Yo k,Yo k]}:=by rfl) (hZ:i∈Z:=by decide)
 (F:Region.ready .any ops L= [i]:=by kernel_rfl) (hl:l.all (λp=>decide (p.1<N))=true:=by kernel_rfl) (hd:o.dst=some d:=by rfl) (hw:Region.wanted o (yielded ops (Dj a l).tmps)=true:=by rfl):Jd prog ops Q w0 Z (n+1) L a l (w.alloc (.cells c.toArray (Nn k))):=by
 have⟨i0,u,v,y,z⟩:=info_parts (Vf q).info;have G:=E.len q;have H:=S.len k q;have A:cM k<=80:=by match k,q with|0,_|1,_|2,_|3,_|4,_|5,_=>decide
 intro t;have e:=Wl V hl;refine zo F T hw λK hK=>?_;refine wp_append_lies _ (.tmp s) (.tmp x) (Yo k) Y lo (Nn k) i0 (Ye k) (Nm k) (cM k) (Vf q).ht u v y z (Vf q).zs (Vf q).pos (U k) (C k).length (C k).flatten ((e.1 s).trans W) ((S.own k q).alloc _) (aD w.heap.size 0) 1 1 c ((e.1 x).trans X) (by rw[G.1];omega) (Hh w c (Nn k)) G.2 (by decide) (by unfold maxLen;omega) ?_ (by simp;omega) (w.heap.size+1) (by simp) ?_;exact Bf (Nat.mul_le_mul (show(C k).length+1<=30001 by omega) A) (by decide);intro g f r B M ha a0;have P:=S.push q E B M ha rfl;refine hK.1 _ _ (λh=>aB hZ h) ?_;rw[hd];refine h g f r ?_ P.1 P.2 (t.set (by rw[F];simp));have D:=Ag S.box;exact(M.block cb (by simp;omega) (λe=>by have:=(S.own k q).lt cb e.symm;have:=S.lt;omega)).trans ((heap_alloc_old w _ D).trans S.box)
theorem Yk(i d:Nat){k:Nat}(f:k<6)(S:CI lo cb sb m I0 U C w)(hm:m<=30000)(H:lo<=w.heap.size){c:LV}(D:c.length=Nm k/\∀u∈c,u.oneCell'=true) 
 (M:ops[i]?=some o) (P:a.tmps.size=N) (s x:Nat) (R:Gr (fr a) l s=U k) (T:Gr (fr a) l x=Kx w.heap.size 0 1 1)
 (h:∀g b j,j.ownsRow lo (Nn k) (Nm k) (Kx g 0 ((C k).length+1) b) ((C k).length+1) ((C k).flatten++c)->(w.alloc (.cells c.toArray (Nn k))).grownBy j (U k).ownBlock->((U k).ownBlock=some g\/g=w.heap.size+1)->
  j.heap[cb]?=some (.cells #[(I0 0),(I0 1),(I0 2),(I0 3),(I0 4),(I0 5),(I0 6),U 0,U 1,U 2,U 3,U 4,U 5,(I0 7)] 35 (0,0))->
  Jd prog ops Q w0 Z n (L.setIfInBounds i true) a ((d,Kx g 0 ((C k).length+1) b)::l) j)
 (V:o.op=.call {callee:=.builtin .append,args:=#[.tmp s,.tmp x],argTypes:=#[Yo k,Yo k]}:=by rfl) (W:i∈Z:=by decide)
 (E:Region.ready .any ops L= [i]:=by kernel_rfl) (X:l.all (λp=>decide (p.1<N))=true:=by kernel_rfl) (hd:o.dst=some d:=by rfl) (Y:Region.wanted o (yielded ops (Dj a l).tmps)=true:=by rfl):Jd prog ops Q w0 Z (n+1) L a l (w.alloc (.cells c.toArray (Nn k))):=by
 have⟨i0,r,t,v,y⟩:=info_parts (Vf f).info;have F:=S.len k f;have z:cM k<=80:=by match k,f with|0,_|1,_|2,_|3,_|4,_|5,_=>decide
 intro q;have e:=Wl P X;refine zo E M Y λK hK=>?_;refine wp_append_lies _ (.tmp s) (.tmp x) (Yo k) V lo (Nn k) i0 (Ye k) (Nm k) (cM k) (Vf f).ht r t v y (Vf f).zs (Vf f).pos (U k) (C k).length (C k).flatten ((e.1 s).trans R) ((S.own k f).alloc _) (aD w.heap.size 0) 1 1 c ((e.1 x).trans T) (by omega) (Hh w c (Nn k)) D.2 (by decide) (by grind[maxLen]) ?_ (by simp;omega) (w.heap.size+1) (by simp) ?_;exact Bf (Nat.mul_le_mul (show(C k).length+1<=30001 by omega) z) (by decide);intro g b j A G ha a0;refine hK.1 _ _ (λh=>aB W h) ?_;rw[hd];refine h g b j A G ha ?_ (q.set (by rw[E];simp));have B:=Ag S.box;exact(G.block cb (by simp;omega) (λe=>by have:=(S.own k f).lt cb e.symm;have:=S.lt;omega)).trans ((heap_alloc_old w _ B).trans S.box)
def dL(i j:Nat){oj:Oper}(h:ops[i]?=some o)(k:ops[j]?=some oj)(f:a.tmps.size=N) 
 (b:∀A:Act,E3 A (Gr (fr a) l)->∀K:Act->Wd->Prop,Af (∀w',(i ∉ Z->Bw w0 w->Bw w0 w')->Jd prog ops Q w0 Z n (L.setIfInBounds i true) a l w'->K A w')->Oper.wp prog o A w K Q)
 (c:∀A:Act,E3 A (Gr (fr a) l)->∀K:Act->Wd->Prop,Af (∀w',(j ∉ Z->Bw w0 w->Bw w0 w')->Jd prog ops Q w0 Z n (L.setIfInBounds j true) a l w'->K A w')->Oper.wp prog oj A w K Q)
 (d:Region.ready .any ops L= [i,j]:=by kernel_rfl) (g:l.all (λp=>decide (p.1<N))=true:=by kernel_rfl) (m:Region.wanted o (yielded ops (Dj a l).tmps)=true:=by rfl) (e:Region.wanted oj (yielded ops (Dj a l).tmps)=true:=by rfl):Jd prog ops Q w0 Z (n+1) L a l w:=
 λhc=>Yr d h k m e (λK hK=>b _ (Wl f g) K (I λw' b c=>hK.1 _ _ b (c (hc.set (by rw[d];simp))))) (λK hK=>c _ (Wl f g) K (I λw' b c=>hK.1 _ _ b (c (hc.set (by rw[d];simp)))))
def Qy(g j:Nat)(v0 v1 v2 v3:Value)(w:Wd):Wd:=(((w.setCell (aD g j) v0).setCell (aD g (j+1)) v1).setCell (aD g (j+2)) v2).setCell (aD g (j+3)) v3
def YY{w:Wd}{lo g n cap:Nat}{e:TypeId}{xs:LV}{z0 z1 z2 z3:Value}(v0 v1 v2 v3:Value)(h:w.ownsRow lo e 4 (Kx g 0 (n+1) cap) (n+1) (xs++ [z0,z1,z2,z3]))(b:xs.length=n*4):
 (Qy g (n*4) v0 v1 v2 v3 w).ownsRow lo e 4 (Kx g 0 (n+1) cap) (n+1) (xs++ [v0,v1,v2,v3]):=by
 have a:=((((h.stored (n*4) v0).1.stored (n*4+1) v1).1.stored (n*4+2) v2).1.stored (n*4+3) v3).1;have c:((((xs++ [z0,z1,z2,z3]).set (n*4) v0).set (n*4+1) v1).set (n*4+2) v2).set (n*4+3) v3=xs++ [v0,v1,v2,v3]:=by
  rw[<-b];simp[List.set_append]
 rw[c]at a;exact a
theorem EB{w:Wd}{g j b:Nat}{v0 v1 v2 v3:Value}(h:b≠g):(Qy g j v0 v1 v2 v3 w).heap[b]?=w.heap[b]?:=by
 grind[Qy,Below.heap_setCell]
theorem ZN{w:Wd}{g j:Nat}{v0 v1 v2 v3 v:Value}{p:Addr}(h:g≠p.block):Qy g j v0 v1 v2 v3 (w.setCell p v)=(Qy g j v0 v1 v2 v3 w).setCell p v:=by
 grind[Qy,Ze]
theorem CI.elem(S:CI lo cb sb m I0 U C w){c:Wd}{g cap:Nat}{ob:Obj}{x:zH}{d:Ae}{e:Nat}{z0 z1 z2 z3:Value}(i:c.ownsRow lo (Nn 3) (Nm 3) (Kx g 0 ((C 3).length+1) cap) ((C 3).length+1) ((C 3).flatten++ [z0,z1,z2,z3]))(a:(w.alloc ob).grownBy c (U 3).ownBlock) 
 (f:(U 3).ownBlock=some g\/g=w.heap.size+1) (k:Mq 3 (λb=>lo<=b/\∀j,j<6->(U j).ownBlock≠some b) w (xv x d e)):
 CI lo cb sb (m+1) I0 (up U 3 (Kx g 0 ((C 3).length+1) cap)) (up C 3 (C 3++ [xv x d e])) ((Qy g ((C 3).length*4) (Bn x.op) (Bn x.num) (B_ x.name) (CU d x.args.length e) c).setCell (aD cb (7+3)) (Kx g 0 ((C 3).length+1) cap))/\
 DF lo cb sb w ((Qy g ((C 3).length*4) (Bn x.op) (Bn x.num) (B_ x.name) (CU d x.args.length e) c).setCell (aD cb (7+3)) (Kx g 0 ((C 3).length+1) cap)):=by
 refine S.push (by decide) k (ob:=ob) (YY _ _ _ _ i (S.own 3 (by decide)).1) ?_ f rfl;refine⟨a.os,a.tape,a.output,by have:=a.size;grind[Qy,World.setCell],λb hb hne=>?_⟩;refine(EB ?_).trans (a.block b hb hne);rintro rfl;rcases f with h|h;all_goals simp_all
theorem mL{w:Wd}{lo g n cap:Nat}{e:TypeId}{xs:LV}{z0 z1 z2 z3:Value}(h:w.ownsRow lo e 4 (Kx g 0 (n+1) cap) (n+1) (xs++ [z0,z1,z2,z3]))(c:xs.length=n*4):
 ∃a:Array Value,w.heap[g]?=some (.cells a e (0,0))/\a[n*4]?=some z0/\a[n*4+1]?=some z1/\a[n*4+2]?=some z2/\a[n*4+3]?=some z3:=by
 rcases h.2 with⟨e,_⟩|⟨i,b,a,e,_,d,_,_,_,f⟩;cases e;cases e;have K:∀j u, [z0,z1,z2,z3][j]?=some u->a[n*4+j]?=some u:=λj u hu=>by
  have k:j<4:=(List.getElem?_eq_some_iff.1 hu).1;have:(a.toList.take ((n+1)*4))[n*4+j]?=some u:=by
   rw[f,Nf (by omega),c,show n*4+j-n*4=j by omega];exact hu
  grind
 exact⟨a,d,K 0 _ rfl,K 1 _ rfl,K 2 _ rfl,K 3 _ rfl⟩
theorem ZR{w:Wd}{lo g n cap b:Nat}{e:TypeId}{s:Nat}{xs:LV}(h:w.ownsRow lo e s (Kx g 0 (n+1) cap) (n+1) xs)(a:b<lo):g≠b:=by
 rcases h.2 with⟨e,_⟩|⟨c,_,_,e,d,_⟩;all_goals grind
def CI.flen(S:CI lo cb sb m I0 U C w)(k:Nat)(a:k<6):(C k).flatten.length=(C k).length*Nm k:=(S.own k a).1
end
section
variable {lo cb sb m:Nat} {I0:Nat→Int} {U:Nat→Value} {C:Nat→List (LV)}
def Py:Array Value:=#[.string ⟨#[114,101,112,111,114,116]⟩,.string ⟨#[114,101,108,101,97,115,101]⟩,.string ⟨#[99,111,110,110,101,99,116]⟩,.string ⟨#[115,105,116]⟩,.string ⟨#[108,97,121,111,118,101,114]⟩,.string ⟨#[103,117,97,114,97,110,116,101,101]⟩,.string ⟨#[110,105,103,104,116]⟩]
def YX{w:Wd}{a:Nat}(h:w.heap[a]?=some (.cells Py 9 (0,0))){k:Nat}(b:k<7):∃s:BA,w.cell? (aD a k)=some (B_ s):=by
 match k,b with
 |0,_|1,_|2,_|3,_|4,_|5,_|6,_=>exact⟨_,zm h rfl⟩
def YH(w:Wd)(a:Ae)(n cap:Nat)(S:CI lo cb sb m I0 U C w)(T:Fe cb sb w (CU a n cap) n)(f4:lo<=w.heap.size)(hm:m<=30000):
 Calls prog 121 #[Ua cb 0,Ua sb 0,CU a n cap] w (sG lo cb sb m w):=by
 have hn:=T.1;have⟨_,_,e,a6,f5,_⟩:=T.2;cases e;have HX:HD lo cb sb m I0 U C w (CU a n cap) n w:=I ⟨S,T,DF.refl ..,f4⟩;go_in;go_wp2_with fail;refine(Zz HX 0 1).mono ?_;rintro e w1 ⟨b,rfl,P,H1⟩;cases b
 . go_wp2;go_ret;exact HD.fail H1 _
 have h0:=P rfl;obtain⟨tb,off,rfl,-⟩:=Fe.cells H1.1.tk h0;go_wp2_with fail;have Q1:=I (zh w1 (.cells Py 9));have H2:=I (H1.1.call ((An _ w1).alloc (Bv _) (.cells Py 9)));change Code.wp _ _ _ _ (w1.alloc (.cells Py 9));generalize w1.heap.size=fb at*;generalize w1.alloc (.cells Py 9)=w2 at*;go_loopw [8] (λi wr=>∃k:Nat,k<=7/\i=Bn k/\Af (wr.heap[fb]?=some (.cells Py 9 (0,0)))/\HD lo cb sb m I0 U C w (Kx tb off n cap) n wr) (λi _=>7-(intOf i).toNat);exact⟨0,by omega,rfl,Q1,H2⟩;obtain⟨k,hk,rfl,Q2,s⟩:=hrel;by_cases h7:k<7
 . have h1:(k:Int)<7:=by omega
   obtain⟨R,p0,c1,c2,-,-,a3⟩:=s.1.tx h0;have⟨N,d1⟩:=YX Q2.1 h7;have dl:=Ag Q2.1;go_wp2;go_quiet (fail);have Q4:=fO Q2 (dr wr nq);have F:=I (s.1.call (dr wr nq));go_wp2_with (refine(ZC _ _ n cap k h7 F.1.ci F.1.tk).mono ?_;rintro e w5 ⟨kk,J0,rfl,S5,D5⟩);have M:=I S5;have HG:=I D5;go_ret;exact⟨_,_,_,_,rfl,M.1.more (Nat.le_succ _),F.1.df.trans HG.1⟩;go_roundw;exact⟨k+1,by omega,by go_num,Q4,F⟩;simp[intOf];omega
 obtain rfl:k=7:=by omega
 go_upto_region 10 with fail
 go_cut [40] from 41 to 53 (λv wx=>∃b:Bool,v=.bool b/\(b=true->2<n)/\HD lo cb sb m I0 U C w (Kx tb off n cap) n wx)
 case first=>
  obtain⟨R,p0,c1,c2,-,-,a3⟩:=s.1.tx h0;cases e0:(R.toList== [99,111,110,115,116])
  . go_wp2;go_meet;exact⟨_,rfl,(λh=>by cases h),s⟩
  go_wp2_with fail;refine(lM s 1).mono ?_;rintro e v0 ⟨b0,rfl,a8,Y⟩;cases b0
  . go_wp2;go_meet;exact⟨_,rfl,(λh=>by cases h),Y⟩
  go_wp2_with fail;refine(Pz Y 2 _).mono ?_;rintro e v1 ⟨b1,rfl,a1,K1⟩;go_wp2;go_meet;exact⟨_,rfl,a1,K1⟩
 obtain⟨b,rfl,P,s⟩:=hcut;cases b;rotate_left
 . have h2:=P rfl;go_upto_region 11 with fail;go_cut [9,10] from 54 to 59 (λp v wx=>∃(G:Nat) (x:zH) (y:Ae) (z:Nat) (H:Int),p=Ua G 0/\v=Bn H/\Af (XB lo U G x y z wx)/\HD lo cb sb m I0 U C w (Kx tb off n cap) n wx)
   case first=>
    have⟨lp,lc,a4,a5⟩:=lH (tb:=tb) (off:=off) 3 3 rfl (show 3<=n by omega) a6;go_wp2_with fail;refine(lD _ _ (n-3) (s.expr a4)).mono ?_;rintro e w5 ⟨x,y,z,H,rfl,E5,B5⟩;have X5:=I (s.1.xb E5 B5);have L:=I ((s.1.call B5).call ((An _ w5).alloc (Bv _) (.cells (xv x y z).toArray 71)));go_wp2;go_meet;exact⟨_,x,y,z,H,rfl,rfl,X5,L⟩
   obtain⟨G,x,y,z,H,rfl,rfl,X4,F⟩:=hcut;go_wp2_with fail;go_ret;exact HD.fail F _;have X5:=I (X4.1.call (dr wc 1));have L:=I (F.1.call (dr wc 1));have⟨x0,x1,x2,x3⟩:=dJ X4.1.1;have q:=F.1.ci.box;have z7:=EE 7 q rfl;have zl:=Ag q;have X:=Ag X4.1.1;have⟨N,p1,d1,e1,a9,c7,a2⟩:=F.1.tx (i:=1) (by omega);have g1:(1:Int)<n:=by omega
   refine aE λa ha=>?_;have d:a.tmps.size=335:=by rw[ha];rfl
   have M:=I (dr wc 1);refine aF [12,15] [(0,(Ua cb 0)),(2,(Kx tb off n cap)),(9,(Ua G 0))] d (by rw[ha];rfl) ?_;have HA:=I ha;refine De 0 62 (Ua cb 0) rfl d ?_;refine De 1 63 (Ua cb 0) rfl d ?_;refine De 2 64 (Ua cb 0) rfl d ?_;refine De 3 65 (Ua cb 7) rfl d ?_;refine Nk 4 66 65 (U 0) [[], []] rfl d M.1 z7 zl ?_;refine De 5 67 (Kx tb off n cap) rfl d ?_;refine Kr 6 68 (Ua tb (off+4)) rfl d ?_ ?_;intro A Z e;have⟨f,l,o⟩:=F_ 67 (Kx tb off n cap) e rfl;go_simp;refine De 7 69 (Ua tb (off+4+1)) rfl d ?_;refine Nk 8 70 69 (B_ N) [[11,10], []] rfl d M.1 d1 a2 ?_;refine Vk 9 71 (.agg #[x.op,x.num,B_ x.name,CU y x.args.length z]) [[11,10], []] rfl d M.1 ?_ ?_;intro A Z e Q;have⟨f,l,o⟩:=F_ 9 (Ua G 0) e rfl;have c0:=(Q.cell (p:=aD G 0) X).trans x0;have c1:=(Q.cell (p:=aD G 1) X).trans x1;have c2:=(Q.cell (p:=aD G 2) X).trans x2;have c3:=(Q.cell (p:=aD G 3) X).trans x3;have cl:=As X Q.size;go_simp;refine Kr 10 72 (.agg #[B_ N,x.op,x.num,B_ x.name,CU y x.args.length z]) rfl d ?_ ?_;intro A Z e;have⟨f,l,o⟩:=F_ 70 (B_ N) e rfl;have⟨B,D,E⟩:=F_ 71 (.agg #[x.op,x.num,B_ x.name,CU y x.args.length z]) e rfl;go_simp;refine Rz 11 73 rfl d (λA e K hK=>?_);have⟨f,l,o⟩:=F_ 72 (.agg #[B_ N,x.op,x.num,B_ x.name,CU y x.args.length z]) e rfl;go_simp;refine hK.1 _ _ (λ_ h=>Ab h (J _ _)) ?_;refine fJ 12 74 (k:=0) (by decide) L.1.ci (by omega) L.1.le (c:=B_ N::xv x y z) ⟨[B_ N],xv x y z,rfl,⟨N,rfl,a9⟩,λ_=>X5.1.2,λh=>aB h (by decide)⟩ rfl d 66 73 rfl rfl ?_;intro g gc w6 W hC hD;have HC:=I hC;have HG:=I hD;have k7:=D_ W;have y7:=CH W;have kl:=Ag W;refine De 13 75 (Ua cb 0) rfl d ?_;refine De 14 76 (Ua cb 7) rfl d ?_;refine Ub 15 rfl d (λA e K hK=>?_);have⟨f,l,o⟩:=F_ 76 (Ua cb 7) e rfl;have⟨B,D,E⟩:=F_ 74 (Kx g 0 ((C 0).length+1) gc) e rfl;go_simp;refine hK.1 _ (λh=>aB (by decide) h) ?_;refine Wn ?_;rw[HA.1];simp only[Dj,Act.put,O];go_wp2;go_ret;exact⟨_,_,_,_,rfl,HC.1,L.1.df.trans HG.1⟩
 go_upto_region 15 with fail
 go_cut [77] from 78 to 95 (λv wx=>∃b:Bool,v=.bool b/\(b=true->3<n)/\HD lo cb sb m I0 U C w (Kx tb off n cap) n wx)
 case first=>
  obtain⟨R,p0,c1,c2,-,-,a3⟩:=s.1.tx h0;go_wp2_with fail;refine(lJ _ _).mono ?_;rintro e w5 ⟨ks,rfl,b6,rfl⟩;cases e0:(ks !=0)
  . go_wp2;go_meet;exact⟨_,rfl,(λh=>by cases h),s⟩
  go_wp2_with fail;refine(Pz s 1 _).mono ?_;rintro e v0 ⟨b0,rfl,a8,Y⟩;cases b0
  . go_wp2;go_meet;exact⟨_,rfl,(λh=>by cases h),Y⟩
  go_wp2_with fail;refine(lM Y 2).mono ?_;rintro e v1 ⟨b1,rfl,a1,K1⟩;cases b1
  . go_wp2;go_meet;exact⟨_,rfl,(λh=>by cases h),K1⟩
  go_wp2_with fail;refine(Pz K1 3 _).mono ?_;rintro e v2 ⟨b2,rfl,b9,K2⟩;go_wp2;go_meet;exact⟨_,rfl,b9,K2⟩
 obtain⟨b,rfl,P,s⟩:=hcut;cases b;rotate_left
 . have h2:=P rfl;go_upto_region 16 with fail;go_cut [11,12] from 96 to 101 (λp v wx=>∃(G:Nat) (x:zH) (y:Ae) (z:Nat) (H:Int),p=Ua G 0/\v=Bn H/\Af (XB lo U G x y z wx)/\HD lo cb sb m I0 U C w (Kx tb off n cap) n wx)
   case first=>
    have⟨lp,lc,a4,a5⟩:=lH (tb:=tb) (off:=off) 4 4 rfl (show 4<=n by omega) a6;go_wp2_with fail;refine(lD _ _ (n-4) (s.expr a4)).mono ?_;rintro e w5 ⟨x,y,z,H,rfl,E5,B5⟩;have X5:=I (s.1.xb E5 B5);have L:=I ((s.1.call B5).call ((An _ w5).alloc (Bv _) (.cells (xv x y z).toArray 71)));go_wp2;go_meet;exact⟨_,x,y,z,H,rfl,rfl,X5,L⟩
   obtain⟨G,x,y,z,H,rfl,rfl,X4,F⟩:=hcut;go_wp2_with fail;go_ret;exact HD.fail F _;have X5:=I (X4.1.call (dr wc 1));have L:=I (F.1.call (dr wc 1));have⟨x0,x1,x2,x3⟩:=dJ X4.1.1;have q:=F.1.ci.box;have z7:=EE 8 q rfl;have zl:=Ag q;have X:=Ag X4.1.1;have⟨R,p0,d0,e0,f6,f7,b7⟩:=F.1.tx (i:=0) (by omega);have g0:(0:Int)<n:=by omega
   have⟨s2,p2,d2,e2,f8,h3,c8⟩:=F.1.tx (i:=2) (by omega);have g2:(2:Int)<n:=by omega
   refine aE λa ha=>?_;have d:a.tmps.size=335:=by rw[ha];rfl
   have M:=I (dr wc 1);refine aF [17,20] [(0,(Ua cb 0)),(2,(Kx tb off n cap)),(11,(Ua G 0))] d (by rw[ha];rfl) ?_;have HA:=I ha;refine De 0 104 (Ua cb 0) rfl d ?_;refine De 1 105 (Ua cb 0) rfl d ?_;refine De 2 106 (Ua cb 0) rfl d ?_;refine De 3 107 (Ua cb 8) rfl d ?_;refine Nk 4 108 107 (U 1) [[], []] rfl d M.1 z7 zl ?_;refine De 5 109 (Kx tb off n cap) rfl d ?_;refine Kr 6 110 (Ua tb off) rfl d ?_ ?_;intro A Z e;have⟨f,l,o⟩:=F_ 109 (Kx tb off n cap) e rfl;go_simp;refine De 7 111 (Ua tb (off+1)) rfl d ?_;refine Nk 8 112 111 (B_ R) [[9], []] rfl d M.1 d0 b7 ?_;refine De 10 114 (Kx tb off n cap) rfl d ?_;refine Kr 11 115 (Ua tb (off+8)) rfl d ?_ ?_;intro A Z e;have⟨f,l,o⟩:=F_ 114 (Kx tb off n cap) e rfl;go_simp;refine De 12 116 (Ua tb (off+8+1)) rfl d ?_;refine Nk 13 117 116 (B_ s2) [[16,15], []] rfl d M.1 d2 c8 ?_;refine Vk 14 118 (.agg #[x.op,x.num,B_ x.name,CU y x.args.length z]) [[16,15], []] rfl d M.1 ?_ ?_;intro A Z e Q;have⟨f,l,o⟩:=F_ 11 (Ua G 0) e rfl;have c0:=(Q.cell (p:=aD G 0) X).trans x0;have c1:=(Q.cell (p:=aD G 1) X).trans x1;have c2:=(Q.cell (p:=aD G 2) X).trans x2;have c3:=(Q.cell (p:=aD G 3) X).trans x3;have cl:=As X Q.size;go_simp;refine Rz 9 113 rfl d (λA e K hK=>?_);have⟨f,l,o⟩:=F_ 112 (B_ R) e rfl;go_simp;refine(lJ _ _).mono ?_;rintro e' w5 ⟨ks,rfl,b6,rfl⟩;refine hK.1 _ _ (λ_ h=>h) ?_;refine Kr 15 119 (.agg #[ks,B_ s2,x.op,x.num,B_ x.name,CU y x.args.length z]) rfl d ?_ ?_;intro A Z e;have⟨f,l,o⟩:=F_ 113 (Bn ks) e rfl;have⟨B,D,E⟩:=F_ 117 (B_ s2) e rfl;have⟨c9,d7,d8⟩:=F_ 118 (.agg #[x.op,x.num,B_ x.name,CU y x.args.length z]) e rfl;go_simp;refine Rz 16 120 rfl d (λA e K hK=>?_);have⟨f,l,o⟩:=F_ 119 (.agg #[ks,B_ s2,x.op,x.num,B_ x.name,CU y x.args.length z]) e rfl;go_simp;refine hK.1 _ _ (λ_ h=>Ab h (J _ _)) ?_;refine fJ 17 121 (k:=1) (by decide) L.1.ci (by omega) L.1.le (c:=Bn ks::.string s2::xv x y z) ⟨[Bn ks,B_ s2],xv x y z,rfl,⟨ks,s2,rfl,b6,f8⟩,λ_=>X5.1.2,λh=>aB h (by decide)⟩ rfl d 108 120 rfl rfl ?_;intro g gc w6 W hC hD;have HC:=I hC;have HG:=I hD;have k7:=D_ W;have y7:=CH W;have kl:=Ag W;refine De 18 122 (Ua cb 0) rfl d ?_;refine De 19 123 (Ua cb 8) rfl d ?_;refine Ub 20 rfl d (λA e K hK=>?_);have⟨f,l,o⟩:=F_ 123 (Ua cb 8) e rfl;have⟨B,D,E⟩:=F_ 121 (Kx g 0 ((C 1).length+1) gc) e rfl;go_simp;refine hK.1 _ (λh=>aB (by decide) h) ?_;refine Wn ?_;rw[HA.1];simp only[Dj,Act.put,O];go_wp2;go_ret;exact⟨_,_,_,_,rfl,HC.1,L.1.df.trans HG.1⟩
 go_upto_region 20 with fail
 go_cut [124] from 125 to 138 (λv wx=>∃b:Bool,v=.bool b/\(b=true->2<n)/\HD lo cb sb m I0 U C w (Kx tb off n cap) n wx)
 case first=>
  obtain⟨R,p0,c1,c2,-,-,a3⟩:=s.1.tx h0;go_wp2_with fail;refine(lJ _ _).mono ?_;rintro e w5 ⟨ks,rfl,b6,rfl⟩;cases e0:(ks !=0)
  . go_wp2;go_meet;exact⟨_,rfl,(λh=>by cases h),s⟩
  go_wp2_with fail;refine(Pz s 1 _).mono ?_;rintro e v0 ⟨b0,rfl,a8,Y⟩;cases b0
  . go_wp2;go_meet;exact⟨_,rfl,(λh=>by cases h),Y⟩
  go_wp2_with fail;refine(Pz Y 2 _).mono ?_;rintro e v1 ⟨b1,rfl,a1,K1⟩;go_wp2;go_meet;exact⟨_,rfl,a1,K1⟩
 obtain⟨b,rfl,P,s⟩:=hcut;cases b;rotate_left
 . have h2:=P rfl;go_upto_region 21 with fail;go_cut [13,14] from 139 to 144 (λp v wx=>∃(G:Nat) (x:zH) (y:Ae) (z:Nat) (H:Int),p=Ua G 0/\v=Bn H/\Af (XB lo U G x y z wx)/\HD lo cb sb m I0 U C w (Kx tb off n cap) n wx)
   case first=>
    have⟨lp,lc,a4,a5⟩:=lH (tb:=tb) (off:=off) 3 3 rfl (show 3<=n by omega) a6;go_wp2_with fail;refine(lD _ _ (n-3) (s.expr a4)).mono ?_;rintro e w5 ⟨x,y,z,H,rfl,E5,B5⟩;have X5:=I (s.1.xb E5 B5);have L:=I ((s.1.call B5).call ((An _ w5).alloc (Bv _) (.cells (xv x y z).toArray 71)));go_wp2;go_meet;exact⟨_,x,y,z,H,rfl,rfl,X5,L⟩
   obtain⟨G,x,y,z,H,rfl,rfl,X4,F⟩:=hcut;go_wp2_with fail;go_ret;exact HD.fail F _;have X5:=I (X4.1.call (dr wc 1));have L:=I (F.1.call (dr wc 1));have⟨x0,x1,x2,x3⟩:=dJ X4.1.1;have q:=F.1.ci.box;have z7:=EE 9 q rfl;have zl:=Ag q;have X:=Ag X4.1.1;have⟨R,p0,d0,e0,f6,f7,b7⟩:=F.1.tx (i:=0) (by omega);have g0:(0:Int)<n:=by omega
   refine aE λa ha=>?_;have d:a.tmps.size=335:=by rw[ha];rfl
   have M:=I (dr wc 1);refine aF [13,16] [(0,(Ua cb 0)),(2,(Kx tb off n cap)),(13,(Ua G 0))] d (by rw[ha];rfl) ?_;have HA:=I ha;refine De 0 147 (Ua cb 0) rfl d ?_;refine De 1 148 (Ua cb 0) rfl d ?_;refine De 2 149 (Ua cb 0) rfl d ?_;refine De 3 150 (Ua cb 9) rfl d ?_;refine Nk 4 151 150 (U 2) [[], []] rfl d M.1 z7 zl ?_;refine De 5 152 (Kx tb off n cap) rfl d ?_;refine Kr 6 153 (Ua tb off) rfl d ?_ ?_;intro A Z e;have⟨f,l,o⟩:=F_ 152 (Kx tb off n cap) e rfl;go_simp;refine De 7 154 (Ua tb (off+1)) rfl d ?_;refine Nk 8 155 154 (B_ R) [[9], []] rfl d M.1 d0 b7 ?_;refine Vk 10 157 (.agg #[x.op,x.num,B_ x.name,CU y x.args.length z]) [[12,11], []] rfl d M.1 ?_ ?_;intro A Z e Q;have⟨f,l,o⟩:=F_ 13 (Ua G 0) e rfl;have c0:=(Q.cell (p:=aD G 0) X).trans x0;have c1:=(Q.cell (p:=aD G 1) X).trans x1;have c2:=(Q.cell (p:=aD G 2) X).trans x2;have c3:=(Q.cell (p:=aD G 3) X).trans x3;have cl:=As X Q.size;go_simp;refine Rz 9 156 rfl d (λA e K hK=>?_);have⟨f,l,o⟩:=F_ 155 (B_ R) e rfl;go_simp;refine(lJ _ _).mono ?_;rintro e' w5 ⟨ks,rfl,b6,rfl⟩;refine hK.1 _ _ (λ_ h=>h) ?_;refine Kr 11 158 (.agg #[ks,x.op,x.num,B_ x.name,CU y x.args.length z]) rfl d ?_ ?_;intro A Z e;have⟨f,l,o⟩:=F_ 156 (Bn ks) e rfl;have⟨B,D,E⟩:=F_ 157 (.agg #[x.op,x.num,B_ x.name,CU y x.args.length z]) e rfl;go_simp;refine Rz 12 159 rfl d (λA e K hK=>?_);have⟨f,l,o⟩:=F_ 158 (.agg #[ks,x.op,x.num,B_ x.name,CU y x.args.length z]) e rfl;go_simp;refine hK.1 _ _ (λ_ h=>Ab h (J _ _)) ?_;refine fJ 13 160 (k:=2) (by decide) L.1.ci (by omega) L.1.le (c:=Bn ks::xv x y z) ⟨[Bn ks],xv x y z,rfl,⟨ks,rfl,b6⟩,λ_=>X5.1.2,λh=>aB h (by decide)⟩ rfl d 151 159 rfl rfl ?_;intro g gc w6 W hC hD;have HC:=I hC;have HG:=I hD;have k7:=D_ W;have y7:=CH W;have kl:=Ag W;refine De 14 161 (Ua cb 0) rfl d ?_;refine De 15 162 (Ua cb 9) rfl d ?_;refine Ub 16 rfl d (λA e K hK=>?_);have⟨f,l,o⟩:=F_ 162 (Ua cb 9) e rfl;have⟨B,D,E⟩:=F_ 160 (Kx g 0 ((C 2).length+1) gc) e rfl;go_simp;refine hK.1 _ (λh=>aB (by decide) h) ?_;refine Wn ?_;rw[HA.1];simp only[Dj,Act.put,O];go_wp2;go_ret;exact⟨_,_,_,_,rfl,HC.1,L.1.df.trans HG.1⟩
 go_upto_region 25 with fail
 go_cut [163] from 164 to 176 (λv wx=>∃b:Bool,v=.bool b/\(b=true->2<n)/\HD lo cb sb m I0 U C w (Kx tb off n cap) n wx)
 case first=>
  obtain⟨R,p0,c1,c2,-,-,a3⟩:=s.1.tx h0;cases e0:(R.toList== [100,117,116,121])
  . go_wp2;go_meet;exact⟨_,rfl,(λh=>by cases h),s⟩
  go_wp2_with fail;refine(Pz s 1 _).mono ?_;rintro e v0 ⟨b0,rfl,a8,Y⟩;cases b0
  . go_wp2;go_meet;exact⟨_,rfl,(λh=>by cases h),Y⟩
  go_wp2_with fail;refine(Pz Y 2 _).mono ?_;rintro e v1 ⟨b1,rfl,a1,K1⟩;go_wp2;go_meet;exact⟨_,rfl,a1,K1⟩
 obtain⟨b,rfl,P,s⟩:=hcut;cases b;rotate_left
 . have h2:=P rfl;go_upto_region 26 with fail;go_cut [15,16] from 177 to 182 (λp v wx=>∃(G:Nat) (x:zH) (y:Ae) (z:Nat) (H:Int),p=Ua G 0/\v=Bn H/\Af (XB lo U G x y z wx)/\HD lo cb sb m I0 U C w (Kx tb off n cap) n wx)
   case first=>
    have⟨lp,lc,a4,a5⟩:=lH (tb:=tb) (off:=off) 3 3 rfl (show 3<=n by omega) a6;go_wp2_with fail;refine(lD _ _ (n-3) (s.expr a4)).mono ?_;rintro e w5 ⟨x,y,z,H,rfl,E5,B5⟩;have X5:=I (s.1.xb E5 B5);have L:=I ((s.1.call B5).call ((An _ w5).alloc (Bv _) (.cells (xv x y z).toArray 71)));go_wp2;go_meet;exact⟨_,x,y,z,H,rfl,rfl,X5,L⟩
   obtain⟨G,x,y,z,H,rfl,rfl,X4,F⟩:=hcut;go_wp2_with fail;go_ret;exact HD.fail F _;have X5:=I (X4.1.call (dr wc 1));have L:=I (F.1.call (dr wc 1));have⟨x0,x1,x2,x3⟩:=dJ X4.1.1;have q:=F.1.ci.box;have z7:=EE 10 q rfl;have zl:=Ag q;have X:=Ag X4.1.1;have⟨ua,uc,d9⟩:=Js (F.1.ci.own 3 (by decide));refine aE λa ha=>?_;have d:a.tmps.size=335:=by rw[ha];rfl
   have M:=I (dr wc 1);have f9:=I d9;refine aF [7,9,12] [(0,(Ua cb 0)),(15,(Ua G 0))] d (by rw[ha];rfl) ?_;have HA:=I ha;refine De 0 185 (Ua cb 0) rfl d ?_;refine De 1 186 (Ua cb 0) rfl d ?_;refine De 2 187 (Ua cb 10) rfl d ?_;refine Vk 3 188 (U 3) [[], [], []] rfl d M.1 ?_ ?_;intro A Z e Q;have⟨f,l,o⟩:=F_ 187 (Ua cb 10) e rfl;have c:=(Q.cell (p:=aD cb 10) zl).trans z7;have cl:=As zl Q.size;go_simp;refine Vk 4 189 (.agg #[x.op,x.num,B_ x.name,CU y x.args.length z]) [[], [], []] rfl d M.1 ?_ ?_;intro A Z e Q;have⟨f,l,o⟩:=F_ 15 (Ua G 0) e rfl;have c0:=(Q.cell (p:=aD G 0) X).trans x0;have c1:=(Q.cell (p:=aD G 1) X).trans x1;have c2:=(Q.cell (p:=aD G 2) X).trans x2;have c3:=(Q.cell (p:=aD G 3) X).trans x3;have cl:=As X Q.size;go_simp;refine Kr 5 190 (Bn (C 3).length) rfl d ?_ ?_;intro A Z e;have⟨f,l,o⟩:=F_ 188 (U 3) e rfl;rw[f9.1]at f l o;go_simp;refine Rz 6 191 rfl d (λA e K hK=>?_);go_simp;refine hK.1 _ _ (λ_ h=>Ab h (J _ _)) ?_;refine Yk 7 192 (k:=3) (by decide) L.1.ci (by omega) L.1.le (c:= [Bn 0,Bn 0,B_ ⟨#[]⟩,Ls]) ⟨rfl,λu hu=>by simp at hu;rcases hu with rfl|rfl|rfl|rfl <;> rfl⟩ rfl d 188 191 rfl rfl ?_;intro g gc w6 hO hG hA hC;have⟨E1,E2⟩:=CI.elem (z0:=Bn 0) (z1:=Bn 0) (z2:=B_ ⟨#[]⟩) (z3:=Ls) L.1.ci hO hG hA ⟨[],xv x y z,rfl,rfl,λ_=>X5.1.2,λh=>aB h (by decide)⟩;have⟨h4,r,r0,r1,r2,r3⟩:=mL hO (L.1.ci.flen 3 (by decide));have c4:g≠cb:=ZR hO (by have:=L.1.ci.lt;omega);have HC:=I E1;have HG:=I E2;have HR:=I r;have b8:=I hC;have i1:((C 3).length:Int)<(((C 3).length+1:Nat):Int):=by omega
   have i2:(C 3).length<(C 3).length+1:=Nat.lt_succ_self _;have i3:¬ ((C 3).length:Int)+1<=((C 3).length:Int):=by omega
   refine Kr 8 193 (Ua g ((C 3).length*4)) rfl d ?_ ?_;intro A Z e;have⟨f,l,o⟩:=F_ 192 (Kx g 0 ((C 3).length+1) gc) e rfl;have⟨B,D,E⟩:=F_ 190 (Bn (C 3).length) e rfl;go_simp;refine De 10 194 (Ua cb 0) rfl d ?_;refine De 11 195 (Ua cb 10) rfl d ?_;refine dL 9 12 rfl rfl d (λA e K hK=>?_) (λA e K hK=>?_)
   . have⟨f,l,o⟩:=F_ 193 (Ua g ((C 3).length*4)) e rfl;have⟨B,D,E⟩:=F_ 189 (.agg #[x.op,x.num,B_ x.name,CU y x.args.length z]) e rfl;have R:=zm (j:=(C 3).length*4) HR.1 r0;have y0:=zQ (j:=(C 3).length*4) HR.1;have N:=zm (j:=(C 3).length*4+1) HR.1 r1;have y1:=zQ (j:=(C 3).length*4+1) HR.1;have s2:=zm (j:=(C 3).length*4+2) HR.1 r2;have y2:=zQ (j:=(C 3).length*4+2) HR.1;have s3:=zm (j:=(C 3).length*4+3) HR.1 r3;have y3:=zQ (j:=(C 3).length*4+3) HR.1;have sl:=Ag HR.1;go_simp;refine hK.1 _ (λh=>aB (by decide) h) ?_;change Jd _ _ _ _ _ _ _ _ _ (Qy g ((C 3).length*4) (Bn x.op) (Bn x.num) (B_ x.name) (CU y x.args.length z) w6);have c5:=I ((EB (v0:=Bn x.op) (v1:=Bn x.num) (v2:=B_ x.name) (v3:=CU y x.args.length z) (j:=(C 3).length*4) c4.symm).trans b8.1);generalize Qy g ((C 3).length*4) (Bn x.op) (Bn x.num) (B_ x.name) (CU y x.args.length z) w6=w7 at*;refine Ub 12 rfl d (λA e K hK=>?_);have⟨f,l,o⟩:=F_ 195 (Ua cb 10) e rfl;have⟨B,D,E⟩:=F_ 192 (Kx g 0 ((C 3).length+1) gc) e rfl;have R:=EE 10 c5.1 rfl;have y0:=E_ 10 c5.1;have sl:=Ag c5.1;go_simp;refine hK.1 _ (λh=>aB (by decide) h) ?_;refine Wn ?_;rw[HA.1];simp only[Dj,Act.put,O];go_wp2;go_ret;exact⟨_,_,_,_,rfl,HC.1,L.1.df.trans HG.1⟩
   have⟨f,l,o⟩:=F_ 195 (Ua cb 10) e rfl;have⟨B,D,E⟩:=F_ 192 (Kx g 0 ((C 3).length+1) gc) e rfl;have R:=EE 10 b8.1 rfl;have y0:=E_ 10 b8.1;have sl:=Ag b8.1;go_simp;refine hK.1 _ (λh=>aB (by decide) h) ?_;have a0:=I ((Below.heap_setCell w6 (aD cb 10) (Kx g 0 ((C 3).length+1) gc) g c4).trans HR.1);rw[<-ZN (show g≠((aD cb (7+3)):Addr).block from c4)]at HC HG;generalize w6.setCell (aD cb (7+3)) (Kx g 0 ((C 3).length+1) gc)=w7 at*;refine Ub 9 rfl d (λA e K hK=>?_);have⟨f,l,o⟩:=F_ 193 (Ua g ((C 3).length*4)) e rfl;have⟨B,D,E⟩:=F_ 189 (.agg #[x.op,x.num,B_ x.name,CU y x.args.length z]) e rfl;have R:=zm (j:=(C 3).length*4) a0.1 r0;have y0:=zQ (j:=(C 3).length*4) a0.1;have N:=zm (j:=(C 3).length*4+1) a0.1 r1;have y1:=zQ (j:=(C 3).length*4+1) a0.1;have s2:=zm (j:=(C 3).length*4+2) a0.1 r2;have y2:=zQ (j:=(C 3).length*4+2) a0.1;have s3:=zm (j:=(C 3).length*4+3) a0.1 r3;have y3:=zQ (j:=(C 3).length*4+3) a0.1;have sl:=Ag a0.1;go_simp;refine hK.1 _ (λh=>aB (by decide) h) ?_;change Jd _ _ _ _ _ _ _ _ _ (Qy g ((C 3).length*4) (Bn x.op) (Bn x.num) (B_ x.name) (CU y x.args.length z) w7);refine Wn ?_;rw[HA.1];simp only[Dj,Act.put,O];go_wp2;go_ret;exact⟨_,_,_,_,rfl,HC.1,L.1.df.trans HG.1⟩
 go_upto_region 30 with fail
 go_cut [196] from 197 to 230 (λv wx=>∃b:Bool,v=.bool b/\(b=true->n=8)/\HD lo cb sb m I0 U C w (Kx tb off n cap) n wx)
 case first=>
  obtain⟨R,p0,c1,c2,-,-,a3⟩:=s.1.tx h0;cases e0:(R.toList== [108,105,109,105,116])
  . go_wp2;go_meet;exact⟨_,rfl,(λh=>by cases h),s⟩
  cases e1:((n:Int)==8)
  . go_wp2;go_meet;exact⟨_,rfl,(λh=>by cases h),s⟩
  have e2:=I (show n=8 by simp at e1;omega);have e3:8<n+1:=by have:=e2.1;omega
  go_wp2_with fail;refine(lM s 1).mono ?_;rintro e v0 ⟨b0,rfl,a8,Y⟩;cases b0
  . go_wp2;go_meet;exact⟨_,rfl,(λh=>by cases h),Y⟩
  go_wp2_with fail;refine(Pz Y 2 _).mono ?_;rintro e v1 ⟨b1,rfl,a1,K1⟩;cases b1
  . go_wp2;go_meet;exact⟨_,rfl,(λh=>by cases h),K1⟩
  go_wp2_with fail;refine(Zz K1 3 1).mono ?_;rintro e v2 ⟨b2,rfl,b9,K2⟩;cases b2
  . go_wp2;go_meet;exact⟨_,rfl,(λh=>by cases h),K2⟩
  go_wp2_with fail;refine(Pz K2 5 _).mono ?_;rintro e v3 ⟨b3,rfl,g7,K3⟩;cases b3
  . go_wp2;go_meet;exact⟨_,rfl,(λh=>by cases h),K3⟩
  go_wp2_with fail;refine(Zz K3 6 2).mono ?_;rintro e v4 ⟨b4,rfl,g8,K4⟩;cases b4
  . go_wp2;go_meet;exact⟨_,rfl,(λh=>by cases h),K4⟩
  go_wp2_with fail;refine(Pz K4 7 _).mono ?_;rintro e v5 ⟨b5,rfl,g9,K5⟩;go_wp2;go_meet;exact⟨_,rfl,(λ_=>e2.1),K5⟩
 obtain⟨b,rfl,P,s⟩:=hcut;cases b;rotate_left
 . have h2:=P rfl;subst h2;have⟨s3,p3,d3,e3,c6,f0,a7⟩:=s.1.tx (i:=3) (by decide);go_wp2_with fail;refine(eC s3 _).mono ?_;rintro e w5 ⟨rfl,rfl⟩;generalize bW s3=mk;go_upto_region 32 with fail;go_cut [251] from 236 to 250 (λv wx=>∃b:Bool,v=.bool b/\HD lo cb sb m I0 U C w (Kx tb off 8 cap) 8 wx)
   case first=>
    cases e1:(mk==2)
    . cases e2:(mk==1)
      . go_wp2;go_meet;exact⟨_,rfl,s⟩
      go_wp2_with fail;refine(Zz s 4 2).mono ?_;rintro e v0 ⟨b0,rfl,-,Y⟩;go_wp2;go_meet;exact⟨_,rfl,Y⟩
    have e2:(mk==1)=false:=by
     have:=eq_of_beq e1;subst this;rfl
    go_wp2_with fail;refine(Zz s 4 3).mono ?_;rintro e v0 ⟨b0,rfl,-,Y⟩;cases b0
    . go_wp2;go_meet;exact⟨_,rfl,Y⟩
    go_wp2;go_meet;exact⟨_,rfl,Y⟩
   obtain⟨b,rfl,F⟩:=hcut;cases b;rotate_left
   . go_wp2;go_ret;exact HD.fail F _
   go_wp2_with fail;have L:=I (F.1.call (dr wc 1));have q:=F.1.ci.box;have z7:=EE 11 q rfl;have zl:=Ag q;have⟨N,p1,d1,e1,a9,c7,a2⟩:=F.1.tx (i:=1) (by decide);have g1:(1:Int)<8:=by decide
   have⟨s3,p3,d3,e3,c6,f0,a7⟩:=F.1.tx (i:=3) (by decide);have g3:(3:Int)<8:=by decide
   have⟨s4,p4,d4,e4,h5,h6,f1⟩:=F.1.tx (i:=4) (by decide);have g4:(4:Int)<8:=by decide
   have⟨s6,p6,d6,e6,h8,h9,f2⟩:=F.1.tx (i:=6) (by decide);have g6:(6:Int)<8:=by decide
   refine aE λa ha=>?_;have d:a.tmps.size=335:=by rw[ha];rfl
   have M:=I (dr wc 1);refine aF [23,26] [(0,(Ua cb 0)),(2,(Kx tb off 8 cap))] d (by rw[ha];rfl) ?_;have HA:=I ha;refine De 0 252 (Ua cb 0) rfl d ?_;refine De 1 253 (Ua cb 0) rfl d ?_;refine De 2 254 (Ua cb 0) rfl d ?_;refine De 3 255 (Ua cb 11) rfl d ?_;refine Nk 4 256 255 (U 4) [[], []] rfl d M.1 z7 zl ?_;refine De 5 257 (Kx tb off 8 cap) rfl d ?_;refine Kr 6 258 (Ua tb (off+4)) rfl d ?_ ?_;intro A Z e;have⟨f,l,o⟩:=F_ 257 (Kx tb off 8 cap) e rfl;go_simp;refine De 7 259 (Ua tb (off+4+1)) rfl d ?_;refine Nk 8 260 259 (B_ N) [[22,21], []] rfl d M.1 d1 a2 ?_;refine De 9 261 (Kx tb off 8 cap) rfl d ?_;refine Kr 10 262 (Ua tb (off+12)) rfl d ?_ ?_;intro A Z e;have⟨f,l,o⟩:=F_ 261 (Kx tb off 8 cap) e rfl;go_simp;refine De 11 263 (Ua tb (off+12+1)) rfl d ?_;refine Nk 12 264 263 (B_ s3) [[22,21], []] rfl d M.1 d3 a7 ?_;refine De 13 265 (Kx tb off 8 cap) rfl d ?_;refine Kr 14 266 (Ua tb (off+16)) rfl d ?_ ?_;intro A Z e;have⟨f,l,o⟩:=F_ 265 (Kx tb off 8 cap) e rfl;go_simp;refine De 15 267 (Ua tb (off+16+2)) rfl d ?_;refine Nk 16 268 267 (Bn p4) [[22,21], []] rfl d M.1 e4 f1 ?_;refine De 17 269 (Kx tb off 8 cap) rfl d ?_;refine Kr 18 270 (Ua tb (off+24)) rfl d ?_ ?_;intro A Z e;have⟨f,l,o⟩:=F_ 269 (Kx tb off 8 cap) e rfl;go_simp;refine De 19 271 (Ua tb (off+24+2)) rfl d ?_;refine Nk 20 272 271 (Bn p6) [[22,21], []] rfl d M.1 e6 f2 ?_;refine Kr 21 273 (.agg #[B_ N,B_ s3,p4,p6]) rfl d ?_ ?_;intro A Z e;have⟨f,l,o⟩:=F_ 260 (B_ N) e rfl;have⟨B,D,E⟩:=F_ 264 (B_ s3) e rfl;have⟨c9,d7,d8⟩:=F_ 268 (Bn p4) e rfl;have⟨i0,i4,i5⟩:=F_ 272 (Bn p6) e rfl;go_simp;refine Rz 22 274 rfl d (λA e K hK=>?_);have⟨f,l,o⟩:=F_ 273 (.agg #[B_ N,B_ s3,p4,p6]) e rfl;go_simp;refine hK.1 _ _ (λ_ h=>Ab h (J _ _)) ?_;refine fJ 23 275 (k:=4) (by decide) L.1.ci (by omega) L.1.le (c:= [B_ N,B_ s3,Bn p4,Bn p6]) ⟨[B_ N,B_ s3,Bn p4,Bn p6], [],rfl,⟨N,s3,p4,p6,rfl,a9,c6⟩,λh=>aB h (by decide),λ_=>rfl⟩ rfl d 256 274 rfl rfl ?_;intro g gc w6 W hC hD;have HC:=I hC;have HG:=I hD;have k7:=D_ W;have y7:=CH W;have kl:=Ag W;refine De 24 276 (Ua cb 0) rfl d ?_;refine De 25 277 (Ua cb 11) rfl d ?_;refine Ub 26 rfl d (λA e K hK=>?_);have⟨f,l,o⟩:=F_ 277 (Ua cb 11) e rfl;have⟨B,D,E⟩:=F_ 275 (Kx g 0 ((C 4).length+1) gc) e rfl;go_simp;refine hK.1 _ (λh=>aB (by decide) h) ?_;refine Wn ?_;rw[HA.1];simp only[Dj,Act.put,O];go_wp2;go_ret;exact⟨_,_,_,_,rfl,HC.1,L.1.df.trans HG.1⟩
 go_upto_region 35 with fail
 go_cut [278] from 279 to 312 (λv wx=>∃b:Bool,v=.bool b/\(b=true->n=7)/\HD lo cb sb m I0 U C w (Kx tb off n cap) n wx)
 case first=>
  obtain⟨R,p0,c1,c2,-,-,a3⟩:=s.1.tx h0;cases e0:(R.toList== [111,102,102])
  . go_wp2;go_meet;exact⟨_,rfl,(λh=>by cases h),s⟩
  cases e1:((n:Int)==7)
  . go_wp2;go_meet;exact⟨_,rfl,(λh=>by cases h),s⟩
  have e2:=I (show n=7 by simp at e1;omega);have e3:7<n+1:=by have:=e2.1;omega
  go_wp2_with fail;refine(lM s 1).mono ?_;rintro e v0 ⟨b0,rfl,a8,Y⟩;cases b0
  . go_wp2;go_meet;exact⟨_,rfl,(λh=>by cases h),Y⟩
  go_wp2_with fail;refine(Pz Y 2 _).mono ?_;rintro e v1 ⟨b1,rfl,a1,K1⟩;cases b1
  . go_wp2;go_meet;exact⟨_,rfl,(λh=>by cases h),K1⟩
  go_wp2_with fail;refine(Zz K1 3 2).mono ?_;rintro e v2 ⟨b2,rfl,b9,K2⟩;cases b2
  . go_wp2;go_meet;exact⟨_,rfl,(λh=>by cases h),K2⟩
  go_wp2_with fail;refine(Pz K2 4 _).mono ?_;rintro e v3 ⟨b3,rfl,g7,K3⟩;cases b3
  . go_wp2;go_meet;exact⟨_,rfl,(λh=>by cases h),K3⟩
  go_wp2_with fail;refine(Zz K3 5 2).mono ?_;rintro e v4 ⟨b4,rfl,g8,K4⟩;cases b4
  . go_wp2;go_meet;exact⟨_,rfl,(λh=>by cases h),K4⟩
  go_wp2_with fail;refine(Pz K4 6 _).mono ?_;rintro e v5 ⟨b5,rfl,g9,K5⟩;go_wp2;go_meet;exact⟨_,rfl,(λ_=>e2.1),K5⟩
 obtain⟨b,rfl,P,s⟩:=hcut;cases b;rotate_left
 . have h2:=P rfl;subst h2;go_wp2_with fail;have F:=s;have L:=I (F.1.call (dr wc 1));have q:=F.1.ci.box;have z7:=EE 12 q rfl;have zl:=Ag q;have⟨N,p1,d1,e1,a9,c7,a2⟩:=F.1.tx (i:=1) (by decide);have g1:(1:Int)<7:=by decide
   have⟨s3,p3,d3,e3,c6,f0,a7⟩:=F.1.tx (i:=3) (by decide);have g3:(3:Int)<7:=by decide
   have⟨s5,p5,d5,e5,i6,i7,f3⟩:=F.1.tx (i:=5) (by decide);have g5:(5:Int)<7:=by decide
   refine aE λa ha=>?_;have d:a.tmps.size=335:=by rw[ha];rfl
   have M:=I (dr wc 1);refine aF [19,22] [(0,(Ua cb 0)),(2,(Kx tb off 7 cap))] d (by rw[ha];rfl) ?_;have HA:=I ha;refine De 0 313 (Ua cb 0) rfl d ?_;refine De 1 314 (Ua cb 0) rfl d ?_;refine De 2 315 (Ua cb 0) rfl d ?_;refine De 3 316 (Ua cb 12) rfl d ?_;refine Nk 4 317 316 (U 5) [[], []] rfl d M.1 z7 zl ?_;refine De 5 318 (Kx tb off 7 cap) rfl d ?_;refine Kr 6 319 (Ua tb (off+4)) rfl d ?_ ?_;intro A Z e;have⟨f,l,o⟩:=F_ 318 (Kx tb off 7 cap) e rfl;go_simp;refine De 7 320 (Ua tb (off+4+1)) rfl d ?_;refine Nk 8 321 320 (B_ N) [[18,17], []] rfl d M.1 d1 a2 ?_;refine De 9 322 (Kx tb off 7 cap) rfl d ?_;refine Kr 10 323 (Ua tb (off+12)) rfl d ?_ ?_;intro A Z e;have⟨f,l,o⟩:=F_ 322 (Kx tb off 7 cap) e rfl;go_simp;refine De 11 324 (Ua tb (off+12+2)) rfl d ?_;refine Nk 12 325 324 (Bn p3) [[18,17], []] rfl d M.1 e3 a7 ?_;refine De 13 326 (Kx tb off 7 cap) rfl d ?_;refine Kr 14 327 (Ua tb (off+20)) rfl d ?_ ?_;intro A Z e;have⟨f,l,o⟩:=F_ 326 (Kx tb off 7 cap) e rfl;go_simp;refine De 15 328 (Ua tb (off+20+2)) rfl d ?_;refine Nk 16 329 328 (Bn p5) [[18,17], []] rfl d M.1 e5 f3 ?_;refine Kr 17 330 (.agg #[B_ N,p3,p5]) rfl d ?_ ?_;intro A Z e;have⟨f,l,o⟩:=F_ 321 (B_ N) e rfl;have⟨B,D,E⟩:=F_ 325 (Bn p3) e rfl;have⟨c9,d7,d8⟩:=F_ 329 (Bn p5) e rfl;go_simp;refine Rz 18 331 rfl d (λA e K hK=>?_);have⟨f,l,o⟩:=F_ 330 (.agg #[B_ N,p3,p5]) e rfl;go_simp;refine hK.1 _ _ (λ_ h=>Ab h (J _ _)) ?_;refine fJ 19 332 (k:=5) (by decide) L.1.ci (by omega) L.1.le (c:= [B_ N,Bn p3,Bn p5]) ⟨[B_ N,Bn p3,Bn p5], [],rfl,⟨N,p3,p5,rfl,a9⟩,λh=>aB h (by decide),λ_=>rfl⟩ rfl d 317 331 rfl rfl ?_;intro g gc w6 W hC hD;have HC:=I hC;have HG:=I hD;have k7:=D_ W;have y7:=CH W;have kl:=Ag W;refine De 20 333 (Ua cb 0) rfl d ?_;refine De 21 334 (Ua cb 12) rfl d ?_;refine Ub 22 rfl d (λA e K hK=>?_);have⟨f,l,o⟩:=F_ 334 (Ua cb 12) e rfl;have⟨B,D,E⟩:=F_ 332 (Kx g 0 ((C 5).length+1) gc) e rfl;go_simp;refine hK.1 _ (λh=>aB (by decide) h) ?_;refine Wn ?_;rw[HA.1];simp only[Dj,Act.put,O];go_wp2;go_ret;exact⟨_,_,_,_,rfl,HC.1,L.1.df.trans HG.1⟩
 go_wp2;go_ret;exact HD.fail s _
end
section
variable {P:Program} {ops:Array Oper} {Q:Exit→Act→Wd→Prop} {w0 w:Wd} {Z:List Nat} {n N:Nat} {L:Array Bool} {a:Act} {l:List (Nat×Value)} {oi oj:Oper}
def rgDuo(i j c d:Nat)(g:ops[i]?=some oi)(h:ops[j]?=some oj)(e:a.tmps.size=N) 
 (k:∀A:Act,E3 A (Gr (fr a) l)->∀K:Act->Wd->Prop,Af (∀v w',(i ∉ Z->Bw w0 w->Bw w0 w')->Jd P ops Q w0 Z n (L.setIfInBounds i true) a ((c,v)::l) w'->K (A.put (some c) v) w')->Oper.wp P oi A w K Q)
 (m:∀A:Act,E3 A (Gr (fr a) l)->∀K:Act->Wd->Prop,Af (∀v w',(j ∉ Z->Bw w0 w->Bw w0 w')->Jd P ops Q w0 Z n (L.setIfInBounds j true) a ((d,v)::l) w'->K (A.put (some d) v) w')->Oper.wp P oj A w K Q)
 (b:Region.ready .any ops L= [i,j]:=by kernel_rfl) (f:l.all (λp=>decide (p.1<N))=true:=by kernel_rfl) (o:Region.wanted oi (yielded ops (Dj a l).tmps)=true:=by rfl) (q:Region.wanted oj (yielded ops (Dj a l).tmps)=true:=by rfl):Jd P ops Q w0 Z (n+1) L a l w:=
 λhc=>Yr b g h o q (λK hK=>k _ (Wl e f) K (I λv w' g1 g2=>hK.1 _ _ g1 (g2 (hc.set (by rw[b];simp))))) (λK hK=>m _ (Wl e f) K (I λv w' g1 g2=>hK.1 _ _ g1 (g2 (hc.set (by rw[b];simp)))))
theorem zBq{a:Act}{i j:Nat}{u v:Value}{l:List (Nat×Value)}(h:i≠j):Dj a ((i,u)::(j,v)::l)=Dj a ((j,v)::(i,u)::l):=by
 grind[Dj,Act.put,Array.setIfInBounds_comm]
theorem zCg{a:Act}{i:Nat}{u:Value}(l:List (Nat×Value)):∀(m:List (Nat×Value)),m.all (λp=>p.1 !=i)=true->Dj a (m++(i,u)::l)=Dj a ((i,u)::(m++l))
 |[],_=>rfl
 |p::m,h=>by
  simp only[List.all_cons,Em,bne_iff_ne]at h;have b:=zCg (a:=a) (u:=u) l m h.2;grind[Dj,zBq]
def PostQ(Post:Act->Wd->Prop)(Q:Exit->Act->Wd->Prop):Exit->Act->Wd->Prop
 | .normal,a,w=>Post a w
 |e,a,w=>Q e a w
def rgCut{c:Nat}(b:Act->Wd->Prop)(Z:List Nat)(l:List (Nat×Value))(d:a.tmps.size=N)(f:l.map (λp=>fr a p.1)=l.map Prod.snd)(h:Jd P ops (PostQ b Q) w Z ops.size (Array.replicate ops.size false) a l w.drew)(g:∀a' w',b a' w'->Q .normal a' w')(i:l.all (λp=>decide (p.1<N))=true:=by kernel_rfl)(j:P.follows .mixedOrders=true:=by kernel_rfl):(Code.region c ops true).wp P Q a w:=
 Code.wp_mono (λe a' w' h=>by
  cases e with
  |normal=>exact g a' w' h
  |_=>exact h) (aF Z l d f h i j)
end
