/- a part of the proof -/
import Derived.Orders
import Derived.KernelRfl
import Derived.Test.YtafdcbmgdfliiaaGreatG1
set_option linter.all false
set_option maxRecDepth 100000
set_option maxHeartbeats 3000000
namespace Go.Proofs.YtafdcbmgdfliiaaGreat
open Go.RowKit Go.Proofs.Tryz
variable {i p:Nat}{L:Array Bool}{v:Value}{w:Wd}
inductive Fc where
 |kn (v:Value)
 |pu (f:Value->Prop)
 |ow (f:Value->Wd->Prop) (h:∀v w w',f v w->Below w.heap.size w w'->f v w')
 |cp (t:Nat)
 |ag (l:List Nat)
 |bx (o:Obj)
 |bs (n m:Nat) (o:Obj)
 |st (t s:Nat) (f:Value->Obj->Prop)
def Fc.sem(b:Wd)(u:Nat->Value)(v:Value)(w:Wd):Fc->Prop
 | .kn x=>v=x
 | .pu f=>f v
 | .ow f _=>f v w
 | .cp t=>v=u t
 | .ag l=>v=.agg (l.map u).toArray
 | .bx o=>∃p,v=.pointer (some (aD p 0))/\b.heap.size<=p/\w.heap[p]?=some o
 | .bs n m o=>∃p,v=.slice (some (aD p 0)) n m/\b.heap.size<=p/\w.heap[p]?=some o
 | .st t s f=>∃p o,u t=.pointer (some (aD p 0))/\b.heap.size<=p/\w.heap[p]?=some o/\f (u s) o
def Fc.post(u:Nat->Value)(v:Value)(w w':Wd):Fc->Prop
 | .kn x=>Below w.heap.size w w'/\v=x
 | .pu f=>Below w.heap.size w w'/\f v
 | .ow f _=>Below w.heap.size w w'/\f v w'
 | .cp t=>Below w.heap.size w w'/\v=u t
 | .ag l=>Below w.heap.size w w'/\v=.agg (l.map u).toArray
 | .bx o=>Below w.heap.size w w'/\v=.pointer (some (aD w.heap.size 0))/\w'.heap[w.heap.size]?=some o
 | .bs n m o=>Below w.heap.size w w'/\v=.slice (some (aD w.heap.size 0)) n m/\w'.heap[w.heap.size]?=some o
 | .st t s f=>∃p o,u t=.pointer (some (aD p 0))/\(Below p w w'/\∀q,q≠p->w'.heap[q]?=w.heap[q]?)/\w'.heap[p]?=some o/\f (u s) o
def Fc.bo:Fc->Option Obj
 | .bx o=>some o
 | .bs _ _ o=>some o
 |_=>none
def Fc.tg:Fc->Option (Nat×Nat)
 | .st t s _=>some (t,s)
 |_=>none
def Ja:Value->Option Nat
 | .pointer (some a)=>some a.block
 | .slice (some a) _ _=>some a.block
 |_=>none
structure Sp where
 key:Nat
 need:List Nat
 fc:Fc
def Fc.rf:Fc->List Nat
 | .cp t=> [t]
 | .ag l=>l
 |_=> []
def Fc.io:Fc->Bool
 | .ow _ _=>true
 |_=>false
def Ts:List Sp->Nat->Fc
 |[],_=>.pu λ_=>True
 |s::l,k=>if s.key=k then s.fc else Ts l k
def Ho(b:Wd)(S:List Sp)(u:Nat->Value)(w:Wd)(G:Prop):List Nat->Prop
 |[]=>G
 |k::l=>(Ts S k).sem b u (u k) w->Ho b S u w G l
def sJ(P:Program)(b:Wd)(S:List Sp)(G:Wd->Prop)(u:Nat->Value)(o:Oper)(s:Sp):Prop:=
 ∀A w,(∀t,A.eval (.tmp t)=u t)->Below b.heap.size b w->G w->Ho b S u w (∀K:Act->Wd->Prop,Af (∀v w',s.fc.post u v w w'->K (A.put o.dst v) w')->Oper.wp P o A w K (λ_ _ _=>False)) s.need
def Sy(P:Program)(b:Wd)(S:List Sp)(G:Wd->Prop)(u:Nat->Value):List Oper->List Sp->Prop
 |o::os,s::ss=>sJ P b S G u o s/\Sy P b S G u os ss
 |_,_=>True
def Sx(u:Nat->Value)(l:LV)(G:Prop):List Nat->Prop
 |[]=>G
 |t::r=>u t=l.getD t undef->Sx u l G r
def Gn(u:Nat->Value):List Oper->List Sp->Act->Act
 |o::os,s::ss,a=>Gn u os ss (a.put o.dst (u s.key))
 |_,_,a=>a
def Fn(o:Oper):List Nat:=(o.after.toList.filter λe=>Region.binds .any e).map (·.on)
def rX(o:Oper):List Nat:=o.op.operands.toList.filterMap λ|.tmp t=>some t|_=>none
def Dn(ops:Array Oper)(i:Nat):Oper:=(ops[i]?).getD default
def Dy(S:List Sp)(i:Nat):Sp:=(S[i]?).getD ⟨0, [],.pu λ_=>True⟩
def rY(o:Oper):Bool:=match o.op with|.select ..=>false|_=>true
def mK(ops:Array Oper)(S:List Sp)(N i:Nat):Bool:=
 let o:=Dn ops i;let s:=Dy S i;let n:=ops.size;let all (p:Nat->Bool):=(List.range n).all p;let any (p:Nat->Bool):=(List.range n).any p
 let key (j:Nat):=(Dy S j).key;let dst (j:Nat):=(Dn ops j).dst;let need (j:Nat):=Fn (Dn ops j);let tg (j:Nat):=(Dy S j).fc.tg.map (·.1)
 o.guard.isNone&&rY o&&(Fn o).all (λe=>decide (e<i))&&decide (s.key<4096)&&(match o.dst with|some d=>decide (d<N)&&(d==s.key || decide (N<=s.key))|none=>decide (N<=s.key)) &&
 all (λj=>j==i || (key j !=s.key&&(o.dst.isNone || dst j !=o.dst))) &&
 (rX o).all (λt=>decide (t<N)&&all λj=>dst j !=some t || (if key j==t then(Fn o).contains j else(need j).contains i)) &&
 s.need.all (λk=>any λj=>key j==k&&(Fn o).contains j&&all λm=>m==i || tg m !=some k) &&
 (match s.fc.tg with
  |none=>true
  |some (t,q)=>(any λk=>key k==t&&(Dy S k).fc.bo.isSome&&(Fn o).contains k&&all λm=>m==i || tg m !=some t)&&((any λm=>key m==q&&(Fn o).contains m) || all λm=>key m !=q)) &&
 s.fc.rf.all (λq=>(any λm=>key m==q&&(Fn o).contains m) || all λm=>key m !=q)&&(!s.fc.io || all λm=>(tg m).isNone)
def dH(ops:Array Oper)(S:List Sp)(rd fk:List Nat)(N:Nat):Bool:=
 S.length==ops.size&&decide (N<=4096)&&(List.range ops.size).all (mK ops S N)&&rd.all (λt=>(List.range ops.size).all λi=>(Dy S i).key !=t) &&
 fk.all λk=>(List.range ops.size).any λj=>(Dy S j).key==k&&(List.range ops.size).all λm=>((Dy S m).fc.tg.map (·.1)) !=some k
section
variable {P:Program} {ops:Array Oper} {Q:Exit→Act→Wd→Prop}
theorem XK{A:Act}{d:Nat}{v b:Value}(hd:d<A.tmps.size)(h:A.put (some d) v=A.put (some d) b):v=b:=by
 have c:=congrArg (λa:Act=>a.tmps[d]?) h;grind[Act.put]
theorem XJ{o:Oper}{a A:Act}{w:Wd}{R:Value->Wd->Prop}{K:Act->Wd->Prop}(g:execOp a.eval o=execOp A.eval o)(m:∀d,o.dst=some d->d<A.tmps.size) 
 (l:∀v b,R v b->K (a.put o.dst v) b) (h:Oper.wp P o A w (λa' b=>∃v,a'=A.put o.dst v/\R v b) (λ_ _ _=>False)):Oper.wp P o a w K Q:=by
 have k:∀v b,(∃i,A.put o.dst v=A.put o.dst i/\R i b)->K (a.put o.dst v) b:=by
  rintro v b ⟨i,e,r⟩;cases j:o.dst with
  |none=>have:=l i b r;rw[j]at this;exact this
  |some d=>
   grind[XK]
 unfold Oper.wp at*;rw[g];generalize (execOp A.eval o).run P w=r at*;cases r with
 |ok n b=>
  cases n <;> simp only[Oper.upon]at h ⊢
  case value v=>exact k v b h
  case skip=>exact k _ b h
  case defer d=>
   obtain⟨i,e,_⟩:=h;have p:=congrArg (λa:Act=>a.defers.length) e;cases j:o.dst <;> simp[Act.put,j]at p
  case enter f args=>
   refine Calls.mono h λe w'' g=>?_
   cases e with
   |returned v=>exact k v w'' g
   |panicked c=>exact g.elim
   |outgrown=>obtain⟨_,_,q⟩:=g;exact q.elim
  grind[Rows.mono]
 |halt x b=>cases x <;> simp only[Oper.upon]at h
def DM{b:Wd}{S:List Sp}{G:Wd->Prop}{u:Nat->Value}:∀(os:List Oper) (ss:List Sp) (i:Nat) (o:Oper) (s:Sp),Sy P b S G u os ss->os[i]?=some o->ss[i]?=some s->sJ P b S G u o s
 |[],_,_,_,_,_,h,_=>by simp at h
 |_::_, [],_,_,_,_,_,h=>by simp at h
 |o::os,s::ss,0,o',s',h,h1,h2=>by
  simp only[List.getElem?_cons_zero,Option.some.injEq]at h1 h2;subst h1 h2;exact h.1
 |o::os,s::ss,i+1,o',s',h,h1,h2=>DM os ss i o' s' h.2 (by simpa using h1) (by simpa using h2)
theorem zwL{k:Nat}:∀(S:List Sp) (i:Nat) (s:Sp),S[i]?=some s->s.key=k->(∀j,j≠i->∀s',S[j]?=some s'->s'.key≠k)->Ts S k=s.fc
 |[],_,_,h,_,_=>by simp at h
 |s::l,0,s',h,hk,_=>by
  grind[Ts]
 |s::l,i+1,s',h,hk,hu=>by
  rw[Ts,iN (hu 0 (by omega) s rfl)];exact zwL l i s' (by simpa using h) hk λj hj s'' h'=>hu (j+1) (by omega) s'' (by simpa using h')
def rP{b:Wd}{S:List Sp}{u:Nat->Value}{w:Wd}{G:Prop}:∀(l:List Nat),Ho b S u w G l->(∀k∈l,(Ts S k).sem b u (u k) w)->G
 |[],h,_=>h
 |k::l,h,hl=>rP l (h (hl k (by simp))) λk' h'=>hl k' (by simp[h'])
def rV{b:Wd}{S:List Sp}{u:Nat->Value}{w:Wd}{G a:Prop}:∀(l:List Nat),(G->a)->Ho b S u w G l->Ho b S u w a l
 |[],h,x=>h x
 |_::l,h,x=>λy=>rV l h (x y)
def DO{u:Nat->Value}{l:LV}{G:Prop}:∀(r:List Nat),Sx u l G r->(∀t∈r,u t=l.getD t undef)->G
 |[],h,_=>h
 |k::l',h,hl=>DO l' (h (hl k (by simp))) λk' h'=>hl k' (by simp[h'])
end
def Ke(ops:Array Oper)(i:Nat):Option Nat:=(Dn ops i).dst
def Bu(S:List Sp)(i:Nat):Nat:=(Dy S i).key
def Tb(S:List Sp)(i:Nat):Option Nat:=(Dy S i).fc.tg.map (·.1)
structure aG(ops:Array Oper)(S:List Sp)(N i:Nat):Prop where
 g:(Dn ops i).guard=none
 sel:rY (Dn ops i)=true
 lt:∀e∈Fn (Dn ops i),e<i
 k4:Bu S i<4096
 dk:∀d,Ke ops i=some d->d<N/\(d=Bu S i\/N<=Bu S i)
 nk:Ke ops i=none->N<=Bu S i
 un:∀j,j<ops.size->j≠i->Bu S j≠Bu S i/\(Ke ops i=none\/Ke ops j≠Ke ops i)
 rd:∀t∈rX (Dn ops i),t<N/\∀j,j<ops.size->Ke ops j=some t->(Bu S j=t/\j∈Fn (Dn ops i))\/(Bu S j≠t/\i∈Fn (Dn ops j))
 pr:∀k∈(Dy S i).need,∃j,j<ops.size/\Bu S j=k/\j∈Fn (Dn ops i)/\∀m,m<ops.size->m=i\/Tb S m≠some k
 tg:∀t q,(Dy S i).fc.tg=some (t,q)->(∃k,k<ops.size/\Bu S k=t/\(Dy S k).fc.bo.isSome=true/\k∈Fn (Dn ops i)/\∀m,m<ops.size->m=i\/Tb S m≠some t)/\((∃m,m<ops.size/\Bu S m=q/\m∈Fn (Dn ops i))\/∀m,m<ops.size->Bu S m≠q)
 cp:∀q∈(Dy S i).fc.rf,(∃m,m<ops.size/\Bu S m=q/\m∈Fn (Dn ops i))\/∀m,m<ops.size->Bu S m≠q
 io:(Dy S i).fc.io=true->∀m,m<ops.size->Tb S m=none
def DH{ops:Array Oper}{S:List Sp}{N:Nat}(h:mK ops S N i=true):aG ops S N i:=by
 simp only[mK,Em,List.all_eq_true,List.any_eq_true,List.mem_range,decide_eq_true_eq,Bool.or_eq_true,beq_iff_eq,bne_iff_ne,Option.isNone_iff_eq_none,List.contains_iff_mem,ne_eq]at h;obtain⟨⟨⟨⟨⟨⟨⟨⟨⟨⟨v,w⟩,x⟩,y⟩,f⟩,b⟩,u⟩,z⟩,g⟩,l⟩,n⟩:=h;refine⟨v,w,x,y,λd hd=>?_,λhd=>?_,λj c hne=>?_,λt ht=>⟨(u t ht).1,λj c hd=>?_⟩,λk o=>?_,λt q hq=>?_,λq hq=>l q hq,λhio m hm=>(n.resolve_left (by simp[hio])) m hm⟩;rw[show(Dn ops i).dst=some d from hd]at f;have b:d<N/\(d=(Dy S i).key\/N<=(Dy S i).key):=by simpa using f
 exact b;rw[show(Dn ops i).dst=none from hd]at f;have b:N<=(Dy S i).key:=by simpa using f
 exact b;exact(b j c).resolve_left hne;have a:=((u t ht).2 j c).resolve_left (λh=>h hd);by_cases e:(Dy S j).key=t;rw[iP e]at a;exact .inl ⟨e,by simpa using a⟩;rw[iN e]at a;exact .inr ⟨e,by simpa using a⟩;have⟨j,c,⟨p,r⟩,s⟩:=z k o;exact⟨j,c,p,r,s⟩;rw[hq]at g;simp only[Em,List.all_eq_true,List.any_eq_true,List.mem_range,Bool.or_eq_true,beq_iff_eq,bne_iff_ne,List.contains_iff_mem,ne_eq]at g;obtain⟨⟨k,o,⟨⟨p,r⟩,s⟩,A⟩,B⟩:=g;exact⟨⟨k,o,p,r,s,A⟩,B⟩
structure Pt(ops:Array Oper)(b:Wd)(S:List Sp)(a0:Act)(L:Array Bool)(u:Nat->Value)(a:Act)(w:Wd):Prop where
 len:L.size=ops.size
 u0:∀t,(∀i,L.getD i false=true->Bu S i≠t)->u t=a0.tmps.getD t undef
 df:a.defers=a0.defers
 sz:a.tmps.size=a0.tmps.size
 a1:∀i d,L.getD i false=true->Ke ops i=some d->a.tmps.getD d undef=u (Bu S i)
 a2:∀t,(∀i,L.getD i false=true->Ke ops i≠some t)->a.tmps.getD t undef=a0.tmps.getD t undef
 cl:∀i,L.getD i false=true->∀e∈Fn (Dn ops i),L.getD e false=true
 bl:Below b.heap.size b w
 fc:∀i,L.getD i false=true->(∀m,L.getD m false=true->Tb S m≠some (Bu S i))->(Dy S i).fc.sem b u (u (Bu S i)) w
 bx:∀i,L.getD i false=true->(Dy S i).fc.bo.isSome=true->∃p,Ja (u (Bu S i))=some p/\b.heap.size<=p/\p<w.heap.size
 di:∀i j,i≠j->L.getD i false=true->L.getD j false=true->(Dy S i).fc.bo.isSome=true->(Dy S j).fc.bo.isSome=true->Ja (u (Bu S i))≠Ja (u (Bu S j))
theorem Rk(h:L.getD i false=true):i<L.size:=by
 grind
def lB{j:Nat}(a:i<L.size):(L.setIfInBounds i true).getD j false=true ↔ j=i\/L.getD j false=true:=by
 by_cases e:j=i;subst e;simp[a];simp[Array.getElem?_setIfInBounds_ne (Ne.symm e),e]
theorem cC{a:Act}{d t:Nat}:(a.put (some d) v).tmps.getD t undef=if d=t/\d<a.tmps.size then v else a.tmps.getD t undef:=by
 by_cases e:d=t;all_goals simp_all[Act.put,Array.getElem?_setIfInBounds_ne]
def lA{o:Obj}(h:w.heap[p]?=some o):p<w.heap.size:=(Array.getElem?_eq_some_iff.1 h).1
section
variable {P:Program} {ops:Array Oper} {Q:Exit→Act→Wd→Prop} {b:Wd} {S:List Sp} {a0:Act} {N:Nat} {G:Wd→Prop} {L:Array Bool} {u:Nat→Value} {a:Act} {w:Wd}
theorem DG{i:Nat}{v:Value}{w':Wd}(g:Bw b w)(A:Pt ops b S a0 L u a w)(B:aG ops S N i)(C:∀e∈Fn (Dn ops i),L.getD e false=true)(h:(Dy S i).fc.post u v w w'):Bw b w'/\w.heap.size<=w'.heap.size/\((Dy S i).fc.tg=none->Bw w w')/\(∀t q,(Dy S i).fc.tg=some (t,q)->∃p,u t=Ua p 0/\b.heap.size<=p/\Below p w w'/\∀q,q≠p->w'.heap[q]?=w.heap[q]?):=by
 have c:Bw w w'->Bw b w':=λh=>g.trans (h.mono g.size);cases d:(Dy S i).fc with
 |kn x=>rw[d]at h;exact⟨c h.1,h.1.size,λ_=>h.1,λ_ _ h=>by cases h⟩
 |pu x=>rw[d]at h;exact⟨c h.1,h.1.size,λ_=>h.1,λ_ _ h=>by cases h⟩
 |ow x y=>rw[d]at h;exact⟨c h.1,h.1.size,λ_=>h.1,λ_ _ h=>by cases h⟩
 |cp x=>rw[d]at h;exact⟨c h.1,h.1.size,λ_=>h.1,λ_ _ h=>by cases h⟩
 |ag x=>rw[d]at h;exact⟨c h.1,h.1.size,λ_=>h.1,λ_ _ h=>by cases h⟩
 |bx x=>rw[d]at h;exact⟨c h.1,h.1.size,λ_=>h.1,λ_ _ h=>by cases h⟩
 |bs n m x=>rw[d]at h;exact⟨c h.1,h.1.size,λ_=>h.1,λ_ _ h=>by cases h⟩
 |st t s f=>
  rw[d]at h;obtain⟨p,o,l,⟨j,D⟩,_⟩:=h;have⟨⟨k,K,E,F,G,_⟩,_⟩:=B.tg t s (by rw[d];rfl);have⟨H,r,z,_⟩:=A.bx k (C k G) F;rw[E,l]at r;obtain rfl:p=H:=by grind[Ja]
  refine⟨g.trans (j.mono z),j.size,(λh=>by cases h),λt' q' h=>?_⟩;cases h<;>simp_all
theorem XL{i j:Nat}{v:Value}{w':Wd}(q:∀i,i<ops.size->aG ops S N i)(hS:S.length=ops.size)(V:Pt ops b S a0 L u a w)(P:i<ops.size)(hn:∀e∈Fn (Dn ops i),L.getD e false=true)(M:L.getD i false=false)(W:L.getD j false=true) 
 (hl:∀m,m=i\/L.getD m false=true->Tb S m≠some (Bu S j)) (h:(Dy S i).fc.post u v w w'):
 (Dy S j).fc.sem b (λt=>if t=Bu S i then v else u t) (u (Bu S j)) w':=by
 have ok:=q i P;have r:j<ops.size:=V.len ▸ Rk W;have a1:j≠i:=λe=>by simp_all
 have⟨a6,a7,hg,a2⟩:=DG V.bl V ok hn h;have c:=V.fc j W λm A=>hl m (.inr A);have l:∀e∈Fn (Dn ops j),L.getD e false=true:=V.cl j W;have Q:∀m,m<ops.size->L.getD m false=true->Bu S m≠Bu S i:=λm A z=>(ok.un m A λe=>by simp_all).1;cases E:(Dy S i).fc.tg with
 |none=>
  have hB:=hg E;cases d:(Dy S j).fc with
  |kn x=>rw[d]at c;exact c
  |pu x=>rw[d]at c;exact c
  |ow x y=>rw[d]at c;exact y _ _ _ c hB
  |cp x=>
   rw[d]at c;have R:x≠Bu S i:=by
    rcases(q j r).cp x (by grind[Fc.rf]) with⟨m,A,F,G⟩|B
    . grind
    exact λe=>B i P e.symm
   show u (Bu S j)=(if x=Bu S i then v else u x)
   rw[iN R];exact c
  |ag x=>
   rw[d]at c;have R:∀y∈x,y≠Bu S i:=λy hy=>by
    rcases(q j r).cp y (by rw[d];exact hy) with⟨m,A,F,G⟩|B
    all_goals grind
   show u (Bu S j)=.agg (x.map λt=>if t=Bu S i then v else u t).toArray
   rw[List.map_congr_left (g:=u) λy hy=>iN (R y hy)];exact c
  |bx o=>
   rw[d]at c;obtain⟨p,z,H,D⟩:=c;exact⟨p,z,H,(hB.block p (lA D)).trans D⟩
  |bs n m o=>
   rw[d]at c;obtain⟨p,z,H,D⟩:=c;exact⟨p,z,H,(hB.block p (lA D)).trans D⟩
  |st t s f=>
   rw[d]at c;obtain⟨p,o,z,H,D,h4⟩:=c;have⟨⟨k,Y,Z,e2,e3,_⟩,B⟩:=(q j r).tg t s (by rw[d];rfl);have ht:t≠Bu S i:=Z ▸ Q k Y (l k e3);have T:s≠Bu S i:=by
    rcases B with⟨m,A,F,G⟩|B
    . grind
    exact λe=>B i P e.symm
   refine⟨p,o,?_,H,(hB.block p (lA D)).trans D,?_⟩
   all_goals grind
 |some tq=>
  obtain⟨t0,q0⟩:=tq;have⟨p0,g1,g2,g3,g4⟩:=a2 t0 q0 E;have⟨⟨X,a8,c1,c2,c3,c4⟩,_⟩:=ok.tg t0 q0 E;have a3:=hn X c3;have C:∀k p,L.getD k false=true->k≠X->(Dy S k).fc.bo.isSome=true->Ja (u (Bu S k))=some p->p≠p0:=λk p Y hne K hp e=>by
   subst e;exact V.di k X hne Y a3 K c2 (by rw[hp,c1,g1];rfl)
  cases d:(Dy S j).fc with
  |kn x=>rw[d]at c;exact c
  |pu x=>rw[d]at c;exact c
  |ow x y=>exact aB ((q j r).io (by rw[d];rfl) i P) (by rw[Tb,E];simp)
  |cp x=>
   rw[d]at c;have R:x≠Bu S i:=by
    rcases(q j r).cp x (by grind[Fc.rf]) with⟨m,A,F,G⟩|B
    . grind
    exact λe=>B i P e.symm
   show u (Bu S j)=(if x=Bu S i then v else u x)
   rw[iN R];exact c
  |ag x=>
   rw[d]at c;have R:∀y∈x,y≠Bu S i:=λy hy=>by
    rcases(q j r).cp y (by rw[d];exact hy) with⟨m,A,F,G⟩|B
    all_goals grind
   show u (Bu S j)=.agg (x.map λt=>if t=Bu S i then v else u t).toArray
   rw[List.map_congr_left (g:=u) λy hy=>iN (R y hy)];exact c
  |bx o=>
   have U:j≠X:=λe=>by
    grind[Tb]
   have K:(Dy S j).fc.bo.isSome=true:=by rw[d];rfl
   rw[d]at c;obtain⟨p,z,H,D⟩:=c;exact⟨p,z,H,(g4 p (C j p W U K (by rw[z];rfl))).trans D⟩
  |bs n m o=>
   have U:j≠X:=λe=>by
    grind[Tb]
   have K:(Dy S j).fc.bo.isSome=true:=by rw[d];rfl
   rw[d]at c;obtain⟨p,z,H,D⟩:=c;exact⟨p,z,H,(g4 p (C j p W U K (by rw[z];rfl))).trans D⟩
  |st t s f=>
   rw[d]at c;obtain⟨p,o,z,H,D,h4⟩:=c;have⟨⟨k,Y,Z,e2,e3,_⟩,B⟩:=(q j r).tg t s (by rw[d];rfl);have ht:t≠Bu S i:=Z ▸ Q k Y (l k e3);have T:s≠Bu S i:=by
    rcases B with⟨m,A,F,G⟩|B
    . grind
    exact λe=>B i P e.symm
   have a4:t≠t0:=λe=>(c4 j r).elim a1 λh=>h (by grind[Tb])
   have a5:k≠X:=λe=>a4 (by rw[<-Z,<-c1,e])
   have hp:p≠p0:=C k p (l k e3) a5 e2 (by rw[Z,z];rfl);refine⟨p,o,?_,H,(g4 p hp).trans D,?_⟩
   all_goals grind
def Tr{i:Nat}{o:Oper}(h:ops[i]?=some o):Dn ops i=o:=by rw[Dn,h];rfl
theorem WW{i:Nat}{v:Value}{w':Wd}(T:∀i,i<ops.size->aG ops S N i)(hN:a0.tmps.size=N)(hS:S.length=ops.size)(l:Pt ops b S a0 L u a w)(P:i<ops.size)(E:∀e∈Fn (Dn ops i),L.getD e false=true)(F:L.getD i false=false) 
 (h:(Dy S i).fc.post u v w w'):Pt ops b S a0 (L.setIfInBounds i true) (λt=>if t=Bu S i then v else u t) (a.put (Ke ops i) v) w':=by
 have z:=T i P;have X:i<L.size:=l.len ▸ P;have r:=λj=>lB (L:=L) (j:=j) X;have lt:∀{j},L.getD j false=true->j<ops.size:=λh=>l.len ▸ Rk h;have Q:∀{j},L.getD j false=true->j≠i:=λhL e=>by simp_all
 have⟨Y,a4,hg,Z⟩:=DG l.bl l z E h;have G:∀{j},L.getD j false=true->(if Bu S j=Bu S i then v else u (Bu S j))=u (Bu S j):=λh=>iN (z.un _ (lt h) (Q h)).1;refine⟨by simp[l.len],λt H=>?_,?_,?_,λj d c hd=>?_,λt H=>?_,λj c e he=>?_,Y,λj c hl=>?_,λj c hb=>?_,λj k hjk c R hb hc=>?_⟩;rw[iN λe=>H i ((r i).2 (.inl rfl)) e.symm];exact l.u0 t λj c=>H j ((r j).2 (.inr c));cases Ke ops i <;> exact l.df;cases Ke ops i <;> simp[Act.put,l.sz];rcases(r j).1 c with rfl|c;rw[hd,cC,iP ⟨rfl,by rw[l.sz,hN];exact(z.dk d hd).1⟩,iP rfl];rw[G c];cases C:Ke ops i with
 |none=>exact l.a1 j d c hd
 |some d'=>
  have:d'≠d:=λe=>((z.un j (lt c) (Q c)).2.resolve_left (by rw[C];simp)) (by rw[hd,C,e])
  rw[cC,iN λh=>this h.1];exact l.a1 j d c hd
 have B:=l.a2 t λj c=>H j ((r j).2 (.inr c));cases C:Ke ops i with
 |none=>exact B
 |some d'=>
  grind[cC]
 rcases(r j).1 c with rfl|c;exact(r e).2 (.inr (E e he));exact(r e).2 (.inr (l.cl j c e he));rcases(r j).1 c with rfl|c;rw[iP rfl];cases q:(Dy S j).fc with
 |kn x=>rw[q]at h;exact h.2
 |pu x=>rw[q]at h;exact h.2
 |ow x y=>rw[q]at h;exact h.2
 |cp x=>
  rw[q]at h;have hx:x≠Bu S j:=by
   rcases z.cp x (by grind[Fc.rf]) with⟨m,K,U,V⟩|M
   . exact U ▸ (z.un m K (Q (E m V))).1
   exact λe=>M j P e.symm
  show v=(if x=Bu S j then v else u x)
  rw[iN hx];exact h.2
 |ag x=>
  rw[q]at h;have hx:∀y∈x,y≠Bu S j:=λy hy=>by
   rcases z.cp y (by rw[q];exact hy) with⟨m,K,U,V⟩|M
   . exact U ▸ (z.un m K (Q (E m V))).1
   grind
  show v=.agg (x.map λt=>if t=Bu S j then v else u t).toArray
  rw[List.map_congr_left (g:=u) λy hy=>iN (hx y hy)];exact h.2
 |bx x=>rw[q]at h;exact⟨_,h.2.1,l.bl.size,h.2.2⟩
 |bs n m x=>rw[q]at h;exact⟨_,h.2.1,l.bl.size,h.2.2⟩
 |st t s f=>
  rw[q]at h;obtain⟨p,o,B,_,h3,h4⟩:=h;have⟨p',g1,g2,_⟩:=Z t s (by rw[q];rfl);rw[B]at g1;cases g1;have⟨⟨k,R,e1,e2,e3,_⟩,M⟩:=z.tg t s (by rw[q];rfl);have H:t≠Bu S j:=e1 ▸ (z.un k R (Q (E k e3))).1;refine⟨p,o,?_,g2,h3,?_⟩
  all_goals grind
 rw[G c];exact XL T hS l P E F c (λm K=>hl m ((r m).2 K)) h;rcases(r j).1 c with rfl|c
 . rw[iP rfl];cases q:(Dy S j).fc <;> rw[q]at hb h <;> first|cases hb|skip
   all_goals exact⟨_,by rw[h.2.1];rfl,l.bl.size,lA h.2.2⟩
 rw[G c];have⟨p,B,h2,h3⟩:=l.bx j c hb;exact⟨p,B,h2,by omega⟩;have W:∀k,L.getD k false=true->(Dy S k).fc.bo.isSome=true->(Dy S i).fc.bo.isSome=true->Ja v≠Ja (u (Bu S k)):=λk R hb hc e=>by
  cases q:(Dy S i).fc <;> rw[q]at hc h <;> first|cases hc|skip
  all_goals
   have⟨p,B,_,h3⟩:=l.bx k R hb;rw[<-e,h.2.1]at B;grind[Ja]
 rcases(r j).1 c with rfl|D;rcases(r k).1 R with rfl|A;exact aB rfl hjk;rw[iP rfl,G A];exact W k A hc hb;rcases(r k).1 R with rfl|A;rw[iP rfl,G D];exact λe=>W j D hb hc e.symm;rw[G D,G A];exact l.di j k hjk D A hb hc
def DN(u:Nat->Value):∀(os:List Oper) (ss:List Sp) (a:Act),os.length=ss.length->(Gn u os ss a).defers=a.defers/\(Gn u os ss a).tmps.size=a.tmps.size/\
 (∀t,(∀(j:Nat) (o:Oper),os[j]?=some o->o.dst≠some t)->(Gn u os ss a).tmps.getD t undef=a.tmps.getD t undef)/\
 (∀(j d:Nat) (o:Oper) (s:Sp),os[j]?=some o->ss[j]?=some s->o.dst=some d->(∀(j':Nat) (o':Oper),j'≠j->os[j']?=some o'->o'.dst≠some d)->d<a.tmps.size->(Gn u os ss a).tmps.getD d undef=u s.key)
 |[], [],a,_=>⟨rfl,rfl,λ_ _=>rfl,λj d o s h=>by simp at h⟩
 |o::os,s::ss,a,hl=>by
  have⟨f,g,e,i⟩:=DN u os ss (a.put o.dst (u s.key)) (by simpa using hl);have b:(a.put o.dst (u s.key)).tmps.size=a.tmps.size:=by cases o.dst <;> simp[Act.put]
  refine⟨f.trans (by cases o.dst <;> rfl),g.trans b,λt ht=>?_,λj d o' s' ho hs c hu hdn=>?_⟩
  . rw[Gn,e t λj o' h=>ht (j+1) o' (by simpa using h)];cases c:o.dst with
    |none=>rfl
    |some d=>rw[cC,iN λh=>ht 0 o rfl (by rw[c,h.1])]
  cases j with
  |zero=>
   cases ho;cases hs;rw[Gn,e d λj o' h=>hu (j+1) o' (by omega) (by simpa using h),c,cC,iP ⟨rfl,hdn⟩]
  |succ j=>exact i j d o' s' (by simpa using ho) (by simpa using hs) c (λj' o'' hj h=>hu (j'+1) o'' (by omega) (by simpa using h)) (by rw[b];exact hdn)
theorem XN{a b:Act}(c:a.defers=b.defers)(e:a.tmps.size=b.tmps.size)(f:∀t,a.tmps.getD t undef=b.tmps.getD t undef):a=b:=by
 obtain⟨x,d⟩:=a;congr;refine Array.ext e λi hi hi'=>?_;have:=f i;simp_all
def XG(p:∀i,i<ops.size->aG ops S N i)(hN:a0.tmps.size=N)(a3:N<=4096)(hS:S.length=ops.size)(hG:∀w',Bw b w'->G w') 
 (rd fk:List Nat) (b1:∀t∈rd,∀i,i<ops.size->Bu S i≠t) (b2:∀k∈fk,∃j,j<ops.size/\Bu S j=k/\∀m,m<ops.size->Tb S m≠some k)
 (H:∀u,Sx u a0.tmps.toList (Sy P b S G u ops.toList S) rd) (F:∀u w,Bw b w->Ho b S u w (Q .normal (Gn u ops.toList S a0) w) fk):
 ∀(n:Nat) (L:Array Bool) (u:Nat->Value) (a:Act) (w:Wd),L.toList.count false<=n->Pt ops b S a0 L u a w->wpAny P .any ops Q n L a w:=by
 have W:∀j,j<ops.size->∀k,Bu S j=k->Ts S k=(Dy S j).fc:=λj r k hk=>by
  have s:S[j]?=some S[j]:=Cz (by omega);have y:Dy S j=S[j]:=by rw[Dy,s];rfl
  rw[zwL S j S[j] s (by rw[<-y];exact hk) λj' C s' hs'=>?_,y];have D:j' < ops.size:=hS ▸ (List.getElem?_eq_some_iff.1 hs').1;have:=((p j r).un j' D C).1;rw[hk]at this;intro e;exact this (by rw[Bu,Dy,hs'];exact e)
 have a4:∀(L:Array Bool) (u:Nat->Value) (a:Act) (w:Wd),Pt ops b S a0 L u a w->Region.ready .any ops L= []->Q .normal a w:=λL u a w c U=>by
  have hl:∀i,i<ops.size->L.getD i false=true:=by
   intro i;induction i using Nat.strongRecOn with
   |_ i ih=>
    intro B;cases hc:L.getD i false
    . exfalso
      have s:i∈Region.ready .any ops L:=by
       rw[mem_ready];have E:i<L.size:=c.len ▸ B;refine⟨by simpa[E] using hc,ops[i],Array.getElem?_eq_getElem B,λe he hb=>?_⟩;have K:e.on∈Fn (Dn ops i):=by
        rw[Tr (Array.getElem?_eq_getElem B)];exact List.mem_map.2 ⟨e,List.mem_filter.2 ⟨by simpa using he,hb⟩,rfl⟩
       have b3:=(p i B).lt _ K;exact ih _ b3 (by omega)
      rw[U]at s;cases s
    rfl
  have hf:=rP fk (F u w c.bl) λk hk=>by
   have⟨j,r,R,X⟩:=b2 k hk;rw[W j r k R,<-R];exact c.fc j (hl j r) λm K=>R ▸ X m (c.len ▸ Rk K)
  have⟨f1,f2,f3,f4⟩:=DN u ops.toList S a0 (by simp[hS]);have:Gn u ops.toList S a0=a:=by
   refine XN (f1.trans c.df.symm) (f2.trans c.sz.symm) λt=>?_;by_cases e:∃j,j<ops.size/\Ke ops j=some t;obtain⟨j,r,q⟩:=e;have Z:ops[j]?=some ops[j]:=Array.getElem?_eq_getElem r;have hs:S[j]?=some S[j]:=Cz (by omega);have T:ops[j].dst=some t:=by rw[<-Tr Z];exact q
   rw[f4 j t ops[j] S[j] (by simp) hs T (λj' o' hne h Y=>?_) (hN ▸ ((p j r).dk t q).1),c.a1 j t (hl j r) q];rw[Bu,Dy,hs];rfl;have C:j' < ops.size:=by simpa using(List.getElem?_eq_some_iff.1 h).1
   have s:Ke ops j'=some t:=by rw[Ke,Tr (by simpa using h)];exact Y
   exact((p j r).un j' C hne).2.elim (by rw[q];simp) λh=>h (by rw[s,q]);rw[f3 t λj o h Y=>e ⟨j,by simpa using(List.getElem?_eq_some_iff.1 h).1,by rw[Ke,Tr (by simpa using h)];exact Y⟩];exact(c.a2 t λi B h=>e ⟨i,c.len ▸ Rk B,h⟩).symm
  rw[this]at hf;exact hf
 intro n;induction n with
 |zero=>
  intro L u a w hc c;have U:Region.ready .any ops L= []:=by
   cases U:Region.ready .any ops L with
   |nil=>rfl
   |cons i l=>
    exfalso
    have s:i∈Region.ready .any ops L:=by rw[U];simp
    have y:=(mem_ready.1 s).1;have V:i<L.size:=by
     rcases Nat.lt_or_ge i L.size with Y|Y
     . exact Y
     simp[Array.getElem?_eq_none Y]at y
    have h4:false∈L.toList:=by
     have:L[i]=false:=by simpa[V] using y
     rw[<-this];simp
    have:=List.count_pos_iff.2 h4;omega
  exact⟨U,a4 L u a w c U⟩
 |succ n ih=>
  intro L u a w hc c;refine⟨a4 L u a w c,λi U=>?_⟩;have⟨a5,o,Z,a6⟩:=mem_ready.1 U;have B:i<ops.size:=(Array.getElem?_eq_some_iff.1 Z).1;have E:i<L.size:=c.len ▸ B;have z:L.getD i false=false:=by simpa[E] using a5
  have A:=Tr Z;have ok:=p i B;have hn:∀e∈Fn (Dn ops i),L.getD e false=true:=λe he=>by
   rw[A]at he;obtain⟨e',s,rfl⟩:=List.mem_map.1 he;have⟨y,V⟩:=List.mem_filter.1 s;exact a6 e' (by simpa using y) V
  have b4:(L.setIfInBounds i true).toList.count false<=n:=by
   have s:L[i]=false:=by simpa[E] using z
   have y:(L.setIfInBounds i true).toList.count false+1=L.toList.count false:=by
    rw[Array.toList_setIfInBounds,List.count_set (by simpa using E)];have V:0<L.toList.count false:=List.count_pos_iff.2 (by rw[<-s];simp);simp[s]
    have h4:=Array.count_toList (xs:=L) (a:=false);omega
   omega
  have b5:=(DO rd (H u) λt ht=>by
   rw[c.u0 t λi B=>b1 t ht i (c.len ▸ Rk B)];simp[Array.getD_eq_getD_getElem?])
  have hs:S[i]?=some S[i]:=Cz (by omega);have a7:Dy S i=S[i]:=by rw[Dy,hs];rfl
  have⟨M,hM⟩:=aT 4096;have ev:∀t,(⟨Array.ofFn (n:=M) λj=>u j,a0.defers⟩:Act).eval (.tmp t)=u t:=λt=>by
   by_cases h:t<M
   . simp[Act.eval,h]
   have s:u t=a0.tmps.getD t undef:=c.u0 t λj r e=>by
    have V:=(p j (c.len ▸ Rk r)).k4;rw[e,<-hM]at V;exact h V
   have y:a0.tmps.size<=t:=Bf (by rw[hN,hM];exact a3) (Nat.le_of_not_lt h);rw[s];simp[Act.eval,h,Array.getElem?_eq_none y]
  have h0:=rP _ (DM ops.toList S i o S[i] b5 (by simpa using Z) hs _ w ev c.bl (hG w c.bl)) λk hk=>by
   rw[<-a7]at hk;have⟨j,r,R,X,e3⟩:=ok.pr k hk;rw[W j r k R,<-R];exact c.fc j (hn j X) λm K e=>by
    rcases e3 m (c.len ▸ Rk K) with rfl|h
    . rw[K]at z;cases z
    exact h (by rw[<-R];exact e)
  have s:=h0 (λa' w'=>∃v,a'=(⟨Array.ofFn (n:=M) λj=>u j,a0.defers⟩:Act).put o.dst v/\S[i].fc.post u v w w') (I λv w' h=>⟨v,rfl,h⟩);unfold wpOp
  rw[Z];have hg:o.guard=none:=by rw[<-A];exact ok.g
  simp only[Region.wanted,hg,if_true];refine .inl (XJ (execOp_congr o (λcs bl h=>?_) λx hx=>?_) (λd q=>?_) (λv w' h=>?_) s)
  . have:=ok.sel;rw[A,rY,h]at this;cases this
  . cases x with
    |tmp t=>
     rw[ev];show a.tmps.getD t undef=u t
     have ht:t∈rX (Dn ops i):=by
      rw[A];exact List.mem_filterMap.2 ⟨.tmp t,by simpa using hx,rfl⟩
     have⟨b6,U⟩:=ok.rd t ht;have a8:(∀j,j<ops.size->Ke ops j=some t->Bu S j≠t)->u t=a0.tmps.getD t undef:=λh=>c.u0 t λj r e=>by
      have D:=c.len ▸ Rk r;cases q:Ke ops j with
      |none=>have:=(p j D).nk q;omega
      |some d=>
       rcases((p j D).dk d q).2 with s|s
       . exact h j D (by rw[q,s,e]) e
       omega
     by_cases e:∃j,j<ops.size/\Ke ops j=some t
     . obtain⟨j,r,q⟩:=e;rcases U j r q with⟨R,X⟩|⟨R,X⟩
       . rw[c.a1 j t (hn j X) q,R]
       rw[a8 λj' C T=>by
        by_cases a9:j'=j
        . subst a9;exact R
        exact aB (by rw[T,q]) (((p j r).un j' C a9).2.resolve_left (by rw[q];simp))]
       refine c.a2 t λm K T=>?_
       by_cases b0:m=j
       . subst b0;have:=c.cl m K i X;rw[this]at z;cases z
       exact(((p j r).un m (c.len ▸ Rk K) b0).2.resolve_left (by rw[q];simp)) (by rw[T,q])
     rw[a8 λj r q=>aB ⟨j,r,q⟩ e];exact c.a2 t λm K q=>e ⟨m,c.len ▸ Rk K,q⟩
    |const v=>rfl
    |global g=>rfl
    |func f=>rfl
  . have V:=((ok.dk d (by rw[Ke,A];exact q)).1);rw[Array.size_ofFn,hM];exact As V a3
  have y:=WW p hN hS c B hn z (by rw[a7];exact h);rw[Ke,A]at y;exact ih _ _ _ _ b4 y
def Uz(P:Program)(ops:Array Oper)(Q:Exit->Act->Wd->Prop):Exit->Act->Wd->Prop
 | .normal,a,w=>wpOp P ops Q (ops.size-1) (Q .normal) a w
 |e,a,w=>Q e a w
def Sv:Oper->List Oper->Oper
 |o, []=>o
 |_,o::l=>Sv o l
def dG(ops:Array Oper):Bool:=
 decide (0<ops.size)&&(Dn ops (ops.size-1)).guard.isNone&&(Fn (Dn ops (ops.size-1))).all (λe=>decide (e<ops.size-1))&&(List.range (ops.size-1)).all λj=>(Fn (Dn ops (ops.size-1))).contains j || (List.range (ops.size-1)).any λk=>decide (j<k)&&(Fn (Dn ops k)).contains j
theorem rS{i:Nat}(a:i<ops.size-1):ops.pop[i]?=ops[i]?:=by
 simp_all
theorem fD{L:Array Bool}{k:Nat}:(L.push false).getD k false=L.getD k false:=by
 simp[Array.getElem?_push];grind
theorem WY{L:Array Bool}{k:Nat}(h:k<L.size):(L.push false).getD k true=L.getD k true:=by
 simp[Array.getElem?_push,h];grind
theorem DB{L:Array Bool}{i:Nat}(b:L.size=ops.size-1)(a:i<ops.size-1):i∈Region.ready .any ops (L.push false) ↔ i∈Region.ready .any ops.pop L:=by
 grind[mem_ready,fD]
theorem XH{L:Array Bool}(h:L.size=ops.size)(b:∀i,i<ops.size->∀e∈Fn (Dn ops i),e<i)(j:Nat)(k:j<ops.size)(f:L.getD j false=false):Region.ready .any ops L≠ []:=by
 intro l;have c:∀i,i<ops.size->L.getD i false=true:=by
  intro i;induction i using Nat.strongRecOn with
  |_ i ih=>
   intro a;cases m:L.getD i false
   . have g:i∈Region.ready .any ops L:=by
      rw[mem_ready];have d:i<L.size:=h ▸ a;refine⟨by simp_all,ops[i],Array.getElem?_eq_getElem a,λe he hb=>?_⟩;have n:e.on∈Fn (Dn ops i):=by
       rw[Tr (Array.getElem?_eq_getElem a)];exact List.mem_map.2 ⟨e,List.mem_filter.2 ⟨by simpa using he,hb⟩,rfl⟩
      have:=b i a _ n;exact ih _ this (by omega)
     simp_all
   rfl
 simp_all
def XF{i:Nat}{K:Act->Wd->Prop}(e:i<ops.size-1)(f:(Dn ops i).guard=none)(h:wpOp P ops.pop (Uz P ops Q) i K a w):wpOp P ops Q i K a w:=by
 have b:ops[i]?=some ops[i]:=Array.getElem?_eq_getElem (by omega);have c:ops[i].guard=none:=by rw[<-Tr b];exact f
 unfold wpOp at*;rw[rS e,b]at h;rw[b];simp only[Region.wanted,c,if_true]at h ⊢;rcases h with h|⟨g,j,d,k⟩;refine .inl ?_;unfold Oper.wp at*;generalize (execOp a.eval ops[i]).run P w=r at*;cases r with
 |ok n d=>
  cases n <;> simp only[Oper.upon]at h ⊢ <;> first|exact h|skip
 |halt x d=>cases x <;> simp only[Oper.upon]at h ⊢ <;> exact h
 exact .inr ⟨g,j,d,k⟩
theorem XI(B:∀i,i<ops.size->∀e∈Fn (Dn ops i),e<i)(C:∀i,i<ops.size-1->(Dn ops i).guard=none)(X:0<ops.size)(D:∀j,j<ops.size-1->j∈Fn (Dn ops (ops.size-1))\/∃k,k<ops.size-1/\j<k/\j∈Fn (Dn ops k)):
 ∀(n:Nat) (L:Array Bool) (a:Act) (w:Wd),L.size=ops.size-1->(∀i,L.getD i false=true->∀e∈Fn (Dn ops i),L.getD e false=true)->wpAny P .any ops.pop (Uz P ops Q) n L a w->wpAny P .any ops Q (n+1) (L.push false) a w:=by
 have x:∀(n:Nat) (L:Array Bool) (a:Act) (w:Wd),L.size=ops.size-1->(∀i,L.getD i false=true->∀e∈Fn (Dn ops i),L.getD e false=true)->(ops.size-1)∈Region.ready .any ops (L.push false)->(Region.ready .any ops.pop L= []->Uz P ops Q .normal a w)->wpOp P ops Q (ops.size-1) (wpAny P .any ops Q n ((L.push false).setIfInBounds (ops.size-1) true)) a w:=λn L a w m g hr hq=>by
  have⟨_,o,R,y⟩:=mem_ready.1 hr;have A:∀d j,ops.size-1-j<=d->j<ops.size-1->L.getD j false=true:=by
   intro d;induction d with
   |zero=>omega
   |succ d ih=>
    intro j Y r;rcases D j r with f|⟨k,S,Z,T⟩
    . rw[Tr R]at f;obtain⟨e,c,rfl⟩:=List.mem_map.1 f;grind[fD]
    grind
  replace A:∀j,j<ops.size-1->L.getD j false=true:=λj r=>A _ j (Bv _) r;have U:Region.ready .any ops.pop L= []:=by
   cases t:Region.ready .any ops.pop L with
   |nil=>rfl
   |cons i l=>
    have f:i∈Region.ready .any ops.pop L:=by rw[t];simp
    grind[mem_ready]
  refine wpOp_mono (λa' w' h=>wpAny_done ?_ h n) (hq U);cases t:Region.ready .any ops ((L.push false).setIfInBounds (ops.size-1) true) with
  |nil=>rfl
  |cons i l=>
   have f:i∈Region.ready .any ops ((L.push false).setIfInBounds (ops.size-1) true):=by rw[t];simp
   have⟨c,E,p,_⟩:=mem_ready.1 f;have s:i<ops.size:=(Array.getElem?_eq_some_iff.1 p).1;have u:((L.push false).setIfInBounds (ops.size-1) true).getD i false=true:=by
    rw[lB (by simp;omega)];by_cases e:i=ops.size-1
    . exact .inl e
    exact .inr (by grind[fD])
   grind
 have z:∀L:Array Bool,L.size=ops.size-1->Region.ready .any ops (L.push false)≠ []:=λL m=>XH (by simp;omega) B (ops.size-1) (by omega) (by rw[fD];simp[m]);have q:∀(L:Array Bool) (i:Nat),i∈Region.ready .any ops (L.push false)->i=ops.size-1\/i<ops.size-1:=λL i hi=>by
  grind[mem_ready]
 intro n;induction n with
 |zero=>
  intro L a w m g h;refine⟨λf=>aB f (z L m),λi hi=>?_⟩;rcases q L i hi with rfl|b
  . exact x 0 L a w m g hi λ_=>h.2
  have f:=(DB m b).1 hi;rw[h.1]at f;cases f
 |succ n ih=>
  intro L a w m g h;refine⟨λf=>aB f (z L m),λi hi=>?_⟩;rcases q L i hi with rfl|b
  . exact x (n+1) L a w m g hi h.1
  refine wpOp_mono (λa' w' h'=>?_) (XF b (C i b) (h.2 i ((DB m b).1 hi)));have G:i<L.size:=by omega
  have c:=ih (L.setIfInBounds i true) a' w' (by simpa using m) (λj r e he=>by
   rw[lB G]at r ⊢;rcases r with rfl|r
   . have⟨_,E,H,v⟩:=mem_ready.1 hi;rw[Tr H]at he;obtain⟨V,c,rfl⟩:=List.mem_map.1 he;grind[fD]
   grind) h'
  have p:(L.push false).setIfInBounds i true=(L.setIfInBounds i true).push false:=by
   apply Array.ext
   . simp
   intro k K W;have M:i<L.size:=by omega
   by_cases e:i=k
   . subst e;grind
   rw[Array.getElem_setIfInBounds_ne (by simpa using K) e,Array.getElem_push,Array.getElem_push];by_cases N:k<L.size
   . grind
   simp[N]
  rw[p];exact c
def DE:∀(l:List Oper) (o:Oper),Sv o l=((o::l)[l.length]?).getD default
 |[],o=>rfl
 |p::l,o=>by rw[Sv,DE l p];simp
structure fM(ops:Array Oper):Prop where
 pos:0<ops.size
 g:(Dn ops (ops.size-1)).guard=none
 lt:∀e∈Fn (Dn ops (ops.size-1)),e<ops.size-1
 al:∀j,j<ops.size-1->j∈Fn (Dn ops (ops.size-1))\/∃k,k<ops.size-1/\j<k/\j∈Fn (Dn ops k)
def rQ(h:dG ops=true):fM ops:=by
 simp only[dG,Em,List.all_eq_true,List.any_eq_true,List.mem_range,decide_eq_true_eq,Option.isNone_iff_eq_none,List.contains_iff_mem,Bool.or_eq_true]at h;obtain⟨⟨⟨a,b⟩,c⟩,d⟩:=h;exact⟨a,b,c,λj hj=>d j hj⟩
def mM{i:Nat}(a:i<ops.size-1):Dn ops.pop i=Dn ops i:=by rw[Dn,Dn,rS a]
theorem mJ{n:Nat}(i:Nat):(Array.replicate n false).getD i false≠true:=λh=>by
 have a:=Rk h;simp_all
def DL(a:fM ops)(c:∀i,i<ops.pop.size->(∀e∈Fn (Dn ops.pop i),e<i)/\(Dn ops.pop i).guard=none):∀i,i<ops.size->(∀e∈Fn (Dn ops i),e<i)/\(Dn ops i).guard=none:=λi hi=>by
 by_cases b:i<ops.size-1
 . have:=c i (by simpa using b);rwa [mM b]at this
 obtain rfl:i=ops.size-1:=by omega
 exact⟨a.lt,a.g⟩
theorem rU{w:Wd}(a:fM ops)(f:∀i,i<ops.pop.size->(∀e∈Fn (Dn ops.pop i),e<i)/\(Dn ops.pop i).guard=none)(h:wpAny P .any ops.pop (Uz P ops Q) ops.pop.size (Array.replicate ops.pop.size false) a0 w):wpAny P .any ops Q ops.size (Array.replicate ops.size false) a0 w:=by
 have c:=DL a f;have j:=a.pos;have d:=XI (λi hi=>(c i hi).1) (λi hi=>(c i (by omega)).2) a.pos a.al ops.pop.size _ a0 w (by simp) (λi h=>aB h (mJ i)) h;grind
theorem rT{a:Act}{w:Wd}(c:fM ops)(h:Oper.wp P (Sv default ops.toList) a w (Q .normal) Q):Uz P ops Q .normal a w:=by
 have f:=c.pos;have b:ops[ops.size-1]?=some ops[ops.size-1]:=Array.getElem?_eq_getElem (by omega);have d:Sv default ops.toList=ops[ops.size-1]:=by
  rw[DE];have:ops.toList.length=ops.size-1+1:=by simp;omega
  rw[this,List.getElem?_cons_succ];simp[b]
 have e:ops[ops.size-1].guard=none:=by rw[<-Tr b];exact c.g
 show wpOp P ops Q (ops.size-1) (Q .normal) a w;grind[wpOp,Region.wanted]
def rR{w:Wd}(S:List Sp)(b c:List Nat)(f:∀w',Bw w w'->G w') 
 (H:∀u,Sx u a0.tmps.toList (Sy P w S G u ops.toList S) b) (d:dH ops S b c a0.tmps.size=true)
 (F:∀u w',Bw w w'->Ho w S u w' (Q .normal (Gn u ops.toList S a0) w') c):(∀i,i<ops.size->aG ops S a0.tmps.size i)/\wpAny P .any ops Q ops.size (Array.replicate ops.size false) a0 w.drew:=by
 simp only[dH,Em,List.all_eq_true,List.any_eq_true,List.mem_range,decide_eq_true_eq,beq_iff_eq,bne_iff_ne,ne_eq]at d;obtain⟨⟨⟨⟨g,l⟩,e⟩,m⟩,o⟩:=d;have a:=λi=>mJ (n:=ops.size) i;exact⟨λi hi=>DH (e i hi),XG (λi hi=>DH (e i hi)) rfl l g f b c m (λk hk=>by have⟨j,p,q,r⟩:=o k hk;exact⟨j,p,q,r⟩) H F _ _ (λt=>a0.tmps.getD t undef) _ _ (by simp) ⟨by simp,λ_ _=>rfl,rfl,rfl,λi _ h=>aB h (a i),λ_ _=>rfl,λi h=>aB h (a i),(An _ _).drew,λi h=>aB h (a i),λi h=>aB h (a i),λi _ _ h=>aB h (a i)⟩⟩
def Gf{c:Nat}{w:Wd}(S:List Sp)(a b:List Nat)(d:∀w',Bw w w'->G w') 
 (H:∀u,Sx u a0.tmps.toList (Sy P w S G u ops.toList S) a) (e:dH ops S a b a0.tmps.size=true)
 (F:∀u w',Bw w w'->Ho w S u w' (Q .normal (Gn u ops.toList S a0) w') b) (f:P.follows .mixedOrders=true:=by kernel_rfl):(Code.region c ops true).wp P Q a0 w:=
 wp_region_any f (rR S a b d H e F).2
def Wi{f:Nat}{w:Wd}(S:List Sp)(b a:List Nat)(h:∀w',Bw w w'->G w') 
 (H:∀u,Sx u a0.tmps.toList (Sy P w S G u ops.pop.toList S) b) (c:(dG ops&&dH ops.pop S b a a0.tmps.size)=true)
 (F:∀u w',Bw w w'->Ho w S u w' (Oper.wp P (Sv default ops.toList) (Gn u ops.pop.toList S a0) w' (Q .normal) Q) a) (j:P.follows .mixedOrders=true:=by kernel_rfl):(Code.region f ops true).wp P Q a0 w:=by
 simp only[Em]at c;have d:=rQ c.1;have⟨e,k⟩:=rR (Q:=Uz P ops Q) S b a h H c.2 λu w' hb=>rV a (rT d) (F u w' hb);exact wp_region_any j (rU d (λi hi=>⟨(e i hi).lt,(e i hi).g⟩) k)
def lK{l:Nat}{w:Wd}(S:List Sp)(d b:List Nat)(m:∀w',Bw w w'->G w') 
 (H:∀u,Sx u a0.tmps.toList (Sy P w S G u ops.pop.pop.toList S) d) (c:(dG ops&&(dG ops.pop&&dH ops.pop.pop S d b a0.tmps.size))=true)
 (F:∀u w',Bw w w'->Ho w S u w' (Oper.wp P (Sv default ops.pop.toList) (Gn u ops.pop.pop.toList S a0) w' (λa1 w1=>Oper.wp P (Sv default ops.toList) a1 w1 (Q .normal) Q) (Uz P ops Q)) b) (n:P.follows .mixedOrders=true:=by kernel_rfl):(Code.region l ops true).wp P Q a0 w:=by
 simp only[Em]at c;have f:=rQ c.1;have a:=rQ c.2.1;have⟨j,o⟩:=rR (ops:=ops.pop.pop) (Q:=Uz P ops.pop (Uz P ops Q)) S d b m H c.2.2 λu w' hb=>rV b (λh=>rT a (Oper.wp_mono (λ_ _=>rT f) h)) (F u w' hb);have k:∀i,i<ops.pop.pop.size->(∀e∈Fn (Dn ops.pop.pop i),e<i)/\(Dn ops.pop.pop i).guard=none:=λi hi=>⟨(j i hi).lt,(j i hi).g⟩;exact wp_region_any n (rU f (DL a k) (rU a k o))
def Fy{o:Oper}{A:Act}{w:Wd}{v:Value}{K:Act->Wd->Prop}{a:Exit->Act->Wd->Prop}(k:Af (∀v' w',Bw w w'/\v'=v->K (A.put o.dst v') w'))(h:(execOp A.eval o).run P w=.ok (.value v) w):Oper.wp P o A w K a:=by
 unfold Oper.wp;rw[h];exact k.1 v w ⟨An _ _,rfl⟩
def Jm:(∀(o:Oper),Sv o []=o)/\(∀(o p:Oper) (l:List Oper),Sv o (p::l)=Sv p l)/\(∀(l:List Oper),l.toArray.pop=l.dropLast.toArray)/\(∀(o:Oper), [o].dropLast= [])/\(∀(o p:Oper) (l:List Oper),(o::p::l).dropLast=o::(p::l).dropLast):=⟨λ_=>rfl,λ_ _ _=>rfl,λ_=>by simp,λ_=>rfl,λ_ _ _=>rfl⟩
def Hu:(∀(u:Nat->Value) (o:Oper) (k:Nat) (n:List Nat) (f:Fc) (os:List Oper) (ss:List Sp) (a:Act),Gn u (o::os) (⟨k,n,f⟩::ss) a=Gn u os ss (a.put o.dst (u k)))/\(∀(u:Nat->Value) (a:Act),Gn u [] [] a=a):=⟨λ_ _ _ _ _ _ _ _=>rfl,λ_ _=>rfl⟩
end
theorem Df:(∀(u:Nat->Value) (v:Value) (w w':Wd) (x:Value),(Fc.kn x).post u v w w'=(Bw w w'/\v=x))/\(∀(u:Nat->Value) (v:Value) (w w':Wd) (f:Value->Prop),(Fc.pu f).post u v w w'=(Bw w w'/\f v))/\(∀(u:Nat->Value) (v:Value) (w w':Wd) (f:Value->Wd->Prop) (h:∀v w w',f v w->Bw w w'->f v w'),(Fc.ow f h).post u v w w'=(Bw w w'/\f v w'))/\(∀(u:Nat->Value) (v:Value) (w w':Wd) (t:Nat),(Fc.cp t).post u v w w'=(Bw w w'/\v=u t))/\(∀(u:Nat->Value) (v:Value) (w w':Wd) (o:Obj),(Fc.bx o).post u v w w'=(Bw w w'/\v=Ua w.heap.size 0/\w'.heap[w.heap.size]?=some o))/\(∀(u:Nat->Value) (v:Value) (w w':Wd) (n m:Nat) (o:Obj),(Fc.bs n m o).post u v w w'=(Bw w w'/\v=Kx w.heap.size 0 n m/\w'.heap[w.heap.size]?=some o))/\(∀(u:Nat->Value) (v:Value) (w w':Wd) (t s:Nat) (f:Value->Obj->Prop),(Fc.st t s f).post u v w w'=∃p o,u t=Ua p 0/\(Below p w w'/\∀q,q≠p->w'.heap[q]?=w.heap[q]?)/\w'.heap[p]?=some o/\f (u s) o)/\
 (∀(b:Wd) (u:Nat->Value) (v x:Value) (w:Wd),(Fc.kn x).sem b u v w=(v=x))/\(∀(b:Wd) (u:Nat->Value) (v:Value) (w:Wd) (f:Value->Prop),(Fc.pu f).sem b u v w=f v)/\(∀(b:Wd) (u:Nat->Value) (v:Value) (w:Wd) (f:Value->Wd->Prop) (h:∀v w w',f v w->Bw w w'->f v w'),(Fc.ow f h).sem b u v w=f v w)/\(∀(b:Wd) (u:Nat->Value) (v:Value) (w:Wd) (t:Nat),(Fc.cp t).sem b u v w=(v=u t))/\(∀(b:Wd) (u:Nat->Value) (v:Value) (w:Wd) (l:List Nat),(Fc.ag l).sem b u v w=(v=.agg (l.map u).toArray))/\(∀(u:Nat->Value) (v:Value) (w w':Wd) (l:List Nat),(Fc.ag l).post u v w w'=(Bw w w'/\v=.agg (l.map u).toArray))/\(∀(u:Nat->Value) (x:Nat) (l:List Nat),(x::l).map u=u x::l.map u)/\(∀u:Nat->Value, [].map u= [])/\(∀(b:Wd) (u:Nat->Value) (v:Value) (w:Wd) (o:Obj),(Fc.bx o).sem b u v w=∃p,v=Ua p 0/\b.heap.size<=p/\w.heap[p]?=some o)/\(∀(b:Wd) (u:Nat->Value) (v:Value) (w:Wd) (n m:Nat) (o:Obj),(Fc.bs n m o).sem b u v w=∃p,v=Kx p 0 n m/\b.heap.size<=p/\w.heap[p]?=some o)/\(∀(b:Wd) (u:Nat->Value) (v:Value) (w:Wd) (t s:Nat) (f:Value->Obj->Prop),(Fc.st t s f).sem b u v w=∃p o,u t=Ua p 0/\b.heap.size<=p/\w.heap[p]?=some o/\f (u s) o)/\
 (∀(P:Program) (G:Wd->Prop) (b:Wd) (S:List Sp) (u:Nat->Value) (o:Oper) (k:Nat) (n:List Nat) (f:Fc) (os:List Oper) (ss:List Sp),Sy P b S G u (o::os) (⟨k,n,f⟩::ss)=((∀A w,(∀t,A.eval (.tmp t)=u t)/\(∀t,A.tmps.getD t undef=u t)/\(∀t:Nat,A.tmps[t]?.getD undef=u t)->Bw b w->G w->Ho b S u w (∀K:Act->Wd->Prop,Af (∀v w',f.post u v w w'->K (A.put o.dst v) w')->Oper.wp P o A w K (λ_ _ _=>False)) n)/\Sy P b S G u os ss))/\
 (∀(P:Program) (G:Wd->Prop) (b:Wd) (S:List Sp) (u:Nat->Value),Sy P b S G u [] []=True)/\
 (∀(u:Nat->Value) (l:LV) (T:Prop),Sx u l T []=T)/\(∀(u:Nat->Value) (l:LV) (T:Prop) (t:Nat) (r:List Nat),Sx u l T (t::r)=(u t=l.getD t undef->Sx u l T r))/\
 (∀(b:Wd) (S:List Sp) (u:Nat->Value) (w:Wd) (T:Prop),Ho b S u w T []=T)/\(∀(b:Wd) (S:List Sp) (u:Nat->Value) (w:Wd) (T:Prop) (k:Nat) (l:List Nat),Ho b S u w T (k::l)=((Ts S k).sem b u (u k) w->Ho b S u w T l))/\
 (∀(k k':Nat) (n:List Nat) (f:Fc) (l:List Sp),Ts (⟨k',n,f⟩::l) k=if k'=k then f else Ts l k)/\
 (∀(x:LV),x.toArray.toList=x)/\(∀(x:List Oper),x.toArray.toList=x)/\(∀(x d:Value) (l:LV),(x::l).getD 0 d=x)/\(∀(x d:Value) (l:LV) (n:Nat),(x::l).getD (n+1) d=l.getD n d):=by
 refine⟨λ_ _ _ _ _=>rfl,λ_ _ _ _ _=>rfl,λ_ _ _ _ _ _=>rfl,λ_ _ _ _ _=>rfl,λ_ _ _ _ _=>rfl,λ_ _ _ _ _ _ _=>rfl,λ_ _ _ _ _ _ _=>rfl,λ_ _ _ _ _=>rfl,λ_ _ _ _ _=>rfl,λ_ _ _ _ _ _=>rfl,λ_ _ _ _ _=>rfl,λ_ _ _ _ _=>rfl,λ_ _ _ _ _=>rfl,λ_ _ _=>rfl,λ_=>rfl,λ_ _ _ _ _=>rfl,λ_ _ _ _ _ _ _=>rfl,λ_ _ _ _ _ _ _=>rfl,λP G b S u o k n f os ss=>?_,λ_ _ _ _ _=>rfl,λ_ _ _=>rfl,λ_ _ _ _ _=>rfl,λ_ _ _ _ _=>rfl,λ_ _ _ _ _ _ _=>rfl,λ_ _ _ _ _=>rfl,λ_=>rfl,λ_=>rfl,λ_ _ _=>rfl,λ_ _ _ _=>rfl⟩;have:∀A:Act,(∀t,A.eval (.tmp t)=u t)=((∀t,A.eval (.tmp t)=u t)/\(∀t,A.tmps.getD t undef=u t)/\(∀t:Nat,A.tmps[t]?.getD undef=u t)):=λA=>propext ⟨λh=>⟨h,h,λt=>by simp_all[Act.eval]⟩,λh=>h.1⟩;exact propext ⟨λh=>⟨λA w e=>h.1 A w e.1,h.2⟩,λh=>⟨λA w e=>h.1 A w ((this A) ▸ e),h.2⟩⟩
def dP(p:Nat)(w:Wd):Below p w w/\∀q,q≠p->w.heap[q]?=w.heap[q]?:=⟨An _ _,λ_ _=>rfl⟩
def Qz{w':Wd}(h:Below p w w'/\∀q,q≠p->w'.heap[q]?=w.heap[q]?):Below p w (w'.setCell (aD p i) v)/\∀q,q≠p->(w'.setCell (aD p i) v).heap[q]?=w.heap[q]?:=
 ⟨h.1.setCell (p:=aD p i) (Bv _) v,λq hq=>(Below.heap_setCell w' (aD p i) v q hq).trans (h.2 q hq)⟩
