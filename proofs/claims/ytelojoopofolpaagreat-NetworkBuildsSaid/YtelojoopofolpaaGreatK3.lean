/- a part of the proof -/
import Derived.Deep.RegionLaw
import Derived.Test.YtelojoopofolpaaGreatK1
set_option linter.all false
set_option maxRecDepth 100000
set_option maxHeartbeats 3000000
namespace Go.Proofs.YtelojoopofolpaaGreat
open Go.RowKit Go.Sort Go.Proofs.Tryz

section
variable {w0 w w':Wd} {pb n k:Nat} {lv:Value} {V:List (Nat×LV)} {E:List (LV)} (S:PM w0 pb lv n k V E w)
include S
theorem PM.tk{e:Ending}(h:TkR w pb lv n k e w'):(e=.returned (.bool false)/\PM w0 pb lv n k V E w')\/(e=.returned (.bool true)/\k<n/\PM w0 pb lv n (k+1) V E w'):=by
 obtain⟨b,a,d,c⟩:=S.took h;cases b;exact .inl ⟨a,c⟩;exact .inr ⟨a,d rfl,c⟩
theorem PM.below(h:Bw w w'):PM w0 pb lv n k V E w':=S.turn (Sj h) S.kn (by obtain⟨a,q⟩:=S.box;exact⟨a,Ac h q⟩)
end
structure XM(w0:Wd)(pb:Nat)(lv:Value)(n k xb:Nat)(o:Int)(sv:Value)(L:List (LV))(w:Wd):Prop where
 pm:PM w0 pb lv n k [(xb, [.int .i64 o,.int .i64 0,.string ⟨#[]⟩,sv]),(w0.heap.size,zv)] [] w
 own:w.ownsRow w0.heap.size 116 4 sv L.length L.flatten
 far:∀g,sv.ownBlock=some g->g≠xb/\g≠w0.heap.size
 el:∀c∈L,Iu (λb=>w0.heap.size<=b/\b≠xb/\b≠w0.heap.size/\sv.ownBlock≠some b) w c
 ln:L.length<=k+2
 xr:xb≠w0.heap.size
section
variable {w0 w w':Wd} {pb n k xb:Nat} {lv sv:Value} {o:Int} {L:List (LV)} (S:XM w0 pb lv n k xb o sv L w)
include S
theorem XM.blk{g:Nat}(h:sv.ownBlock=some g):w0.heap.size<=g/\g<w.heap.size:=S.own.lt g h
theorem XM.turn{a:Nat}(h:w.grownBy w' (some pb))(f:a<=n)(i:k<=a)(d:∃bad:Int,w'.heap[pb]?=some (.cells #[lv,a,bad] 332 (0,0))):XM w0 pb lv n a xb o sv L w' where
 pm:=S.pm.turn h f d
 own:=S.own.kept h (by
  cases e:sv.ownBlock with
  |none=>exact .inl rfl
  |some g=>refine .inr λe2=>?_;have:=(S.blk e).1;have:=S.pm.pl;simp at e2;omega)
 far:=S.far
 el c hc:=(S.el c hc).step λb d hP=>⟨hP,h.block _ d (by have:=S.pm.pl;have:=hP.1;simp;omega)⟩
 ln:=Bf S.ln (by omega)
 xr:=S.xr
theorem XM.below(h:Bw w w'):XM w0 pb lv n k xb o sv L w':=S.turn (Sj h) S.pm.kn (Bv _) (by obtain⟨a,q⟩:=S.pm.box;exact⟨a,Ac h q⟩)
theorem XM.call{e:Ending}(h:Va w pb lv n k e w'):∃(x:zH) (a:Ae) (d c:Nat),e=.returned (.agg #[x.op,x.num,.string x.name,.slice a x.args.length d])/\k<=c/\c<=n/\XM w0 pb lv n c xb o sv L w'/\
 Iu (λb=>w0.heap.size<=b/\b≠xb/\b≠w0.heap.size/\sv.ownBlock≠some b) w' (xv x a d):=by
 obtain⟨x,a,d,c,i,f,g,j,l,m⟩:=h;have p:xb<w.heap.size:=S.pm.lt (v:=(xb, [Bn o,Bn 0,.string ⟨#[]⟩,sv])) (by simp);have q:w0.heap.size<w.heap.size:=S.pm.lt (v:=(w0.heap.size,zv)) (by simp);exact⟨x,a,d,c,i,f,g,S.turn m g f j,l.step λb _ hP=>⟨⟨by omega,by omega,by omega,λe=>by have:=(S.blk e).2;omega⟩,rfl⟩⟩
theorem XM.app{c:LV}{g cap H:Nat}(y:Iu (λb=>w0.heap.size<=b/\b≠xb/\b≠w0.heap.size/\sv.ownBlock≠some b) w c){E:Obj}(G:w'.ownsRow w0.heap.size 116 4 (Hy g 0 (L.length+1) cap) (L.length+1) (L.flatten++c))(s:(w.alloc E).grownBy w' sv.ownBlock) 
 (F:sv.ownBlock=some g\/g=H) (N:H=w.heap.size+1) (K:L.length+1<=k+2):
 XM w0 pb lv n k xb o (Hy g 0 (L.length+1) cap) (L++ [c]) (w'.setCell (aD xb 3) (Hy g 0 (L.length+1) cap)):=by
 have m:=S.pm.vs (xb, [Bn o,Bn 0,.string ⟨#[]⟩,sv]) (by simp);have t:=S.pm.vs (w0.heap.size,zv) (by simp);have z:=Ag m.2;have A:=Ag t.2;have B:w0.heap.size<=xb:=m.1;have u:=S.pm.pl;have p:g≠xb/\g≠w0.heap.size/\w0.heap.size<=g:=by
  rcases F with e|e;exact⟨(S.far g e).1,(S.far g e).2,(S.blk e).1⟩;exact⟨by omega,by omega,by omega⟩
 have P:(w.alloc E).heap.size=w.heap.size+1:=by simp
 have l:∀b,b<w.heap.size->sv.ownBlock≠some b->w'.heap[b]?=w.heap[b]?:=λb a hne=>(s.block b (by omega) (λe=>hne e.symm)).trans (heap_alloc_old w _ a);have f:∀b,b<w.heap.size->sv.ownBlock≠some b->b≠xb->(w'.setCell (aD xb 3) (Hy g 0 (L.length+1) cap)).heap[b]?=w.heap[b]?:=λb a hne y=>(Below.heap_setCell _ _ _ _ y).trans (l b a hne);have j:∀b,b<w0.heap.size\/b=xb\/b=w0.heap.size->sv.ownBlock≠some b:=λb a e=>by
  have R:=(S.blk e).1;have T:=S.far b e;rcases a with a|a|a <;> omega
 have M:w'.heap[xb]?=some (.cells #[o,Bn 0,.string ⟨#[]⟩,sv] 116 (0,0)):=(l xb z (j _ (.inr (.inl rfl)))).trans m.2;refine{pm:=⟨u,S.pm.tok,?_,S.pm.kn,?_,λv C=>?_,λc hc=>by cases hc⟩,own:=?_,far:=λg' e=>?_,el:=λd r=>?_,ln:=by simpa using K,xr:=S.xr};refine⟨s.os.trans S.pm.gr.os,s.tape.trans S.pm.gr.tape,s.output.trans S.pm.gr.output,?_,λb a hne=>(f b (As a S.pm.gr.size) (j b (.inl a)) (by omega)).trans (S.pm.gr.block b a hne)⟩;have:=s.size;have:=S.pm.gr.size;simp[World.setCell];omega;obtain⟨D,q⟩:=S.pm.box;exact⟨D,(f pb (Ag q) (j _ (.inl u)) (by omega)).trans q⟩;rcases List.mem_cons.1 C with rfl|C;exact⟨B,zg (i:=3) M⟩;obtain rfl:=List.mem_singleton.1 C;exact⟨Bv _,(f _ A (j _ (.inr (.inr rfl))) (Ne.symm S.xr)).trans t.2⟩;have e:(L++ [c]).flatten=L.flatten++c:=by simp
 rw[Gh,e];exact G.kept (Lib.grownBy_setCell w' xb 3 _) (.inr λe=>p.1 (by simpa[Value.ownBlock] using e));obtain rfl:g=g':=by simpa[Value.ownBlock] using e
 exact⟨p.1,p.2.1⟩;have x:∀d,Iu (λb=>w0.heap.size<=b/\b≠xb/\b≠w0.heap.size/\sv.ownBlock≠some b) w d->_:=λd r=>r.step (Q:=λb=>w0.heap.size<=b/\b≠xb/\b≠w0.heap.size/\(Hy g 0 (L.length+1) cap).ownBlock≠some b) (w':=w'.setCell (aD xb 3) (Hy g 0 (L.length+1) cap)) λb a hP=>⟨⟨hP.1,hP.2.1,hP.2.2.1,λe=>by
  obtain rfl:g=b:=by simpa[Value.ownBlock] using e
  rcases F with h|h
  . exact hP.2.2.2 h
  omega⟩,f b a hP.2.2.2 hP.2.1⟩
 rcases List.mem_append.1 r with r|r;exact x d (S.el d r);obtain rfl:=List.mem_singleton.1 r;exact x _ y
theorem XM.op(o':Int):XM w0 pb lv n k xb o' sv L (w.setCell (aD xb 0) (Bn o')):=by
 have a:=S.pm.vs (xb, [Bn o,Bn 0,.string ⟨#[]⟩,sv]) (by simp);have d:=Lib.grownBy_setCell w xb 0 (Bn o');refine{pm:=S.pm.set0 (V':= [(w0.heap.size,zv)]) (c:= [Bn o',Bn 0,.string ⟨#[]⟩,sv]) rfl (by simpa using Ne.symm S.xr) d (zg (i:=0) a.2),own:=S.own.kept d ?_,far:=S.far,el:=λc hc=>(S.el c hc).step λb hb hP=>⟨hP,d.block _ hb (by have:=hP.2.1;simp;omega)⟩,ln:=S.ln,xr:=S.xr};cases e:sv.ownBlock with
 |none=>exact .inl rfl
 |some g=>exact .inr λe2=>(S.far g e).1 (by simpa using e2)
theorem XM.tk{e:Ending}(h:TkR w pb lv n k e w'):(e=.returned (.bool false)/\XM w0 pb lv n k xb o sv L w')\/(e=.returned (.bool true)/\k<n/\XM w0 pb lv n (k+1) xb o sv L w'):=by
 obtain⟨b,a,c,d,f⟩:=h;cases b;exact .inl ⟨a,S.turn f S.pm.kn (Bv _) d⟩;exact .inr ⟨a,c rfl,S.turn f (c rfl) (Nat.le_succ _) d⟩
theorem XM.done(m:0<L.length)(p:(Lit.int .i64 o).wf=true)(z:n<=400):∃(x:zH) (a:Ae) (c:Nat),xv x a c= [Bn o,Bn 0,.string ⟨#[]⟩,sv]/\PM w0 pb lv n k [(xb,xv x a c),(w0.heap.size,zv)] [xv x a c] w:=by
 have q:L.length<=2^47:=by have:=S.ln;have:=S.pm.kn;omega
 obtain⟨g,f,rfl,r,s⟩:=S.own.form m;have i:=S.far g rfl;have T:Iu (λb=>w0.heap.size<=b/\∀v∈ [(xb, [Bn o,Bn 0,.string ⟨#[]⟩,Hy g 0 L.length f]),(w0.heap.size,zv)],v.1≠b) w [Bn o,Bn 0,.string ⟨#[]⟩,Hy g 0 L.length f]:=by
  refine Iu.node ⟨r,λv h=>?_⟩ L (λc hc=>(S.el c hc).step λb _ hP=>⟨⟨hP.1,λv h=>?_⟩,rfl⟩) (λj u hu=>by have:=S.own.cells (g:=g) rfl j u hu;rwa [Addr.add_lit,Nat.zero_add]at this) o p f q;rcases List.mem_cons.1 h with rfl|h;exact Ne.symm i.1;obtain rfl:=List.mem_singleton.1 h;exact Ne.symm i.2;rcases List.mem_cons.1 h with rfl|h;exact Ne.symm hP.2.1;obtain rfl:=List.mem_singleton.1 h;exact Ne.symm hP.2.2.1
 obtain⟨x,a,c,e,t,y⟩:=T;have l:xv x a c= [Bn o,Bn 0,.string ⟨#[]⟩,Hy g 0 L.length f]:=e.symm;refine⟨x,a,c,l,?_⟩;rw[l];refine{S.pm with ex:=λd hd=>?_};obtain rfl:=List.mem_singleton.1 hd;exact⟨x,a,c,e,t,y⟩
end
theorem Qt.imp{X Y:Nat->Prop}{w:Wd}{f:Value}{n:Nat}(h:Qt X w f n)(i:∀k,k<w.heap.size->X k->Y k):Qt Y w f n:=by
 obtain⟨j,a,c,l,o,q,r⟩:=h;refine⟨j,a,c,l,o,q,λhn=>?_⟩;obtain⟨b,d,e,t,g⟩:=r hn;obtain⟨k,s,m,p,u,_⟩:=g 0 hn;exact⟨b,d,e,i b (bK w _ u) t,g⟩
end Go.Proofs.YtelojoopofolpaaGreat
