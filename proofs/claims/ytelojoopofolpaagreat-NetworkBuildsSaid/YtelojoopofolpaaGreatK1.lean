/- a part of the proof -/
import Derived.Laws.AppendOwnNone
import Derived.Deep.LoopGhost
import Derived.Deep.RegionWith
import Derived.Test.YtelojoopofolpaaGreatGH
set_option linter.all false
set_option maxRecDepth 100000
set_option maxHeartbeats 3000000
namespace Go.Proofs.YtelojoopofolpaaGreat
open Go.RowKit Go.Sort Go.Proofs.Tryz
theorem Wm(x:Int):(Lit.int .i64 (wrap64 x)).wf=true:=by
 have a:IntKind.i64.min=-9223372036854775808:=by decide
 have b:IntKind.i64.max=9223372036854775807:=by decide
 simp only[Lit.wf,a,b,Em,decide_eq_true_eq];unfold wrap64;omega
end Go.Proofs.YtelojoopofolpaaGreat
namespace Go.Proofs.YtelojoopofolpaaGreat
open Go.RowKit Go.Proofs.Tryz
variable {P Q:Nat->Prop}{w w':Wd}{B b:Nat}{l:List zH}{a:Ae}
inductive Qu(P:Nat->Prop)(w:Wd):Nat->Nat->List zH->Prop
 |nil (b off:Nat):Qu P w b off []
 |cons {b off b' off':Nat} {x:zH} {l:List zH} {a:Ae} {cap:Nat} (hb:P b)
  (h0:w.cell? (aD b off)=some (.int .i64 x.op)) (h1:w.cell? (aD b (off+1))=some (.int .i64 x.num)) (h2:w.cell? (aD b (off+2))=some (.string x.name))
  (h3:w.cell? (aD b (off+3))=some (.slice a x.args.length cap)) (hf:Ia x)
  (ha:x.args≠ []->a=some (aD b' off')) (hx:Qu P w b' off' x.args) (ht:Qu P w b (off+4) l):Qu P w b off (x::l)
def cD(P:Nat->Prop)(w:Wd)(a:Ae)(l:List zH):Prop:=∃b off,(l≠ []->a=some (aD b off))/\Qu P w b off l
theorem Qu.step{c:Nat}(h:Qu P w b c l)(d:∀k,k<w.heap.size->P k->Q k/\w'.heap[k]?=w.heap[k]?):Qu Q w' b c l:=by
 induction h with
 |nil b c=>exact .nil b c
 |cons hb h0 h1 h2 h3 hf ha hx ht ih1 ih2=>
  have g:=d _ (bK w _ h0) hb;have k:∀o,w'.cell? (aD _ o)=w.cell? (aD _ o):=λo=>World.cell?_of_block (a:=aD _ o) g.2
  exact .cons g.1 ((k _).trans h0) ((k _).trans h1) ((k _).trans h2) ((k _).trans h3) hf ha ih1 ih2
theorem cD.step(h:cD P w a l)(d:∀k,k<w.heap.size->P k->Q k/\w'.heap[k]?=w.heap[k]?):cD Q w' a l:=by
 obtain⟨b,c,e,f⟩:=h;exact⟨b,c,e,f.step d⟩
theorem Qu.at'{a:Nat}(h:Qu P w b a l)(c:w.heap.size<=B):Ou B w b a l:=by
 induction h with
 |nil b a=>exact .nil b a
 |cons hb h0 h1 h2 h3 hf ha hx ht ih1 ih2=>exact .cons (As (bK w _ h0) c) h0 h1 h2 h3 hf.1 hf.2.1 hf.2.2.1 hf.2.2.2 ha ih1 ih2
theorem cD.at'(h:cD P w a l)(d:w.heap.size<=B):Et B w a l:=by
 obtain⟨b,c,e,f⟩:=h;exact⟨b,c,e,f.at' d⟩
def Iu(P:Nat->Prop)(w:Wd)(cs:LV):Prop:=∃(x:zH) (a:Ae) (ac:Nat),cs= [.int .i64 x.op,.int .i64 x.num,.string x.name,.slice a x.args.length ac]/\Ia x/\cD P w a x.args
theorem Iu.step{b:LV}(h:Iu P w b)(c:∀k,k<w.heap.size->P k->Q k/\w'.heap[k]?=w.heap[k]?):Iu Q w' b:=by
 obtain⟨x,a,d,e,f,g⟩:=h;exact⟨x,a,d,e,f,g.step c⟩
theorem sB(d:P b):∀(L:List (LV)) (off:Nat),(∀c∈L,Iu P w c)->(∀j u,L.flatten[j]?=some u->w.cell? (aD b (off+j))=some u)->∃l,l.length=L.length/\Qu P w b off l
 |[],off,_,_=>⟨[],rfl,.nil b off⟩
 |c::L,off,hc,hm=>by
  obtain⟨x,a,m,rfl,f,n,e,g,h⟩:=hc c (by simp)
  obtain⟨l,i,k⟩:=sB d L (off+4) (λc hc'=>hc c (by simp[hc'])) (λj u hu=>by
   have:=hm (j+4) u (by simpa using hu);rwa [show off+4+j=off+(j+4) by omega])
  exact⟨x::l,by simp[i],.cons d (hm 0 _ rfl) (hm 1 _ rfl) (hm 2 _ rfl) (hm 3 _ rfl) f g h k⟩
theorem Iu.node(d:P b)(L:List (LV))(e:∀c∈L,Iu P w c)(f:∀j u,L.flatten[j]?=some u->w.cell? (aD b j)=some u)(o:Int)(g:(Lit.int .i64 o).wf=true)(cap:Nat)(h:L.length<=2^47):
 Iu P w [Bn o,Bn 0,.string ByteArray.empty,Hy b 0 L.length cap]:=by
 obtain⟨l,a,i⟩:=sB d L 0 e (by simpa using f);exact⟨.mk o 0 ByteArray.empty l,some (aD b 0),cap,by rw[<-a];rfl,⟨by simp[zH.name],by simp[zH.args,a];exact h,g,rfl⟩,b,0,λ_=>rfl,i⟩
def Qt(X:Nat->Prop)(w:Wd)(lv:Value)(n:Nat):Prop:=n<=400/\∃a cap,lv=.slice a n cap/\n<=cap/\cap<=9223372036854775807/\(0<n->∃b off,a=some (aD b off)/\X b/\∀j,j<n->∃(k:Int) (s:BA) (m p:Int),
 w.cell? (aD b (off+j*4))=some (.int .i64 k)/\w.cell? (aD b (off+j*4+1))=some (.string s)/\w.cell? (aD b (off+j*4+2))=some (.int .i64 m)/\w.cell? (aD b (off+j*4+3))=some (.int .i64 p)/\s.size<=140737488355328/\(Lit.int .i64 m).wf=true)
theorem Qt.step{X:Nat->Prop}{f:Value}{n:Nat}(h:Qt X w f n)(q:∀k,k<w.heap.size->X k->w'.heap[k]?=w.heap[k]?):Qt X w' f n:=by
 obtain⟨r,a,c,t,u,v,x⟩:=h;refine⟨r,a,c,t,u,v,λhn=>?_⟩;obtain⟨b,d,e,i,y⟩:=x hn;refine⟨b,d,e,i,λj hj=>?_⟩;obtain⟨k,s,m,p,l,z,A,B,h⟩:=y j hj;have g:=q _ (bK w _ l) i;have e:∀o,w'.cell? (aD _ o)=w.cell? (aD _ o):=λo=>World.cell?_of_block (a:=aD _ o) g;exact⟨k,s,m,p,(e _).trans l,(e _).trans z,(e _).trans A,(e _).trans B,h⟩
def PA(w:Wd)(pb:Nat)(lv:Value)(n k:Nat):Prop:=k<=n/\Qt (·≠pb) w lv n/\∃bad:Int,w.heap[pb]?=some (.cells #[lv,k,bad] 332 (0,0))
def Va(w:Wd)(pb:Nat)(lv:Value)(n k:Nat)(e:Ending)(w':Wd):Prop:=∃(x:zH) (a:Ae) (ac k':Nat),e=.returned (.agg #[x.op,x.num,.string x.name,.slice a x.args.length ac])/\k<=k'/\k'<=n/\(∃bad:Int,w'.heap[pb]?=some (.cells #[lv,k',bad] 332 (0,0)))/\
 Iu (λb=>w.heap.size<=b) w' [.int .i64 x.op,.int .i64 x.num,.string x.name,.slice a x.args.length ac]/\w.grownBy w' (some pb)
structure PM(w0:Wd)(pb:Nat)(lv:Value)(n k:Nat)(V:List (Nat×LV))(E:List (LV))(w:Wd):Prop where
 pl:pb<w0.heap.size
 tok:Qt (·≠pb) w0 lv n
 gr:w0.grownBy w (some pb)
 kn:k<=n
 box:∃bad:Int,w.heap[pb]?=some (.cells #[lv,k,bad] 332 (0,0))
 vs:∀v∈V,w0.heap.size<=v.1/\w.heap[v.1]?=some (.cells v.2.toArray 116 (0,0))
 ex:∀c∈E,Iu (λb=>w0.heap.size<=b/\∀v∈V,v.1≠b) w c
section
variable {w0 w w':Wd} {pb n k:Nat} {lv:Value} {V:List (Nat×LV)} {E:List (LV)} (S:PM w0 pb lv n k V E w)
include S
theorem PM.lt{v:Nat×LV}(h:v∈V):v.1<w.heap.size:=Ag (S.vs v h).2
theorem PM.pa:PA w pb lv n k:=⟨S.kn,S.tok.step λj hj hX=>S.gr.block j hj (by simpa using hX),S.box⟩
theorem PM.turn{a:Nat}(h:w.grownBy w' (some pb))(e:a<=n)(d:∃bad:Int,w'.heap[pb]?=some (.cells #[lv,a,bad] 332 (0,0))):PM w0 pb lv n a V E w' where
 pl:=S.pl
 tok:=S.tok
 gr:=Lib.grownBy_trans S.gr h
 kn:=e
 box:=d
 vs v hv:=⟨(S.vs v hv).1,(h.block _ (S.lt hv) (by have:=(S.vs v hv).1;have:=S.pl;simp;omega)).trans (S.vs v hv).2⟩
 ex c hc:=(S.ex c hc).step λb d hP=>⟨hP,h.block _ d (by have:=S.pl;simp;omega)⟩
theorem PM.call{e:Ending}(h:Va w pb lv n k e w'):∃(x:zH) (a:Ae) (f d:Nat),e=.returned (.agg #[x.op,x.num,.string x.name,.slice a x.args.length f])/\k<=d/\d<=n/\PM w0 pb lv n d V ([Bn x.op,Bn x.num,.string x.name,.slice a x.args.length f]::E) w':=by
 obtain⟨x,a,f,d,j,l,i,m,o,p⟩:=h;have T:=S.turn p i m;refine⟨x,a,f,d,j,l,i,{T with ex:=λc g=>?_}⟩;rcases List.mem_cons.1 g with rfl|g;exact o.step λb _ hP=>⟨⟨Bf S.gr.size hP,λv hv e=>by have:=S.lt hv;omega⟩,rfl⟩;exact T.ex c g
theorem PM.new(c:LV):PM w0 pb lv n k ((w.heap.size,c)::V) E (w.alloc (.cells c.toArray 116)) where
 pl:=S.pl
 tok:=S.tok
 gr:=Lib.grownBy_allocR S.gr _
 kn:=S.kn
 box:=by obtain⟨d,h⟩:=S.box;exact⟨d,zd h⟩
 vs v a:=by
  rcases List.mem_cons.1 a with rfl|a
  . exact⟨S.gr.size,zh _ _⟩
  exact⟨(S.vs v a).1,zd (S.vs v a).2⟩
 ex c hc:=(S.ex c hc).step λb hb hP=>⟨⟨hP.1,λv a=>by
  rcases List.mem_cons.1 a with rfl|a
  . exact Nat.ne_of_gt hb
  exact hP.2 v a⟩,heap_alloc_old w _ hb⟩
theorem PM.node(L:List (LV))(e:∀c∈L,c∈E)(o:Int)(f:(Lit.int .i64 o).wf=true)(i:L.length<=2^47):
 PM w0 pb lv n k V ([Bn o,Bn 0,.string ByteArray.empty,Hy w.heap.size 0 L.length L.length]::E) (w.alloc (.cells L.flatten.toArray 116)) where
 pl:=S.pl
 tok:=S.tok
 gr:=Lib.grownBy_allocR S.gr _
 kn:=S.kn
 box:=by obtain⟨d,h⟩:=S.box;exact⟨d,zd h⟩
 vs v hv:=⟨(S.vs v hv).1,zd (S.vs v hv).2⟩
 ex c a:=by
  have g:∀c∈E,Iu (λb=>w0.heap.size<=b/\∀v∈V,v.1≠b) (w.alloc (.cells L.flatten.toArray 116)) c:=λc a=>(S.ex c a).step λb hb hP=>⟨hP,heap_alloc_old w _ hb⟩
  rcases List.mem_cons.1 a with rfl|a
  . refine Iu.node ⟨S.gr.size,λv hv=>Nat.ne_of_lt (S.lt hv)⟩ L (λc h=>g c (e c h)) (λj u hu=>?_) o f L.length i;exact zm (zh _ _) (by simpa using hu)
  exact g c a
theorem PM.set0{b:Nat}{o c:LV}{V':List (Nat×LV)}(g:V=(b,o)::V')(i:∀v∈V',v.1≠b)(a:w.grownBy w' (some b))(l:w'.heap[b]?=some (.cells c.toArray 116 (0,0))):PM w0 pb lv n k ((b,c)::V') E w':=by
 subst g;have e:=(S.vs (b,o) (by simp)).1;refine{pl:=S.pl,tok:=S.tok,gr:=⟨a.os.trans S.gr.os,a.tape.trans S.gr.tape,a.output.trans S.gr.output,Bf S.gr.size a.size,λj hj hne=>(a.block j (As hj S.gr.size) (by simp at e ⊢;omega)).trans (S.gr.block j hj hne)⟩,kn:=S.kn,box:=?_,vs:=λv d=>?_,ex:=λc hc=>?_};obtain⟨f,h⟩:=S.box;exact⟨f,(a.block _ (Ag h) (by have:=S.pl;simp at e ⊢;omega)).trans h⟩;rcases List.mem_cons.1 d with rfl|d;exact⟨e,l⟩;have:=S.vs v (by simp[d]);exact⟨this.1,(a.block _ (Ag this.2) (by simpa using i v d)).trans this.2⟩;exact(S.ex c hc).step λj hj hP=>⟨⟨hP.1,λv d=>by
  rcases List.mem_cons.1 d with rfl|d
  . exact hP.2 (b,o) (by simp)
  exact hP.2 v (by simp[d])⟩,a.block _ hj (by have:=hP.2 (b,o) (by simp);simp at this ⊢;omega)⟩
theorem PM.fin{i b:Nat}{x:zH}{a:Ae}{f:Nat}(l:i<=k)(m: [Bn x.op,Bn x.num,.string x.name,.slice a x.args.length f]∈E)(e:∃o,(b,o)∈V)(c:w.grownBy w' (some b)):Va w0 pb lv n i (.returned (.agg #[x.op,x.num,.string x.name,.slice a x.args.length f])) w':=by
 obtain⟨o,e⟩:=e;have d:=(S.vs _ e).1;refine⟨x,a,f,k,rfl,l,S.kn,?_,(S.ex _ m).step λj hj hP=>⟨hP.1,c.block _ hj (by have:=hP.2 _ e;simp at this ⊢;omega)⟩,⟨c.os.trans S.gr.os,c.tape.trans S.gr.tape,c.output.trans S.gr.output,Bf S.gr.size c.size,λj hj hne=>(c.block j (As hj S.gr.size) (by simp at d ⊢;omega)).trans (S.gr.block j hj hne)⟩⟩;obtain⟨g,h⟩:=S.box;exact⟨g,(c.block _ (Ag h) (by have:=S.pl;simp at d ⊢;omega)).trans h⟩
end
end Go.Proofs.YtelojoopofolpaaGreat
namespace Go.Proofs.YtelojoopofolpaaGreat
open Go.RowKit Go.Sort Go.Proofs.Tryz
theorem Sj{w w':Wd}{r:Option Nat}(h:Bw w w'):w.grownBy w' r:=⟨h.os,h.tape,h.output,h.size,λk hk _=>h.block k hk⟩
def TkR(w:Wd)(pb:Nat)(lv:Value)(n k:Nat)(e:Ending)(w':Wd):Prop:=∃b:Bool,e=.returned (.bool b)/\(b=true->k<n)/\(∃bad:Int,w'.heap[pb]?=some (.cells #[lv,((k+b.toNat:Nat):Int),bad] 332 (0,0)))/\w.grownBy w' (some pb)
def xv(x:zH)(a:Ae)(c:Nat):LV:= [.int .i64 x.op,.int .i64 x.num,.string x.name,.slice a x.args.length c]
def zv:LV:= [.int .i64 0,.int .i64 0,.string ⟨#[]⟩,.slice none 0 0]
theorem PM.start{w:Wd}{b n k:Nat}{d:Value}(h:PA w b d n k):PM w b d n k [(w.heap.size,zv)] [] (w.alloc (.cells zv.toArray 116)):=by
 obtain⟨f,g,a,e⟩:=h;refine{pl:=Ag e,tok:=g,gr:=World.grownBy_alloc _ _ _,kn:=f,box:=⟨a,zd e⟩,vs:=?_,ex:=λc hc=>by cases hc};intro v i;obtain rfl:=List.mem_singleton.1 i;exact⟨Bv _,zh _ _⟩
section
variable {w0 w w':Wd} {pb n k:Nat} {lv:Value} {V:List (Nat×LV)} {E:List (LV)} (S:PM w0 pb lv n k V E w)
include S
theorem PM.took{e:Ending}(h:TkR w pb lv n k e w'):∃b:Bool,e=.returned (.bool b)/\(b=true->k<n)/\PM w0 pb lv n (k+b.toNat) V E w':=by
 obtain⟨b,a,c,d,f⟩:=h;exact⟨b,a,c,S.turn f (by cases b <;> simp_all <;> first|exact S.kn|omega) d⟩
theorem PM.xc{b:Nat}{x:zH}{a:Ae}{c:Nat}(h:(b,xv x a c)∈V):w.cell? (aD b 0)=some (Bn x.op)/\w.cell? (aD b 1)=some (Bn x.num)/\w.cell? (aD b 2)=some (.string x.name)/\w.cell? (aD b 3)=some (.slice a x.args.length c):=by
 have q:=(S.vs _ h).2;exact⟨zm (j:=0) q rfl,zm (j:=1) q rfl,zm (j:=2) q rfl,zm (j:=3) q rfl⟩
theorem PM.zc{b:Nat}{v:LV}(h:(b,v)∈V)(a:v.length=4):(∃c0 c1 c2 c3,w.cell? (aD b 0)=some c0/\w.cell? (aD b 1)=some c1/\w.cell? (aD b 2)=some c2/\w.cell? (aD b 3)=some c3)/\w.frozen? (aD b 0)=false/\w.frozen? (aD b 1)=false/\w.frozen? (aD b 2)=false/\w.frozen? (aD b 3)=false/\b<w.heap.size:=by
 have q:=(S.vs _ h).2;match v,a with
 |[v0,v1,v2,v3],_=>exact⟨⟨v0,v1,v2,v3,zm (j:=0) q rfl,zm (j:=1) q rfl,zm (j:=2) q rfl,zm (j:=3) q rfl⟩,zQ q,zQ q,zQ q,zQ q,Ag q⟩
theorem PM.drew:PM w0 pb lv n k V E w.drew:={pl:=S.pl,tok:=S.tok,gr:=⟨S.gr.os,S.gr.tape,S.gr.output,S.gr.size,S.gr.block⟩,kn:=S.kn,box:=S.box,vs:=S.vs,ex:=λc hc=>(S.ex c hc).step λb _ hP=>⟨hP,rfl⟩}
end

end Go.Proofs.YtelojoopofolpaaGreat
