/- a part of the proof -/
import Derived.Laws.AppendOwnNone
import Derived.Deep.LoopGhost
import Derived.Deep.RegionWith
import Derived.Test.YtafdcbmgdfliiaaGreatGH
set_option linter.all false
set_option maxRecDepth 100000
set_option maxHeartbeats 3000000
namespace Go.Proofs.YtafdcbmgdfliiaaGreat
open Go.RowKit Go.Sort Go.Proofs.Tryz
theorem Wm(x:Int):(Lit.int .i64 (wrap64 x)).wf=true:=by
 have a:IntKind.i64.min=-9223372036854775808:=by decide
 have b:IntKind.i64.max=9223372036854775807:=by decide
 grind[Lit.wf,wrap64]
def cJ(s:BA)(w:Wd)(e:Ending)(w':Wd):Prop:=∃r:Int,e=.returned r/\w=w'
def ER(w:Wd)(e:Ending)(w':Wd):Prop:=∃(r:Int) (b:Bool),e=.returned (.tuple #[r,.bool b])/\(Lit.int .i64 r).wf=true/\w=w'
def sI(w:Wd)(e:Ending)(w':Wd):Prop:=∃(r k:Int),e=.returned (.tuple #[r,k])/\(Lit.int .i64 r).wf=true/\w=w'
def BoR(w:Wd)(e:Ending)(w':Wd):Prop:=∃b:Bool,e=.returned (.bool b)/\w=w'
def EW(n:Nat)(w:Wd)(e:Ending)(w':Wd):Prop:=∃s:BA,e=.returned (.string s)/\s.size<=n/\w=w'
def zEk(s:BA)(c:Int)(w:Wd)(b:s.size<=2^47):Calls prog 242 #[B_ s,.int .u8 c] w (cJ s w):=by
 go_in;go_wp2_with fail;go_loop [5] (λi=>∃k:Nat,k<=s.size/\i=Bn k) (λi=>s.size-(intOf i).toNat);exact⟨0,Bg _,rfl⟩;obtain⟨k,d,rfl⟩:=hrel;by_cases a:k<s.size
 . go_wp2_with fail;go_ret;exact⟨_,rfl,rfl⟩;go_round;exact⟨k+1,by omega,by go_num⟩;simp[intOf];omega
 go_wp2;go_ret;exact⟨_,rfl,rfl⟩
def YP(s:BA)(w:Wd)(a:s.size<=2^47):Calls prog 271 #[B_ s] w (BoR w):=by
 by_cases b:0<s.size
 . go_in;go_wp2_with fail
   all_goals
    go_ret;exact⟨_,rfl,rfl⟩
 go_in;go_wp2_with fail
 all_goals
  go_ret;exact⟨_,rfl,rfl⟩
def lF(s:BA)(lo b:Int)(w:Wd)(f:s.size<=2^47):Calls prog 245 #[B_ s,lo,b] w (ER w):=by
 go_in;go_wp2_with fail;go_ret2;exact⟨_,_,rfl,rfl,rfl⟩
 . go_loop [8,9] (λv i=>∃(k:Nat) (n:Int),k<=s.size/\i=Bn k/\v=Bn n/\(Lit.int .i64 n).wf=true) (λ_ i=>s.size-(intOf i).toNat);exact⟨0,0,Bg _,rfl,rfl,rfl⟩;obtain⟨k,n,g,rfl,rfl,a⟩:=hrel;have c:=I a;by_cases d:k<s.size
   . go_wp2_with fail;refine cb (eH _ _) ?_;go_wp2_with fail;go_ret2;exact⟨_,_,rfl,rfl,rfl⟩;go_round;exact⟨k+1,_,by omega,by go_num,rfl,Wm _⟩;simp[intOf];omega
   go_wp2;go_ret2;exact⟨_,_,rfl,c.1,rfl⟩
 go_ret2;exact⟨_,_,rfl,rfl,rfl⟩
def YQ(s:BA)(w:Wd)(f:s.size<=2^47):Calls prog 243 #[B_ s] w (sI w):=by
 by_cases a:s.size=5
 . have b:((s.size:Int) !=5)=false:=by simp[a]
   have c:2<s.size:=by omega
   go_in;go_wp2_with fail;go_ret2;exact⟨_,_,rfl,rfl,rfl⟩;refine(lF _ _ _ _ (by simp;omega)).mono ?_;rintro e d ⟨g,h,rfl,i,rfl⟩;go_wp2_with fail;refine(lF _ _ _ _ (by simp;omega)).mono ?_;rintro e d ⟨j,k,rfl,c,rfl⟩;go_wp2_with fail
   all_goals
    go_ret2;exact⟨_,_,rfl,by first|rfl|exact Wm _,rfl⟩
 have b:((s.size:Int) !=5)=true:=by simp;omega
 go_in;go_wp2;go_ret2;exact⟨_,_,rfl,rfl,rfl⟩
def XE(s:BA)(w:Wd)(c:s.size<=2^47):Calls prog 244 #[B_ s] w (sI w):=by
 by_cases d:0<s.size
 . go_in;go_wp2_with (first|(go_at_call 245;refine(lF _ _ _ _ (by simp;omega)).mono ?_;rintro e a ⟨r,b,rfl,h,rfl⟩)|(go_at_call 271;refine(YP _ _ (by simp;omega)).mono ?_;rintro e a ⟨b,rfl,rfl⟩))
   all_goals
    go_ret2;exact⟨_,_,rfl,by first|rfl|exact Wm _,rfl⟩
 go_in;go_wp2_with fail
 all_goals
  go_ret2;exact⟨_,_,rfl,by first|rfl|exact Wm _,rfl⟩
end Go.Proofs.YtafdcbmgdfliiaaGreat
namespace Go.Proofs.YtafdcbmgdfliiaaGreat
open Go.RowKit Go.Proofs.Tryz
variable {P Q:Nat->Prop}{w w':Wd}{B b off:Nat}{l:List zH}{a:Ae}
inductive Qu(P:Nat->Prop)(w:Wd):Nat->Nat->List zH->Prop
 |nil (b off:Nat):Qu P w b off []
 |cons {b off b' off':Nat} {x:zH} {l:List zH} {a:Ae} {cap:Nat} (hb:P b)
  (h0:w.cell? (aD b off)=some (.int .i64 x.op)) (h1:w.cell? (aD b (off+1))=some (.int .i64 x.num)) (h2:w.cell? (aD b (off+2))=some (.string x.name))
  (h3:w.cell? (aD b (off+3))=some (.slice a x.args.length cap)) (hf:Ia x)
  (ha:x.args≠ []->a=some (aD b' off')) (hx:Qu P w b' off' x.args) (ht:Qu P w b (off+4) l):Qu P w b off (x::l)
def cD(P:Nat->Prop)(w:Wd)(a:Ae)(l:List zH):Prop:=∃b off,(l≠ []->a=some (aD b off))/\Qu P w b off l
def Qu.step(h:Qu P w b off l)(c:∀k,k<w.heap.size->P k->Q k/\w'.heap[k]?=w.heap[k]?):Qu Q w' b off l:=by
 induction h with
 |nil b off=>exact .nil b off
 |cons hb h0 h1 h2 h3 hf ha hx ht ih1 ih2=>
  have g:=c _ (bK w _ h0) hb;have k:∀o,w'.cell? (aD _ o)=w.cell? (aD _ o):=λo=>World.cell?_of_block (a:=aD _ o) g.2
  exact .cons g.1 ((k _).trans h0) ((k _).trans h1) ((k _).trans h2) ((k _).trans h3) hf ha ih1 ih2
def cD.step(h:cD P w a l)(d:∀k,k<w.heap.size->P k->Q k/\w'.heap[k]?=w.heap[k]?):cD Q w' a l:=by
 obtain⟨b,c,e,f⟩:=h;exact⟨b,c,e,f.step d⟩
def Qu.at'(h:Qu P w b off l)(a:w.heap.size<=B):Ou B w b off l:=by
 induction h with
 |nil b off=>exact .nil b off
 |cons hb h0 h1 h2 h3 hf ha hx ht ih1 ih2=>exact .cons (As (bK w _ h0) a) h0 h1 h2 h3 hf.1 hf.2.1 hf.2.2.1 hf.2.2.2 ha ih1 ih2
def cD.at'(h:cD P w a l)(d:w.heap.size<=B):Et B w a l:=by
 obtain⟨b,c,e,f⟩:=h;exact⟨b,c,e,f.at' d⟩
def Iu(P:Nat->Prop)(w:Wd)(cs:LV):Prop:=∃(x:zH) (a:Ae) (ac:Nat),cs= [Bn x.op,Bn x.num,.string x.name,.slice a x.args.length ac]/\Ia x/\cD P w a x.args
def Iu.step{b:LV}(h:Iu P w b)(c:∀k,k<w.heap.size->P k->Q k/\w'.heap[k]?=w.heap[k]?):Iu Q w' b:=by
 obtain⟨x,a,d,e,f,g⟩:=h;exact⟨x,a,d,e,f,g.step c⟩
def sB(d:P b):∀(L:List (LV)) (off:Nat),(∀c∈L,Iu P w c)->(∀j u,L.flatten[j]?=some u->w.cell? (aD b (off+j))=some u)->∃l,l.length=L.length/\Qu P w b off l
 |[],off,_,_=>⟨[],rfl,.nil b off⟩
 |c::L,off,hc,hm=>by
  obtain⟨x,a,m,rfl,f,n,e,g,h⟩:=hc c (by simp)
  have⟨l,i,k⟩:=sB d L (off+4) (λc hc'=>hc c (by simp[hc'])) (λj u hu=>by
   have:=hm (j+4) u (by simpa using hu);rwa [show off+4+j=off+(j+4) by omega])
  exact⟨x::l,by simp[i],.cons d (hm 0 _ rfl) (hm 1 _ rfl) (hm 2 _ rfl) (hm 3 _ rfl) f g h k⟩
def Iu.node(d:P b)(L:List (LV))(e:∀c∈L,Iu P w c)(f:∀j u,L.flatten[j]?=some u->w.cell? (aD b j)=some u)(o:Int)(g:(Lit.int .i64 o).wf=true)(cap:Nat)(h:L.length<=2^47):
 Iu P w [Bn o,Bn 0,B_ ByteArray.empty,Kx b 0 L.length cap]:=by
 have⟨l,a,i⟩:=sB d L 0 e (by simpa using f);exact⟨.mk o 0 ByteArray.empty l,some (aD b 0),cap,by rw[<-a];rfl,⟨by simp[zH.name],by simp[zH.args,a];exact h,g,rfl⟩,b,0,λ_=>rfl,i⟩
def Iu.leaf(P:Nat->Prop)(w:Wd)(o n:Int)(s:BA)(a:(Lit.int .i64 o).wf=true)(b:(Lit.int .i64 n).wf=true)(c:s.size<=2^47):Iu P w [Bn o,Bn n,B_ s,Ls]:=
 ⟨.mk o n s [],none,0,rfl,⟨c,by simp[zH.args],a,b⟩,0,0,λh=>(h rfl).elim,.nil 0 0⟩
def Qt(X:Nat->Prop)(w:Wd)(lv:Value)(n:Nat):Prop:=n<=400/\∃a cap,lv=.slice a n cap/\n<=cap/\cap<=9223372036854775807/\(0<n->∃b off,a=some (aD b off)/\X b/\∀j,j<n->∃(k:Int) (s:BA) (m p:Int),
 w.cell? (aD b (off+j*4))=some (Bn k)/\w.cell? (aD b (off+j*4+1))=some (.string s)/\w.cell? (aD b (off+j*4+2))=some (Bn m)/\w.cell? (aD b (off+j*4+3))=some (Bn p)/\s.size<=140737488355328/\(Lit.int .i64 m).wf=true)
def Qt.step{X:Nat->Prop}{f:Value}{n:Nat}(h:Qt X w f n)(q:∀k,k<w.heap.size->X k->w'.heap[k]?=w.heap[k]?):Qt X w' f n:=by
 obtain⟨r,a,c,t,u,v,x⟩:=h;refine⟨r,a,c,t,u,v,λhn=>?_⟩;have⟨b,d,e,i,y⟩:=x hn;refine⟨b,d,e,i,λj hj=>?_⟩;have⟨k,s,m,p,l,z,A,B,h⟩:=y j hj;have g:=q _ (bK w _ l) i;have e:∀o,w'.cell? (aD _ o)=w.cell? (aD _ o):=λo=>World.cell?_of_block (a:=aD _ o) g;exact⟨k,s,m,p,(e _).trans l,(e _).trans z,(e _).trans A,(e _).trans B,h⟩
def PA(w:Wd)(pb:Nat)(lv:Value)(n k:Nat):Prop:=k<=n/\Qt (·≠pb) w lv n/\∃bad:Int,w.heap[pb]?=some (.cells #[lv,k,bad] 329 (0,0))
def Va(w:Wd)(pb:Nat)(lv:Value)(n k:Nat)(e:Ending)(w':Wd):Prop:=∃(x:zH) (a:Ae) (ac k':Nat),e=.returned (.agg #[x.op,x.num,.string x.name,.slice a x.args.length ac])/\k<=k'/\k'<=n/\(∃bad:Int,w'.heap[pb]?=some (.cells #[lv,k',bad] 329 (0,0)))/\
 Iu (λb=>w.heap.size<=b) w' [Bn x.op,Bn x.num,.string x.name,.slice a x.args.length ac]/\w.grownBy w' (some pb)
structure PM(w0:Wd)(pb:Nat)(lv:Value)(n k:Nat)(V:List (Nat×LV))(E:List (LV))(w:Wd):Prop where
 pl:pb<w0.heap.size
 tok:Qt (·≠pb) w0 lv n
 gr:w0.grownBy w (some pb)
 kn:k<=n
 box:∃bad:Int,w.heap[pb]?=some (.cells #[lv,k,bad] 329 (0,0))
 vs:∀v∈V,w0.heap.size<=v.1/\w.heap[v.1]?=some (.cells v.2.toArray 71 (0,0))
 ex:∀c∈E,Iu (λb=>w0.heap.size<=b/\∀v∈V,v.1≠b) w c
section
variable {w0 w w':Wd} {pb n k:Nat} {lv:Value} {V:List (Nat×LV)} {E:List (LV)} (S:PM w0 pb lv n k V E w)
include S
def PM.lt{v:Nat×LV}(h:v∈V):v.1<w.heap.size:=Ag (S.vs v h).2
def PM.pa:PA w pb lv n k:=⟨S.kn,S.tok.step λj hj hX=>S.gr.block j hj (by simpa using hX),S.box⟩
def PM.turn{a:Nat}(h:w.grownBy w' (some pb))(e:a<=n)(d:∃bad:Int,w'.heap[pb]?=some (.cells #[lv,a,bad] 329 (0,0))):PM w0 pb lv n a V E w' where
 pl:=S.pl
 tok:=S.tok
 gr:=Lib.grownBy_trans S.gr h
 kn:=e
 box:=d
 vs v hv:=⟨(S.vs v hv).1,(h.block _ (S.lt hv) (by have:=(S.vs v hv).1;have:=S.pl;simp;omega)).trans (S.vs v hv).2⟩
 ex c hc:=(S.ex c hc).step λb d hP=>⟨hP,h.block _ d (by have:=S.pl;simp;omega)⟩
def PM.call{e:Ending}(h:Va w pb lv n k e w'):∃(x:zH) (a:Ae) (f d:Nat),e=.returned (.agg #[x.op,x.num,B_ x.name,CU a x.args.length f])/\k<=d/\d<=n/\PM w0 pb lv n d V ([Bn x.op,Bn x.num,B_ x.name,CU a x.args.length f]::E) w':=by
 obtain⟨x,a,f,d,j,l,i,m,o,p⟩:=h;have T:=S.turn p i m;refine⟨x,a,f,d,j,l,i,{T with ex:=λc g=>?_}⟩;rcases List.mem_cons.1 g with rfl|g;exact o.step λb _ hP=>⟨⟨Bf S.gr.size hP,λv hv e=>by have:=S.lt hv;omega⟩,rfl⟩;exact T.ex c g
theorem PM.new(c:LV):PM w0 pb lv n k ((w.heap.size,c)::V) E (w.alloc (.cells c.toArray 71)) where
 pl:=S.pl
 tok:=S.tok
 gr:=Lib.grownBy_allocR S.gr _
 kn:=S.kn
 box:=by have⟨d,h⟩:=S.box;grind[zd]
 vs v a:=by
  rcases List.mem_cons.1 a with rfl|a
  . exact⟨S.gr.size,zh _ _⟩
  exact⟨(S.vs v a).1,zd (S.vs v a).2⟩
 ex c hc:=(S.ex c hc).step λb hb hP=>⟨⟨hP.1,λv a=>by
  grind⟩,heap_alloc_old w _ hb⟩
theorem PM.node(L:List (LV))(e:∀c∈L,c∈E)(o:Int)(f:(Lit.int .i64 o).wf=true)(i:L.length<=2^47):
 PM w0 pb lv n k V ([Bn o,Bn 0,B_ ByteArray.empty,Kx w.heap.size 0 L.length L.length]::E) (w.alloc (.cells L.flatten.toArray 71)) where
 pl:=S.pl
 tok:=S.tok
 gr:=Lib.grownBy_allocR S.gr _
 kn:=S.kn
 box:=by have⟨d,h⟩:=S.box;grind[zd]
 vs v hv:=⟨(S.vs v hv).1,zd (S.vs v hv).2⟩
 ex c a:=by
  have g:∀c∈E,Iu (λb=>w0.heap.size<=b/\∀v∈V,v.1≠b) (w.alloc (.cells L.flatten.toArray 71)) c:=λc a=>(S.ex c a).step λb hb hP=>⟨hP,heap_alloc_old w _ hb⟩
  rcases List.mem_cons.1 a with rfl|a
  . refine Iu.node ⟨S.gr.size,λv hv=>Nat.ne_of_lt (S.lt hv)⟩ L (λc h=>g c (e c h)) (λj u hu=>?_) o f L.length i;simp_all
  exact g c a
theorem PM.set0{b:Nat}{o c:LV}{V':List (Nat×LV)}(g:V=(b,o)::V')(hd:∀v∈V',v.1≠b)(a:w.grownBy w' (some b))(i:w'.heap[b]?=some (.cells c.toArray 71 (0,0))):PM w0 pb lv n k ((b,c)::V') E w':=by
 subst g;have e:=(S.vs (b,o) (by simp)).1;refine{pl:=S.pl,tok:=S.tok,gr:=⟨a.os.trans S.gr.os,a.tape.trans S.gr.tape,a.output.trans S.gr.output,Bf S.gr.size a.size,λj hj hne=>(a.block j (As hj S.gr.size) (by grind)).trans (S.gr.block j hj hne)⟩,kn:=S.kn,box:=?_,vs:=λv d=>?_,ex:=λc hc=>?_};have⟨f,h⟩:=S.box;exact⟨f,(a.block _ (Ag h) (by have:=S.pl;grind)).trans h⟩;rcases List.mem_cons.1 d with rfl|d;exact⟨e,i⟩;have:=S.vs v (by simp[d]);exact⟨this.1,(a.block _ (Ag this.2) (by grind)).trans this.2⟩;exact(S.ex c hc).step λj hj hP=>⟨⟨hP.1,λv d=>by
  rcases List.mem_cons.1 d with rfl|d
  . simp_all
  grind⟩,a.block _ hj (by have:=hP.2 (b,o) (by simp);grind)⟩
def PM.less{a:List (LV)}(h:∀c∈a,c∈E):PM w0 pb lv n k V a w:={S with ex:=λc hc=>S.ex c (h c hc)}
theorem PM.fin{k0 b:Nat}{x:zH}{a:Ae}{ac:Nat}(g:k0<=k)(i: [Bn x.op,Bn x.num,B_ x.name,CU a x.args.length ac]∈E)(e:∃o,(b,o)∈V)(c:w.grownBy w' (some b)):Va w0 pb lv n k0 (.returned (.agg #[x.op,x.num,B_ x.name,CU a x.args.length ac])) w':=by
 obtain⟨o,e⟩:=e;have d:=(S.vs _ e).1;refine⟨x,a,ac,k,rfl,g,S.kn,?_,(S.ex _ i).step λj hj hP=>⟨hP.1,c.block _ hj (by grind)⟩,⟨c.os.trans S.gr.os,c.tape.trans S.gr.tape,c.output.trans S.gr.output,Bf S.gr.size c.size,λj hj hne=>(c.block j (As hj S.gr.size) (by grind)).trans (S.gr.block j hj hne)⟩⟩;have⟨f,h⟩:=S.box;exact⟨f,(c.block _ (Ag h) (by have:=S.pl;grind)).trans h⟩
end
def dO{a c d e:Value}{t:TypeId}(h:w.heap[b]?=some (.cells #[a,c,d,e] t (0,0)))(v0 v1 v2 v3:Value):
 ((((w.setCell (aD b 0) v0).setCell (aD b 1) v1).setCell (aD b 2) v2).setCell (aD b 3) v3).heap[b]?=some (.cells #[v0,v1,v2,v3] t (0,0))/\w.grownBy ((((w.setCell (aD b 0) v0).setCell (aD b 1) v1).setCell (aD b 2) v2).setCell (aD b 3) v3) (some b):=
 ⟨zg (i:=3) (u:=v3) (zg (i:=2) (u:=v2) (zg (i:=1) (u:=v1) (zg (i:=0) (u:=v0) h))),Lib.grownBy_setB (Lib.grownBy_setB (Lib.grownBy_setB (Lib.grownBy_setCell w b 0 v0) 1 v1) 2 v2) 3 v3⟩
end Go.Proofs.YtafdcbmgdfliiaaGreat
namespace Go.Proofs.YtafdcbmgdfliiaaGreat
open Go.RowKit Go.Sort Go.Proofs.Tryz
variable {w:Wd}{b:Nat}{t:TypeId}{v0 v1 v2 v3:Value}
def mB(w:Wd)(n k:Nat)(e:Ending)(w':Wd):Prop:=∃b:Bool,e=.returned (.bool b)/\(b=true->k<n)/\Below w.heap.size w w'
def lI(w:Wd)(f:Nat)(r:Value)(n k:Nat)(h:PA w f r n k)(s:BA):Calls prog 286 #[Ua f 0,B_ s] w (mB w n k):=by
 obtain⟨E,⟨F,a,t,rfl,u,v,l⟩,d,e⟩:=h;have G:=zw e;have H:=zu e;have L:=zC e;have x:=Ag e;have o:=I l;by_cases y:0<=d
 . go_in;go_wp2;go_quiet (fail);go_wp2;go_ret;exact⟨false,rfl,by simp,dN (An _ _) _⟩
 have z:decide (0<=d)=false:=by simpa using y
 by_cases c:k<n
 . have A:(k:Int)<n:=by omega
   have g:decide (n<=k)=false:=by simpa using c
   obtain⟨b,B,rfl,M,q⟩:=o.1 (by omega);have⟨N,P,m,p,C,Q,R,S,T,U⟩:=q k c;have D:=bK w _ C;go_in;go_wp2;go_quiet (fail);go_wp2_with fail;obtain⟨W,i,K⟩:∃W,w.drewN nq=W/\∀a,W.cell? a=w.cell? a:=⟨_,rfl,λ_=>rfl⟩;have j:=I (show Bw w W by rw[<-i];exact dN (An _ _) _);have V:f<W.heap.size:=As x j.1.size;have X:b<W.heap.size:=As D j.1.size;rw[i];go_region
   all_goals
    go_wp2_with fail
    all_goals
     go_ret;exact⟨_,rfl,λ_=>c,Ab j.1 (J _ _).drew⟩
 obtain rfl:k=n:=by omega
 have g:decide (k<=k)=true:=by simp
 go_in;go_wp2;go_quiet (fail);go_wp2;go_ret;exact⟨false,rfl,by simp,dN (An _ _) _⟩
def Sj{w':Wd}{r:Option Nat}(h:Bw w w'):w.grownBy w' r:=⟨h.os,h.tape,h.output,h.size,λk hk _=>h.block k hk⟩
def TkR(w:Wd)(pb:Nat)(lv:Value)(n k:Nat)(e:Ending)(w':Wd):Prop:=∃b:Bool,e=.returned (.bool b)/\(b=true->k<n)/\(∃bad:Int,w'.heap[pb]?=some (.cells #[lv,((k+b.toNat:Nat):Int),bad] 329 (0,0)))/\w.grownBy w' (some pb)
def Lr(w:Wd)(c:Nat)(f:Value)(n k:Nat)(h:PA w c f n k)(s:BA):Calls prog 274 #[Ua c 0,B_ s] w (TkR w c f n k):=by
 have l:=lI w c f n k h s;obtain⟨u,⟨v,_⟩,d,m⟩:=h;have o:=I m;go_in;go_wp2_with fail;refine l.mono ?_;rintro e p ⟨b,rfl,q,g⟩;have r:w.grownBy p (some c):=Sj g;have a:=fO o g;have t:=I r;cases b
 . go_wp2;go_ret;exact⟨false,rfl,by simp,⟨d,a.1⟩,t.1⟩
 have j:k<n:=q rfl;have x:=zu a.1;have y:=CH a.1;have z:=Ag a.1;go_wp2;go_ret;refine⟨true,rfl,λ_=>j,⟨d,?_⟩,Lib.grownBy_trans t.1 (Lib.grownBy_setCell _ _ _ _)⟩;exact zg (i:=1) a.1
def lU(w:Wd)(pb:Nat)(lv:Value)(k:Nat)(e:Ending)(w':Wd):Prop:=e=.returned (.agg #[Bn 0,Bn 0,.string ByteArray.empty,.slice none 0 0])/\(∃bad:Int,w'.heap[pb]?=some (.cells #[lv,k,bad] 329 (0,0)))/\w.grownBy w' (some pb)
def fG(w:Wd)(c:Nat)(d:Value)(k:Nat)(h:∃b:Int,w.heap[c]?=some (.cells #[d,k,b] 329 (0,0))):Calls prog 247 #[Ua c 0] w (lU w c d k):=by
 obtain⟨b,a⟩:=h;have f:=zu a;have g:=zC a;have j:=CH a;have l:=Ag a;have e:=I a;go_in;go_wp2_with fail
 all_goals
  apply bP (hd:=rfl)
  . simp[results,results247,go_sem]
    rfl
  first|exact⟨rfl,⟨_,zd (zg (i:=2) e.1)⟩,Lib.grownBy_allocR (Lib.grownBy_setCell _ _ _ _) _⟩|exact⟨rfl,⟨_,zd e.1⟩,World.grownBy_alloc _ _ _⟩
def mH(w:Wd)(pb:Nat)(lv:Value)(n k:Nat)(e:Ending)(w':Wd):Prop:=∃k',e=.returned (.tuple #[])/\k<=k'/\k'<=n/\(∃bad:Int,w'.heap[pb]?=some (.cells #[lv,k',bad] 329 (0,0)))/\w.grownBy w' (some pb)
def Zx(w:Wd)(a:Nat)(f:Value)(n k:Nat)(h:PA w a f n k)(s:BA):Calls prog 303 #[Ua a 0,B_ s] w (mH w a f n k):=by
 have l:=Lr w a f n k h s;have r:=h.1;go_in;go_wp2_with fail;refine l.mono ?_;rintro e t ⟨b,rfl,g,m,o⟩;have p:=I m;have q:=I o;cases b
 . go_wp2_with fail;refine(fG t a f k p.1).mono ?_;rintro e v ⟨rfl,c,d⟩;have i:=I c;have j:=I d;go_wp2_with fail;go_end0;exact⟨k,rfl,Bv _,r,i.1,Lib.grownBy_trans q.1 j.1⟩
 have u:k<n:=g rfl;go_wp2_with fail;go_end0;exact⟨k+1,rfl,by omega,by omega,p.1,q.1⟩
def PF(f m:Nat):Prop:=∀(w:Wd) (pb:Nat) (lv:Value) (n k:Nat),PA w pb lv n k->n-k<m->Calls prog f #[.pointer (some (aD pb 0))] w (Va w pb lv n k)
def xv(x:zH)(a:Ae)(c:Nat):LV:= [Bn x.op,Bn x.num,.string x.name,.slice a x.args.length c]
def zv:LV:= [Bn 0,Bn 0,.string ⟨#[]⟩,.slice none 0 0]
theorem PM.start{n k:Nat}{d:Value}(h:PA w b d n k):PM w b d n k [(w.heap.size,zv)] [] (w.alloc (.cells zv.toArray 71)):=by
 obtain⟨f,g,a,e⟩:=h;refine{pl:=Ag e,tok:=g,gr:=World.grownBy_alloc _ _ _,kn:=f,box:=⟨a,zd e⟩,vs:=?_,ex:=λc hc=>by cases hc};grind[zh]
section
variable {w0 w w':Wd} {pb n k:Nat} {lv:Value} {V:List (Nat×LV)} {E:List (LV)} (S:PM w0 pb lv n k V E w)
include S
def PM.got{e:Ending}(h:Va w pb lv n k e w'):∃(x:zH) (a:Ae) (ac k':Nat),e=.returned (.agg #[x.op,x.num,B_ x.name,CU a x.args.length ac])/\k<=k'/\k'<=n/\PM w0 pb lv n k' V (xv x a ac::E) w':=S.call h
def PM.took{e:Ending}(h:TkR w pb lv n k e w'):∃b:Bool,e=.returned (.bool b)/\(b=true->k<n)/\PM w0 pb lv n (k+b.toNat) V E w':=by
 obtain⟨b,a,c,d,f⟩:=h;exact⟨b,a,c,S.turn f (by cases b <;> simp_all <;> first|exact S.kn|omega) d⟩
def PM.want{e:Ending}(h:mH w pb lv n k e w'):∃a,e=.returned (.tuple #[])/\k<=a/\PM w0 pb lv n a V E w':=by
 obtain⟨a,b,c,d,f,g⟩:=h;exact⟨a,b,c,S.turn g d f⟩
def PM.xc{b:Nat}{x:zH}{a:Ae}{c:Nat}(h:(b,xv x a c)∈V):w.cell? (aD b 0)=some (Bn x.op)/\w.cell? (aD b 1)=some (Bn x.num)/\w.cell? (aD b 2)=some (B_ x.name)/\w.cell? (aD b 3)=some (CU a x.args.length c):=by
 have q:=(S.vs _ h).2;exact⟨EE 0 q rfl,EE 1 q rfl,EE 2 q rfl,EE 3 q rfl⟩
def PM.zc{b:Nat}{v:LV}(h:(b,v)∈V)(a:v.length=4):(∃c0 c1 c2 c3,w.cell? (aD b 0)=some c0/\w.cell? (aD b 1)=some c1/\w.cell? (aD b 2)=some c2/\w.cell? (aD b 3)=some c3)/\w.frozen? (aD b 0)=false/\w.frozen? (aD b 1)=false/\w.frozen? (aD b 2)=false/\w.frozen? (aD b 3)=false/\b<w.heap.size:=by
 have q:=(S.vs _ h).2;match v,a with
 |[v0,v1,v2,v3],_=>exact⟨⟨v0,v1,v2,v3,EE 0 q rfl,EE 1 q rfl,EE 2 q rfl,EE 3 q rfl⟩,zQ q,zQ q,zQ q,zQ q,Ag q⟩
def PM.drew:PM w0 pb lv n k V E w.drew:={pl:=S.pl,tok:=S.tok,gr:=⟨S.gr.os,S.gr.tape,S.gr.output,S.gr.size,S.gr.block⟩,kn:=S.kn,box:=S.box,vs:=S.vs,ex:=λc hc=>(S.ex c hc).step λb _ hP=>⟨hP,rfl⟩}
def PM.end4{b k0:Nat}{x:zH}{a:Ae}{c:Nat}{o:LV}(d:(b,o)∈V)(e:o.length=4)(f:xv x a c∈E)(g:k0<=k):
 ((((w.setCell (aD b 0) (Bn x.op)).setCell (aD b 1) (Bn x.num)).setCell (aD b 2) (B_ x.name)).setCell (aD b 3) (CU a x.args.length c)).heap[b]?=some (.cells (xv x a c).toArray 71 (0,0))/\
  Va w0 pb lv n k0 (.returned (.agg #[x.op,x.num,B_ x.name,CU a x.args.length c])) ((((w.setCell (aD b 0) (Bn x.op)).setCell (aD b 1) (Bn x.num)).setCell (aD b 2) (B_ x.name)).setCell (aD b 3) (CU a x.args.length c)):=by
 have q:=(S.vs _ d).2;match o,e with
 |[o0,o1,o2,o3],_=>
  have⟨Q,G⟩:=dO q (Bn x.op) (Bn x.num) (B_ x.name) (CU a x.args.length c);exact⟨Q,S.fin g f ⟨_,d⟩ G⟩
theorem PM.nodeW{b:Nat}{o:LV}(i:(b,o)∈V)(j:o.length=4)(L:List (LV))(l:∀c∈L,c∈E)(d:Int)(g:(Lit.int .i64 d).wf=true)(m:L.length<=2^47):
 ∃(x:zH) (a:Ae) (c:Nat),xv x a c= [Bn d,Bn 0,.string ⟨#[]⟩,Kx w.heap.size 0 L.length L.length]/\PM w0 pb lv n k V (xv x a c::E) (w.alloc (.cells L.flatten.toArray 71))/\
  (w.alloc (.cells L.flatten.toArray 71)).grownBy (((((w.setCell (aD b 0) (Bn d)).setCell (aD b 1) (Bn 0)).setCell (aD b 2) (.string ⟨#[]⟩)).setCell (aD b 3) (Kx w.heap.size 0 L.length L.length)).alloc (.cells L.flatten.toArray 71)) (some b)/\
  (((((w.setCell (aD b 0) (Bn d)).setCell (aD b 1) (Bn 0)).setCell (aD b 2) (.string ⟨#[]⟩)).setCell (aD b 3) (Kx w.heap.size 0 L.length L.length)).alloc (.cells L.flatten.toArray 71)).heap[b]?=some (.cells (xv x a c).toArray 71 (0,0)):=by
 have T:=S.node L l d g m;obtain⟨x,a,c,e,_⟩:=T.ex _ (List.mem_cons_self);have q:=(T.vs _ i).2;have h:xv x a c= [Bn d,Bn 0,.string ⟨#[]⟩,Kx w.heap.size 0 L.length L.length]:=e.symm;have f:=S.lt i;match o,j with
 |[o0,o1,o2,o3],_=>
  obtain⟨Q,G⟩:=dO q (Bn d) (Bn 0) (.string ⟨#[]⟩) (Kx w.heap.size 0 L.length L.length);rw[World.setCell_alloc_past _ _ _ _ f,World.setCell_alloc_past _ _ _ _ (by simpa using f),World.setCell_alloc_past _ _ _ _ (by simpa using f),World.setCell_alloc_past _ _ _ _ (by simpa using f)]at Q G;exact⟨x,a,c,h,by rw[h];exact T,G,by rw[h];exact Q⟩
def PM.nodeSet{b:Nat}{o:LV}{V':List (Nat×LV)}(f:V=(b,o)::V')(hd:∀v∈V',v.1≠b)(g:o.length=4)(L:List (LV))(h:∀c∈L,c∈E)(d:Int)(e:(Lit.int .i64 d).wf=true)(i:L.length<=2^47):
 ∃(x:zH) (a:Ae) (c:Nat),PM w0 pb lv n k ((b,xv x a c)::V') [xv x a c] (((((w.setCell (aD b 0) (Bn d)).setCell (aD b 1) (Bn 0)).setCell (aD b 2) (B_ ⟨#[]⟩)).setCell (aD b 3) (Kx w.heap.size 0 L.length L.length)).alloc (.cells L.flatten.toArray 71)):=by
 have⟨x,a,c,_,T,G,Q⟩:=S.nodeW (b:=b) (o:=o) (by rw[f];simp) g L h d e i;exact⟨x,a,c,(T.set0 f hd G Q).less (by simp)⟩
def PM.nodeEnd{b k0:Nat}{o:LV}(g:(b,o)∈V)(h:o.length=4)(L:List (LV))(i:∀c∈L,c∈E)(d:Int)(f:(Lit.int .i64 d).wf=true)(j:L.length<=2^47)(l:k0<=k):
 (((((w.setCell (aD b 0) (Bn d)).setCell (aD b 1) (Bn 0)).setCell (aD b 2) (B_ ⟨#[]⟩)).setCell (aD b 3) (Kx w.heap.size 0 L.length L.length)).alloc (.cells L.flatten.toArray 71)).heap[b]?=some (.cells #[d,Bn 0,B_ ⟨#[]⟩,Kx w.heap.size 0 L.length L.length] 71 (0,0))/\
  Va w0 pb lv n k0 (.returned (.agg #[d,Bn 0,B_ ⟨#[]⟩,Kx w.heap.size 0 L.length L.length])) (((((w.setCell (aD b 0) (Bn d)).setCell (aD b 1) (Bn 0)).setCell (aD b 2) (B_ ⟨#[]⟩)).setCell (aD b 3) (Kx w.heap.size 0 L.length L.length)).alloc (.cells L.flatten.toArray 71)):=by
 have⟨x,a,c,e,T,G,Q⟩:=S.nodeW g h L i d f j;have R:=T.fin l (x:=x) (a:=a) (ac:=c) (by simp[xv]) ⟨_,g⟩ G;rw[e]at Q;refine⟨Q,?_⟩;have m:(#[Bn x.op,Bn x.num,B_ x.name,CU a x.args.length c]:Array Value)=#[Bn d,Bn 0,B_ ⟨#[]⟩,Kx w.heap.size 0 L.length L.length]:=congrArg List.toArray e;rwa [m]at R
end
def dJ{x:zH}{a:Ae}{c:Nat}(q:w.heap[b]?=some (.cells (xv x a c).toArray t (0,0))):w.cell? (aD b 0)=some (Bn x.op)/\w.cell? (aD b 1)=some (Bn x.num)/\w.cell? (aD b 2)=some (B_ x.name)/\w.cell? (aD b 3)=some (CU a x.args.length c):=
 ⟨EE 0 q rfl,EE 1 q rfl,EE 2 q rfl,EE 3 q rfl⟩
def Yl(q:w.heap[b]?=some (.cells #[v0,v1,v2,v3] t (0,0))):w.cell? (aD b 0)=some v0/\w.cell? (aD b 1)=some v1/\w.cell? (aD b 2)=some v2/\w.cell? (aD b 3)=some v3:=
 ⟨EE 0 q rfl,EE 1 q rfl,EE 2 q rfl,EE 3 q rfl⟩
def Du{d:Func}{a:Array Value}{W:Wd}{f:Nat×Nat}(e:d.results=#[.cell 2 71])(g:a.getD 2 undef=Ua b 0)(q:W.heap[b]?=some (.cells #[v0,v1,v2,v3] 71 f)):(results d a).run prog W=.ok (.agg #[v0,v1,v2,v3]) W:=by
 have h:W.cell? (aD b 0)=some v0:=(EE 0 q rfl);have i:W.cell? (aD b 1)=some v1:=(EE 1 q rfl);have k:W.cell? (aD b 2)=some v2:=(EE 2 q rfl);have l:W.cell? (aD b 3)=some v3:=(EE 3 q rfl);have c:a[2]?.getD undef=Ua b 0:=by simpa using g
 simp[results,e,go_sem,c,h,i,k,l]
def Oe(m:Nat)(cs:LV):Prop:=∃(k n a:Int) (t:BA),cs= [Bn k,.string t,Bn n,Bn a]/\t.size<=m/\(Lit.int .i64 n).wf=true
def EY(m:Nat)(w:Wd)(e:Ending)(w':Wd):Prop:=∃(k n a:Int) (t:BA) (b:Bool),e=.returned (.tuple #[.agg #[k,.string t,n,a],.bool b])/\Oe m [Bn k,.string t,Bn n,Bn a]/\Below w.heap.size w w'
theorem ZI(s:BA)(w:Wd)(a:0<s.size)(b:s.size<=140737488355328):Calls prog 191 #[.string s] w (EW s.size w):=by
 go_enter func191,ntmps191
 go_wp2_with (go_at_call 242;refine(zEk _ _ _ (by decide)).mono ?_;rintro e c ⟨r,rfl,rfl⟩)
 all_goals
  go_ret;exact⟨_,rfl,by first|exact Bv _|exact Bg _|(simp;done)|(simp;omega),rfl⟩
theorem ZG(s:BA)(w:Wd)(c:0<s.size)(d:s.size<=140737488355328):Calls prog 190 #[.string s] w (EY s.size w):=by
 go_enter func190,ntmps190
 go_wp2_with (first|(go_at_call 242;refine(zEk _ _ _ (by first|omega|(simp;omega))).mono ?_;rintro e a ⟨r,rfl,rfl⟩)|(go_at_call 243;refine(YQ _ _ (by first|omega|(simp;omega))).mono ?_;rintro e a ⟨r,k,rfl,h,rfl⟩)|(go_at_call 244;refine(XE _ _ (by first|omega|(simp;omega))).mono ?_;rintro e a ⟨r,k,rfl,h,rfl⟩)|(go_at_call 245;refine(lF _ _ _ _ (by first|omega|(simp;omega))).mono ?_;rintro e a ⟨r,b,rfl,h,rfl⟩))
 all_goals
  apply bP (hd:=rfl)
  . simp[results,results190,go_sem]
    rfl
  exact⟨_,_,_,_,_,rfl,⟨_,_,_,_,rfl,by first|exact Bv _|exact Bg _,by first|assumption|rfl⟩,J _ _⟩
