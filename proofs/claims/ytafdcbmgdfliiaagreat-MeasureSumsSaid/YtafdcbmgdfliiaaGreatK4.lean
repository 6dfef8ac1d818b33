/- a part of the proof -/
import Derived.Test.YtafdcbmgdfliiaaGreatG8
import Derived.Test.YtafdcbmgdfliiaaGreatK1
import Derived.Test.YtafdcbmgdfliiaaGreatGZ
set_option linter.all false
set_option maxRecDepth 100000
set_option maxHeartbeats 3000000
namespace Go.Proofs.YtafdcbmgdfliiaaGreat
open Go.RowKit Go.Sort Go.Proofs.Tryz
variable {w w':Wd}{b d g lo m n:Nat}{S T e:TypeId}{v z:Value}{xs:LV}{ops:Array Oper}{o:Oper}{a:Array Value}{Q:Exit->Act->Wd->Prop}{s x:Operand}{f:Nat×Nat}
structure EI(S e:TypeId)(z:Value)(size bytes:Nat):Prop where
 ht:prog.underlying S=some (.slice e)
 info:(prog.info? e).map (λi=>(i.zero,i.size,i.bytes))=some (some z,size,bytes)
 zs:z.cells.size=size
 pos:0<size
theorem Js(h:w.ownsRow b e d v n xs):∃a c,v=CU a n c:=by
 rcases h.2 with⟨f,i⟩|⟨g,j,k,rfl,_⟩;all_goals simp_all
theorem fI{f:Nat}(m:EI S e z d f){g:List Oper}{a:Act}{j:Wd}(t:Bw j w)(i:w.ownsRow j.heap.size e d v n xs)(l:LV) 
  (y:a.eval s=v) (A:a.eval x=Kx w.heap.size 0 1 1) (B:o.op=.call {callee:=.builtin .append,args:=#[s,x],argTypes:=#[S,S]}) (C:o.guard=none)
 (H:l.length=d) (D:∀u∈l,u.oneCell'=true) (E:(n+1)*f<=2^47/\n<=2^47)
 (h:∀(b:Ae) (c:Nat) (w':Wd),w'.ownsRow j.heap.size e d (CU b (n+1) c) (n+1) (xs++l)->Bw j w'->(∀k,k<w.heap.size->v.ownBlock≠some k->w'.heap[k]?=w.heap[k]?)->wpList prog ops Q g (a.put o.dst (CU b (n+1) c)) w'):
 wpList prog ops Q (o::g) a (w.alloc (.cells l.toArray e)):=by
 have⟨F,G,p,q,r⟩:=info_parts m.info;refine wpList_append_own _ C s x S B j.heap.size e F z d f m.ht G p q r m.zs m.pos v n xs y (i.alloc _) (aD w.heap.size 0) 1 1 l A (by omega) ?_ D (by grind[maxLen]) E.1 (by have:=t.size;simp;omega) λv' w' h2 h3 _=>?_;exact Hh w l e;obtain⟨b,c,rfl⟩:=Js h2;refine h b c w' h2 (Ld (e':=e) t rfl i h3) λk hk hne=>?_;exact(h3.block k (by simp;omega) (λe=>hne e.symm)).trans (heap_alloc_old w _ hk)
def EL:EI 36 9 (B_ ByteArray.empty) 1 16:=⟨underlying36,by kernel_rfl,rfl,by decide⟩
def cF:EI 22 3 (Bn 0) 1 8:=⟨underlying22,by kernel_rfl,rfl,by decide⟩
def Xj:EI 226 290 (.agg #[Bn 0,B_ ByteArray.empty,Bn 0,Bn 0]) 4 40:=⟨underlying226,by kernel_rfl,rfl,by decide⟩
theorem Zw(k:EI S e z b d){f:List Oper}{a:Act}(q:lo<=w.heap.size)(j:w.ownsRow lo e b v n xs)(i:LV) 
  (r:a.eval s=v) (t:a.eval x=Kx w.heap.size 0 1 1) (y:o.op=.call {callee:=.builtin .append,args:=#[s,x],argTypes:=#[S,S]}) (A:o.guard=none)
 (F:i.length=b) (B:∀u∈i,u.oneCell'=true) (C:(n+1)*d<=2^47/\n<=2^47)
 (h:∀(g c:Nat) (w':Wd),w'.ownsRow lo e b (Kx g 0 (n+1) c) (n+1) (xs++i)->(w.alloc (.cells i.toArray e)).grownBy w' v.ownBlock->(v.ownBlock=some g\/g=w.heap.size+1)->wpList prog ops Q f (a.put o.dst (Kx g 0 (n+1) c)) w'):
 wpList prog ops Q (o::f) a (w.alloc (.cells i.toArray e)):=by
 have⟨D,E,l,m,p⟩:=info_parts k.info;refine wpList_append_lies _ A s x S y lo e D z b d k.ht E l m p k.zs k.pos v n xs r (j.alloc _) (aD w.heap.size 0) 1 1 i t (by omega) ?_ B (by decide) (by grind[maxLen]) C.1 (by simp;omega) (w.heap.size+1) (by simp) λg c w' h2 h3 h4 _=>h g c w' h2 h3 h4;exact Hh w i e
def Sw{c:Nat}(h:w.ownsRow c e d v n xs):∃a b,v=CU a n b/\n<=b/\b<=9223372036854775807/\(n=0\/∃g,a=some (aD g 0)/\c<=g/\g<w.heap.size/\∀j u,xs[j]?=some u->w.cell? (aD g j)=some u):=by
 rcases h.2 with⟨f,i⟩|⟨g,b,k,rfl,l,m,f,o,_⟩;exact⟨none,0,by rw[f,i],by omega,by decide,.inl i⟩;exact⟨_,b,rfl,f,by unfold maxLen at o;omega,.inr ⟨g,rfl,l,(Array.getElem?_eq_some_iff.1 m).1,λj u hu=>by have:=h.cells (g:=g) rfl j u hu;rwa [Addr.add_lit,Nat.zero_add]at this⟩⟩
theorem Zy:∀(L:List (LV)) (h:∀c∈L,c.length=n) (i:Nat) (hi:i<L.length) (j:Nat),j<n->L.flatten[i*n+j]?=L[i][j]?
 |[],_,i,hi,_,_=>aB hi (by simp)
 |c::L,h,0,_,j,hj=>by
  grind
 |c::L,h,i+1,hi,j,hj=>by
  have a:c.length=n:=h c (by simp);rw[List.flatten_cons,Nf (by grind),a,show(i+1)*n+j-n=i*n+j by grind];exact Zy L (λc a=>h c (by simp[a])) i (by simpa using hi) j hj
theorem Al.of_own{A:Type}{r:RT A}{L:List (LV)}(h:w.ownsRow lo e r.n v L.length L.flatten)(f:∀c∈L,∃x,r.rep w c x):
 ∃(a:Ae) (b:Nat) (l:List A),v=CU a l.length b/\l.length=L.length/\(l.length<=b/\b<=9223372036854775807)/\Al r w a l/\∀i (o:i<l.length) (k:i<L.length),r.rep w L[i] l[i]:=by
 obtain⟨a,b,rfl,o,k,t⟩:=Sw h;have d:∀c∈L,c.length=r.n:=λc p=>by
  have⟨x,u⟩:=f c p;exact r.len u
 have s:∀i (o:i<(List.ofFn (λi:Fin L.length=>Classical.choose (f L[i.1] (gM i.2)))).length) (k:i<L.length),r.rep w L[i] (List.ofFn (λi:Fin L.length=>Classical.choose (f L[i.1] (gM i.2))))[i]:=λi o k=>by
  grind
 refine⟨a,b,List.ofFn (λi:Fin L.length=>Classical.choose (f L[i.1] (gM i.2))),by simp,by simp,by simp_all,?_,s⟩;rcases t with y|⟨g,rfl,B,z,p⟩;exact .inl (List.eq_nil_of_length_eq_zero (by simpa using y));refine .inr ⟨g,0,rfl,z,λi hi=>⟨L[i]'(by simpa using hi),λj hj=>?_,s i hi (by simpa using hi)⟩⟩;grind[Zy]
def Fr(w w':Wd)(F:Wd->Prop):Prop:=∀W,w'.heap.size<=W.heap.size->(∀b,w.heap.size<=b->b<w'.heap.size->W.heap[b]?=w'.heap[b]?)->F W
section
variable {w w':Wd} {F G:Wd→Prop} (h:Fr w w' F)
include h
def Fr.self:F w':=h w' (Bv _) λ_ _ _=>rfl
def Fr.next{c:Wd}(a:Bw w' c):Fr w c F:=λW h1 h2=>h W (Bf a.size h1) λb h3 h4=>(h2 b h3 (As h4 a.size)).trans (a.block b h4)
def Fr.old{w0:Wd}(a:w0.heap.size<=w.heap.size):Fr w0 w' F:=λW h1 h2=>h W h1 λb h3 h4=>h2 b (Bf a h3) h4
def Fr.set{b:Nat}(a:b<w.heap.size)(i:Nat)(v:Value):Fr w (w'.setCell (aD b i) v) F:=λW h1 h2=>h W (by simpa[World.setCell] using h1) λx h3 h4=>(h2 x h3 (by simpa[World.setCell] using h4)).trans (Below.heap_setCell w' (aD b i) v x (by show x≠b;omega))
def Fr.imp(a:∀W,F W->G W):Fr w w' G:=λW h1 h2=>a W (h W h1 h2)
def Fr.sets{b:Nat}(a:b<w.heap.size)(l:LV)(i:Nat):Fr w (stN b i l w') F:=by
 induction l generalizing i w' with
 |nil=>exact h
 |cons v l ih=>exact ih (h.set a i v) (i+1)
end
theorem rZ{a:Nat}(h:w'.ownsRow a e b v n xs)(c:w.heap.size<=a):Fr w w' λW=>W.ownsRow a e b v n xs:=λW h1 h2=>by
 refine⟨h.1,h.2.imp_right λ⟨g,cap,cur,h3,h4,h5,h6⟩=>⟨g,cap,cur,h3,h4,(h2 g (Bf c h4) ?_).trans h5,h6⟩⟩;grind
def ET(w:Wd)(e:Ending)(w':Wd):Prop:=∃(v:Value) (k:Int) (L:LB),e=.returned (.tuple #[v,k])/\(∀s∈L,s.size<=20000)/\w'.ownsRow w.heap.size 9 1 v L.length (L.map Value.string)/\L.length<=20001/\Below w.heap.size w w'
theorem fK{A:Type}{P:A->Prop}{L:List A}{x:A}(h:∀s∈L,P s)(b:P x):∀s∈L++ [x],P s:=by
 grind
def YC(s:BA)(w:Wd)(t:s.size<=2^47):Calls prog 119 #[B_ s] w (ET w):=by
 by_cases u:20000<s.size
 . have n:(20000:Int)<s.size:=by omega
   go_in
   go_wp2;go_ret2;exact⟨_,_, [],rfl,by simp,World.ownsRow_nil _ _ _ _,by simp,An _ _⟩
 have n:¬ (20000:Int)<s.size:=by omega
 go_in
 go_wp2_with fail;go_loop [4] (λi=>∃k:Nat,k<=s.size/\i=Bn k) (λi=>s.size-(intOf i).toNat)
 case atStart=>exact⟨0,Bg _,rfl⟩
 obtain⟨k,x,rfl⟩:=hrel;by_cases o:k<s.size
 . go_wp2_with fail
   all_goals first
   |(go_round
     case rel=>exact⟨k+1,by omega,by go_num⟩
     case measure=>simp[intOf];omega)
   |(go_ret2
     exact⟨_,_, [],rfl,by simp,World.ownsRow_nil _ _ _ _,by simp,An _ _⟩)
 obtain rfl:k=s.size:=by omega
 go_wp2_with fail;go_loopw [5,6,7] (λv f i wr=>∃(j m:Nat) (L:LB),j<=s.size/\i=Bn j/\m<=j/\f=Bn m/\L.length<=j/\Af (∀s∈L,s.size<=20000)/\Af (wr.ownsRow w.heap.size 9 1 v L.length (L.map Value.string))/\Af (Bw w wr)) (λ_ _ i _=>s.size-(intOf i).toNat)
 case atStart=>exact⟨0,0, [],Bg _,rfl,Bv _,rfl,Bv _,I (λ_ h=>by cases h),I (World.ownsRow_nil _ _ _ _),I (An _ _)⟩
 obtain⟨j,m,L,y,rfl,z,rfl,A,l,e,g⟩:=hrel;by_cases o:j<s.size
 . go_wp2_with (at_builtin;refine fI EL g.1 e.1 [B_ (s.extract m j)] rfl rfl rfl rfl rfl (by simp[Value.oneCell']) (by omega) ?_;intro p q r a b _;have d:=I a;have c:=I b;clear a b)
   all_goals go_roundw
   all_goals first
   |(simp[intOf];omega)
   |exact⟨j+1,j+1,L++ [s.extract m j],by omega,by go_num,by omega,by go_num,by simp;omega,I (fK l.1 (by simp;omega)),I (by simpa using d.1),c⟩
   |exact⟨j+1,m,L,by omega,by go_num,by omega,rfl,by omega,l,e,g⟩
 obtain rfl:j=s.size:=by omega
 obtain⟨B,C,rfl⟩:=Js e.1;go_wp2_with (at_builtin;refine fI EL g.1 e.1 [B_ (s.extract m s.size)] rfl rfl rfl rfl rfl (by simp[Value.oneCell']) (by omega) ?_;intro p q r a b _;have d:=I a;have c:=I b;clear a b)
 all_goals
  go_ret2;first
  |exact⟨_,_,L,rfl,l.1,e.1,by omega,g.1⟩
  |exact⟨_,_,L++ [s.extract m s.size],rfl,fK l.1 (by simp;omega),by simpa using d.1,by simp;omega,c.1⟩
  |exact⟨_,_, [],rfl,by simp,World.ownsRow_nil _ _ _ _,by simp,by first|exact c.1|exact g.1⟩
def lN(c:Int):Bool:=(decide (97<=c)&&decide (c<=122)) || (decide (48<=c)&&decide (c<=57)) || c==95 || c==46 || c==58 || c==64
def DK(c:Int)(w:Wd):CE 189 #[.int .u8 c] w (.bool (lN c)):=by
 delta CE;go_in;go_wp2_with fail
 all_goals
  go_ret;exact⟨Ip (by first|(simp[lN];omega)|simp_all [lN]),rfl⟩
def EV(m:Nat)(w:Wd)(e:Ending)(w':Wd):Prop:=∃(v:Value) (p k:Int) (L:List (LV)),e=.returned (.tuple #[v,p,k])/\(∀c∈L,Oe m c)/\w'.ownsRow w.heap.size 290 4 v L.length L.flatten/\L.length<=400/\Below w.heap.size w w'
theorem ZJ(s:BA)(w:Wd)(hs:s.size<=20000):Calls prog 120 #[.string s] w (EV s.size w):=by
 go_in
 go_wp2_with fail;go_loopw [5,6] (λv i wr=>∃(j:Nat) (L:List (LV)),j<=s.size/\i=Bn j/\L.length<=400/\Af (∀c∈L,Oe s.size c)/\Af (wr.ownsRow w.heap.size 290 4 v L.length L.flatten)/\Af (Bw w wr)) (λ_ i _=>s.size-(intOf i).toNat)
 case atStart=>exact⟨0, [],Bg _,rfl,by simp,I (λ_ h=>by cases h),I (World.ownsRow_nil _ _ _ _),I (An _ _)⟩
 obtain⟨j,L,hj,rfl,hL,Y,x,y⟩:=hrel;obtain⟨va,vc,rfl⟩:=Js x.1;by_cases a7:j<s.size
 . by_cases z:(s[j].toNat:Int)=35
   . have a0:=bMa z
     go_wp2;go_ret3
     exact⟨_,_,_,L,rfl,Y.1,x.1,hL,y.1⟩
   have a0:=CN z
   clear z;by_cases A:(s[j].toNat:Int)=32
   . have a1:=bTa A
     go_wp2;go_roundw
     case rel=>exact⟨j+1,L,by omega,by go_num,hL,Y,x,y⟩
     case measure=>simp[intOf];omega
   have a1:=RZ A
   clear A;go_wp2_with fail;refine cb (DK _ _) ?_;have B:∀g,(Value.slice va L.length vc).ownBlock=some g->g≠wr.heap.size:=λg e=>by have:=(x.1.lt g e).2;omega
   have l:=I (zh wr jT);have O2:=I (x.1.alloc jT);have B2:=I (y.1.alloc y.1.size jT);obtain⟨o,p⟩:=aT wr.heap.size;have C:w.heap.size<=o:=by rw[p];exact y.1.size
   rw[<-p]at l B;simp only[<-p];have D:=I B;clear p B x y;generalize wr.alloc jT=W at*;have d:∃b,b=lN (s[j].toNat:Int):=⟨_,rfl⟩;obtain⟨b,d⟩:=d;have a2:=I d;simp only[<-d];clear d;go_upto_if 29 with fail
   go_cut [8,9] (λok n wx=>∃(b:Bool) (m:Nat) (k f a:Int) (t:BA),ok=.bool b/\n=Bn m/\j+m<=s.size/\(b=true->0<m)/\Af (wx.heap[o]?=some (.cells #[k,.string t,f,a] 290 (0,0)))/\Af (Oe s.size [Bn k,.string t,Bn f,Bn a])/\Af (wx.ownsRow w.heap.size 290 4 (.slice va L.length vc) L.length L.flatten)/\Af (Bw w wx))
   case first=>
    obtain⟨F,H,K,M⟩:=Yl l.1;have y0:=CH l.1;have Z:=CH l.1;have N:=Ag l.1;cases b
    . go_wp2_with fail;refine(ZI (s.extract j s.size) W (by simp;omega) (by simp;omega)).mono ?_;rintro e w1 ⟨t,rfl,ht,rfl⟩;have a8:t.size<=s.size-j:=by simpa using ht
      clear ht;obtain⟨Q,G⟩:=dO l.1 (Bn 5) (.string t) (Bn 0) (Bn 0);have q:=I Q;have P:=I G;clear Q G;go_wp2;go_meet
      case rel=>exact⟨_,t.size,5,0,0,t,rfl,rfl,by omega,λh=>by simpa using h,q,I ⟨_,_,_,_,rfl,by omega,rfl⟩,I (O2.1.kept P.1 (.inr λe=>D.1 o e rfl)),I (B2.1.grown P.1 (by omega) (λk e=>by cases e;exact C))⟩
    go_wp2_with fail;go_loop [9] (λn=>∃m:Nat,n=Bn m/\j+m<=s.size) (λn=>s.size-(intOf n).toNat)
    case atStart=>exact⟨0,rfl,by omega⟩
    obtain⟨m,rfl,hm⟩:=hrel;go_wp2_with (refine cb (DK _ _) ?_)
    all_goals first
    |(go_round
      case rel=>exact⟨m+1,by go_num,by omega⟩
      case measure=>simp[intOf];omega)
    |skip
    all_goals
     have R:0<m:=by
      rcases Nat.eq_zero_or_pos m with h0|h0
      . subst h0;first|omega|(have:=a2.1;simp_all)
      exact h0
     clear F H K M y0 Z N;refine(ZG (s.extract j (j+m)) W (by simp;omega) (by simp;omega)).mono ?_;rintro e w3 ⟨k,f,a,t,b,rfl,S,r⟩;have E:=fO l r;have O3:=I (Sh O2.1 B2.1 r);have B3:=fE B2 r
     have HT:=I (show Oe s.size _ from by
      obtain⟨k',n',a',t',e,h1,h2⟩:=S;exact⟨k',n',a',t',e,by simp at h1;omega,h2⟩)
     obtain⟨F,H,K,M⟩:=Yl E.1;have y0:=CH E.1;have Z:=CH E.1;have N:=Ag E.1;obtain⟨Q,G⟩:=dO E.1 (Bn k) (.string t) (Bn f) (Bn a);have q:=I Q;have P:=I G;clear Q G S r;go_wp2;go_meet
     case rel=>exact⟨b,m,k,f,a,t,rfl,rfl,by omega,λ_=>R,q,HT,I (O3.1.kept P.1 (.inr λe=>D.1 o e rfl)),I (B3.1.grown P.1 (by have:=B3.1.size;omega) (λk e=>by cases e;exact C))⟩
   obtain⟨b,m,k,f,a,t,rfl,rfl,hm,hb,q,HT,HO,T⟩:=hcut;cases b
   . go_wp2;go_ret3
     exact⟨_,_,_, [],rfl,by simp,World.ownsRow_nil _ _ _ _,by simp,T.1⟩
   have R:0<m:=hb rfl;clear hb;by_cases a6:400<=L.length
   . go_wp2;go_ret3
     exact⟨_,_,_, [],rfl,by simp,World.ownsRow_nil _ _ _ _,by simp,T.1⟩
   obtain⟨F,H,K,M⟩:=Yl q.1;have Z:=CH q.1;have N:=Ag q.1;have G:=Lib.grownBy_setCell wc o 3 (Bn j);have O4:=I (HO.1.kept G (.inr λe=>D.1 o e rfl));have B4:=I (T.1.grown G (by have:=T.1.size;omega) (λk e=>by cases e;exact C))
   have a3:=I (show Oe s.size [Bn k,.string t,Bn f,Bn j] from by
    obtain⟨k',n',a',t',e,h1,h2⟩:=HT.1;cases e;exact⟨k,f,j,t,rfl,h1,h2⟩)
   have U:=I (zg (i:=3) (u:=Bn j) q.1);clear G HO T HT q;go_upto_region 20 with fail
   clear F H K M Z N;generalize wc.setCell (aD o 3) (Bn j)=W5 at*;obtain⟨F,H,K,M⟩:=Yl (v3:=Bn j) U.1;have N:=Ag U.1;go_wp2_with (at_builtin;refine fI Xj B4.1 O4.1 [Bn k,.string t,Bn f,Bn j] rfl rfl rfl rfl rfl (by simp[Value.oneCell']) (by omega) ?_;intro b1 c1 w1 V X _;have a4:=I V;have a5:=I X;clear V X)
   go_roundw
   case rel=>exact⟨j+m,L++ [[Bn k,.string t,Bn f,Bn j]],by omega,by go_num,by simp;omega,I (fK Y.1 a3.1),I (by simpa using a4.1),a5⟩
   case measure=>simp[intOf];omega
 obtain rfl:j=s.size:=by omega
 go_wp2;go_ret3
 exact⟨_,_,_,L,rfl,Y.1,x.1,hL,y.1⟩
theorem sC(x:Int):∃r:Nat,r<=65535/\bits .and .i64 x 65535=(r:Int):=by
 refine⟨(BitVec.ofInt 64 x &&& BitVec.ofInt 64 65535).toNat,?_,?_⟩;exact Bf Nat.and_le_right (by decide);have h:(BitVec.ofInt 64 x &&& BitVec.ofInt 64 65535).toNat<=65535:=by
  rw[BitVec.toNat_and];exact Bf Nat.and_le_right (by decide)
 show IntKind.i64.wrap ((BitVec.ofInt 64 x &&& BitVec.ofInt 64 65535).toNat:Int)=_;rw[wI];omega
def EM(i:Nat)(w:Wd)(e:Ending)(w':Wd):Prop:=∃r:Nat,e=.returned r/\r<=65535+i/\Below w.heap.size w w'
def Ng(c:LI)(a:Ae)(cap:Nat)(w:Wd)(m:Al RT.int w a c)(E:c.length<=140737488355328)(i:Nat)(F:i<=10000):
 Calls prog 30 #[CU a c.length cap,i] w (EM i w):=by
 by_cases k:c.length=0
 . have o:((c.length:Int)==0)=true:=by simp[k]
   have⟨r,x,y⟩:=sC (i:Int);go_in;go_wp2;go_ret;exact⟨r,rfl,by omega,An _ _⟩
 have o:((c.length:Int)==0)=false:=by simpa using k
 obtain⟨b,l,rfl,z,p⟩:=m.at (by omega);have s:i%c.length<c.length:=Nat.mod_lt _ (by omega);obtain⟨G,f,rfl,A⟩:=p (i%c.length) s;have h:=f 0 (by simp);have⟨v,t⟩:=aT (c[i%c.length]);rw[<-t]at h;have⟨r,x,y⟩:=sC v;have⟨n,g⟩:=aT c.length;have⟨j,d⟩:=aT (i%n);have⟨q,e⟩:=aT (i/n);have B:q<=i:=by rw[e];exact Nat.div_le_self _ _
 have H:(i:Int).tmod n=j:=by rw[d];rfl
 have K:(i:Int).tdiv n=q:=by rw[e];rfl
 have C:(j:Int)<n:=by rw[d,g];omega
 have u:j<n:=by rw[d,g];omega
 have L:IntKind.i64.wrap ((r:Int)+q)=r+q:=by rw[wI];omega
 have D:¬ n=0:=by omega
 rw[<-g,<-d]at h;have M:w.cell? (aD b (l+j))=some (.int .i64 v):=by simpa[RT.int] using h
 simp only[<-g]at o ⊢;clear h p f A t s m d e k g;go_in;go_wp2;go_quiet (fail);go_wp2;go_ret;exact⟨r+q,rfl,by omega,dN (An _ _) _⟩
def Vl(m:Nat)(cs:Array Value):Bool:=cs.toList.all λv=>match v with
 | .string s=>Nat.ble s.size m
 |_=>false
def Wj(h:w.heap[g]?=some (.cells a T f))(c:Vl m a=true){k:Nat}(d:k<a.size):∃s:BA,w.cell? (aD g k)=some (B_ s)/\s.size<=m:=by
 have b:=List.all_eq_true.1 c a[k] (by simp);cases e:a[k] with
 |string s=>
  rw[e]at b;exact⟨s,zm h (by rw[Array.getElem?_eq_getElem d,e]),Jr b⟩
 |_=>simp[e]at b
def Lm(n m:Nat)(w:Wd)(v:Value):Prop:=∃g,v=.slice (some (aD g 0)) n n/\g<w.heap.size/\∀k,k<n->∃s:BA,w.cell? (aD g k)=some (.string s)/\s.size<=m
def Lm.below(h:Lm n m w v)(b:Bw w w'):Lm n m w' v:=by
 obtain⟨g,rfl,d,e⟩:=h;refine⟨g,rfl,As d b.size,λk hk=>?_⟩;have⟨s,c,f⟩:=e k hk;exact⟨s,(World.cell?_of_block (a:=aD g k) (b.block g d)).trans c,f⟩
def Lm.of(h:w.heap[g]?=some (.cells a T f))(b:Vl m a=true)(c:a.size=n):Lm n m w (Kx g 0 n n):=
 ⟨g,rfl,Ag h,λk hk=>Wj h b (by omega)⟩
def Tx(n m:Nat)(w:Wd)(e:Ending)(w':Wd):Prop:=∃v,e=.returned v/\Lm n m w' v/\Below w.heap.size w w'
def ED(w:Wd):Calls prog 70 #[] w (Tx 3 3 w):=by
 go_in;go_wp2;go_ret;exact⟨_,rfl,Lm.of (zh _ _) rfl rfl,J _ _⟩
def YO(w:Wd):Calls prog 123 #[] w (Tx 18 100 w):=by
 go_in;go_wp2;go_ret;exact⟨_,rfl,Lm.of (zh _ _) (by kernel_rfl) rfl,J _ _⟩
def ZE(w:Wd):Calls prog 124 #[] w (Tx 10 100 w):=by
 go_in;go_wp2;go_ret;exact⟨_,rfl,Lm.of (zh _ _) (by kernel_rfl) rfl,J _ _⟩
def YI(w:Wd):Calls prog 125 #[] w (Tx 3 100 w):=by
 go_in;go_wp2;go_ret;exact⟨_,rfl,Lm.of (zh _ _) (by kernel_rfl) rfl,J _ _⟩
def Hp(n:Nat)(v:Value):Prop:=∃s:BA,v=.string s/\s.size<=n
def Jt(n:Nat)(v:Value)(w:Wd):Prop:=∃(g k:Nat) (s:BA),v=.pointer (some (aD g k))/\w.cell? (aD g k)=some (.string s)/\s.size<=n
def Jt.below(h:Jt n v w)(c:Bw w w'):Jt n v w':=by
 obtain⟨g,k,s,d,b,e⟩:=h;exact⟨g,k,s,d,(World.cell?_of_block (a:=aD g k) (c.block g (bK w _ b))).trans b,e⟩
def Wk(r m:Nat):(r:Int).tmod (m:Int)=((r%m:Nat):Int):=rfl
theorem zzM(b:LI)(a:Ae)(cap:Nat)(w:Wd)(c:Al RT.int w a b)(d:b.length<=2^47)(z:Int)(f:0<=z)(g:z<=100):Calls prog 30 #[CU a b.length cap,z] w λe w'=>∃r:Nat,e=.returned r/\r<=100000/\Bw w w':=by
 obtain⟨i,rfl⟩:=Int.eq_ofNat_of_zero_le f;refine(Ng b a cap w c d i (by omega)).mono ?_;rintro j k ⟨r,rfl,l,h⟩;grind
def zzI(s:BA)(h:s.size<=100000):(∀m:Nat,m<=1000->¬ 9223372036854775807<m+s.size)/\(∀m:Nat,m<=1000->¬ 9223372036854775807<s.size+m):=⟨λm hm=>by omega,λm hm=>by omega⟩
def mD(w:Wd)(e:Ending)(w':Wd):Prop:=∃s:BA,e=.returned (.string s)/\s.size<=10000/\Below w.heap.size w w'
def ZH(j:LI)(a:Ae)(cap:Nat)(w:Wd)(hz:Al RT.int w a j)(H:j.length<=2^47):Calls prog 72 #[CU a j.length cap] w (mD w):=by
 have o:=I hz;go_in;go_upto_region 1 with fail
 refine' Gf [⟨9, [],.bs 3 3 (.cells #[B_ ⟨#[48,58,48,48]⟩,B_ ⟨#[48,58,52,53]⟩,B_ ⟨#[49,58,48,48]⟩] 9)⟩,⟨10, [],.kn (CU a j.length cap)⟩,⟨11, [10],.pu λv=>∃r:Nat,v=Bn r/\r<=100000⟩,⟨12, [11],.pu λv=>∃r:Nat,v=Bn r/\r<3⟩,⟨13, [9,12],.ow (Jt 20) (λ_ _ _=>Jt.below)⟩,⟨14, [13],.pu (Hp 20)⟩,⟨15, [14],.pu (Hp 27)⟩,⟨16, [15],.pu (Hp 36)⟩,⟨17, [],.bs 3 3 (.cells #[B_ ⟨#[48,58,48,48]⟩,B_ ⟨#[48,58,49,53]⟩,B_ ⟨#[48,58,51,48]⟩] 9)⟩,⟨18, [],.kn (CU a j.length cap)⟩,⟨19, [18],.pu λv=>∃r:Nat,v=Bn r/\r<=100000⟩,⟨20, [19],.pu λv=>∃r:Nat,v=Bn r/\r<3⟩,⟨21, [17,20],.ow (Jt 20) (λ_ _ _=>Jt.below)⟩,⟨22, [21],.pu (Hp 20)⟩,⟨23, [16,22],.pu (Hp 56)⟩,⟨24, [23],.pu (Hp 65)⟩,⟨25, [],.bs 3 3 (.cells #[B_ ⟨#[48,58,51,48]⟩,B_ ⟨#[48,58,52,48]⟩,B_ ⟨#[48,58,49,53]⟩] 9)⟩,⟨26, [],.kn (CU a j.length cap)⟩,⟨27, [26],.pu λv=>∃r:Nat,v=Bn r/\r<=100000⟩,⟨28, [27],.pu λv=>∃r:Nat,v=Bn r/\r<3⟩,⟨29, [25,28],.ow (Jt 20) (λ_ _ _=>Jt.below)⟩,⟨30, [29],.pu (Hp 20)⟩,⟨31, [24,30],.pu (Hp 85)⟩,⟨3, [31],.pu (Hp 85)⟩] [0] [3] (λ_ h=>I (o.1.below h)) ?h1 ?c1 ?f1
 case h1=>
  intro u;simp only[Df,↓reduceIte,Nat.reduceEqDiff];intros;refine⟨?_,?_,?_,?_,?_,?_,?_,?_,?_,?_,?_,?_,?_,?_,?_,?_,?_,?_,?_,?_,?_,?_,?_,?_,trivial⟩
  all_goals try (intros;rename_i k0;refine Fy k0 ?_;go_simp <;> rfl)
  all_goals first
   |(intro A d e b g K k;go_simp;exact k.1 _ _ ⟨J _ _,rfl,zh _ _⟩)
   |(intro A d e b g f1 K k;go_simp;refine(zzM j a cap d g.1 H _ (by decide) (by decide)).mono ?_;rintro e' w2 ⟨r,rfl,h2,h⟩;exact k.1 _ _ ⟨h,r,rfl,h2⟩)
   |(rintro A d e b g ⟨r,h1,h2⟩ K k;have F:=Wk r 3;go_simp;exact k.1 _ _ ⟨An _ _,r%3,rfl,Nat.mod_lt _ (by decide)⟩)
   |(rintro A d e b g ⟨p,h1,_,h2⟩ ⟨r,U,V⟩ K k;have h5:(r:Int)<3:=(by omega);have⟨s,c,B⟩:=Wj (m:=20) h2 rfl V;go_simp;exact k.1 _ _ ⟨An _ _,p,r,s,rfl,c,B⟩)
   |(rintro A d e b g ⟨p,r,s,h1,c,B⟩ K k;have H:=bK _ _ c;go_simp;exact k.1 _ _ ⟨An _ _,s,rfl,B⟩)
   |(rintro A d e b g ⟨f,h1,C⟩ K k;have⟨q,T⟩:=zzI f (Bf C (by decide));go_simp;refine k.1 _ _ ⟨An _ _,_,rfl,?_⟩;simp only[ByteArray.size_append];simp only[ByteArray.size,List.size_toArray,List.length_cons,List.length_nil] at*;omega)
   |(rintro A d e b g ⟨f,h1,C⟩ ⟨W,h2,b2⟩ K k;have q:¬ 9223372036854775807<f.size+W.size:=(by omega);go_simp;refine k.1 _ _ ⟨An _ _,_,rfl,?_⟩;simp only[ByteArray.size_append];simp only[ByteArray.size,List.size_toArray,List.length_cons,List.length_nil] at*;omega)
   |(rintro A d e b g ⟨f,h1,C⟩ K k;go_simp;exact k.1 _ _ ⟨An _ _,f,rfl,C⟩)
 case c1=>kernel_rfl
 intro u d b;simp only[Df,Hu,Act.put,O,↓reduceIte,Nat.reduceEqDiff];rintro⟨s0,e0,h0⟩;rw[e0];have L:=I (o.1.below b);have N:=I b;go_upto_region 2 with fail;refine' Gf [⟨32, [],.pu (Hp 85)⟩,⟨33, [32],.pu (Hp 90)⟩,⟨34, [],.bs 3 3 (.cells #[B_ ⟨#[51,58,48,48]⟩,B_ ⟨#[50,52,58,48,48]⟩,B_ ⟨#[49,58,48,48]⟩] 9)⟩,⟨35, [],.kn (CU a j.length cap)⟩,⟨36, [35],.pu λv=>∃r:Nat,v=Bn r/\r<=100000⟩,⟨37, [36],.pu λv=>∃r:Nat,v=Bn r/\r<3⟩,⟨38, [34,37],.ow (Jt 20) (λ_ _ _=>Jt.below)⟩,⟨39, [38],.pu (Hp 20)⟩,⟨40, [33,39],.pu (Hp 110)⟩,⟨41, [40],.pu (Hp 119)⟩,⟨42, [],.bs 3 3 (.cells #[B_ ⟨#[50,52,58,48,48]⟩,B_ ⟨#[49,54,58,48,48]⟩,B_ ⟨#[51,54,58,48,48]⟩] 9)⟩,⟨43, [],.kn (CU a j.length cap)⟩,⟨44, [43],.pu λv=>∃r:Nat,v=Bn r/\r<=100000⟩,⟨45, [44],.pu λv=>∃r:Nat,v=Bn r/\r<3⟩,⟨46, [42,45],.ow (Jt 20) (λ_ _ _=>Jt.below)⟩,⟨47, [46],.pu (Hp 20)⟩,⟨48, [41,47],.pu (Hp 139)⟩,⟨49, [48],.pu (Hp 146)⟩,⟨50, [],.bs 3 3 (.cells #[B_ ⟨#[64,50,50,58,48,48,32,116,111,32,64,48,54,58,48,48]⟩,B_ ⟨#[64,48,48,58,48,48,32,116,111,32,64,48,53,58,48,48]⟩,B_ ⟨#[64,49,50,58,48,48,32,116,111,32,64,49,50,58,48,48]⟩] 9)⟩,⟨51, [],.kn (CU a j.length cap)⟩,⟨52, [51],.pu λv=>∃r:Nat,v=Bn r/\r<=100000⟩,⟨53, [52],.pu λv=>∃r:Nat,v=Bn r/\r<3⟩,⟨54, [50,53],.ow (Jt 20) (λ_ _ _=>Jt.below)⟩,⟨55, [54],.pu (Hp 20)⟩,⟨56, [49,55],.pu (Hp 166)⟩,⟨57, [56],.pu (Hp 183)⟩,⟨58, [],.bs 3 3 (.cells #[B_ ⟨#[50]⟩,B_ ⟨#[55,32,47,32,50]⟩,B_ ⟨#[45,40,49,41]⟩] 9)⟩,⟨59, [],.kn (CU a j.length cap)⟩,⟨60, [59],.pu λv=>∃r:Nat,v=Bn r/\r<=100000⟩,⟨61, [60],.pu λv=>∃r:Nat,v=Bn r/\r<3⟩,⟨62, [58,61],.ow (Jt 20) (λ_ _ _=>Jt.below)⟩,⟨63, [62],.pu (Hp 20)⟩,⟨64, [57,63],.pu (Hp 203)⟩,⟨65, [64],.pu (Hp 204)⟩,⟨1034, [65],.pu (Hp 204)⟩] [0,3] [1034] (λ_ h=>I (L.1.below h)) ?h2 ?c2 ?f2
 case h2=>
  intro u;simp only[Df,↓reduceIte,Nat.reduceEqDiff];intros;refine⟨?_,?_,?_,?_,?_,?_,?_,?_,?_,?_,?_,?_,?_,?_,?_,?_,?_,?_,?_,?_,?_,?_,?_,?_,?_,?_,?_,?_,?_,?_,?_,?_,?_,?_,?_,trivial⟩
  all_goals try (intros;rename_i k0;refine Fy k0 ?_;go_simp <;> rfl)
  intro A d e b g K k;go_simp;exact k.1 _ _ ⟨An _ _,_,rfl,h0⟩
  all_goals first
   |(intro A d e b g K k;go_simp;exact k.1 _ _ ⟨J _ _,rfl,zh _ _⟩)
   |(intro A d e b g f1 K k;go_simp;refine(zzM j a cap d g.1 H _ (by decide) (by decide)).mono ?_;rintro e' w2 ⟨r,rfl,h2,h⟩;exact k.1 _ _ ⟨h,r,rfl,h2⟩)
   |(rintro A d e b g ⟨r,h1,h2⟩ K k;have F:=Wk r 3;go_simp;exact k.1 _ _ ⟨An _ _,r%3,rfl,Nat.mod_lt _ (by decide)⟩)
   |(rintro A d e b g ⟨p,h1,_,h2⟩ ⟨r,U,V⟩ K k;have h5:(r:Int)<3:=(by omega);have⟨s,c,B⟩:=Wj (m:=20) h2 rfl V;go_simp;exact k.1 _ _ ⟨An _ _,p,r,s,rfl,c,B⟩)
   |(rintro A d e b g ⟨p,r,s,h1,c,B⟩ K k;have H:=bK _ _ c;go_simp;exact k.1 _ _ ⟨An _ _,s,rfl,B⟩)
   |(rintro A d e b g ⟨f,h1,C⟩ K k;have⟨q,T⟩:=zzI f (Bf C (by decide));go_simp;refine k.1 _ _ ⟨An _ _,_,rfl,?_⟩;simp only[ByteArray.size_append];simp only[ByteArray.size,List.size_toArray,List.length_cons,List.length_nil] at*;omega)
   |(rintro A d e b g ⟨f,h1,C⟩ ⟨W,h2,b2⟩ K k;have q:¬ 9223372036854775807<f.size+W.size:=(by omega);go_simp;refine k.1 _ _ ⟨An _ _,_,rfl,?_⟩;simp only[ByteArray.size_append];simp only[ByteArray.size,List.size_toArray,List.length_cons,List.length_nil] at*;omega)
   |(rintro A d e b g ⟨f,h1,C⟩ K k;go_simp;exact k.1 _ _ ⟨An _ _,f,rfl,C⟩)
 case c2=>kernel_rfl
 intro u1 w2 b;simp only[Df,Hu,Act.put,O,↓reduceIte,Nat.reduceEqDiff];rintro⟨f,F,h1⟩;rw[F];have P:=I (L.1.below b);have Q:=fE N b;go_wp2_with fail;refine(YO _).mono ?_;rintro e w3 ⟨v,rfl,t,b⟩;have M:=t;obtain⟨g,rfl,-⟩:=M;have x:=I t;have X:=I (P.1.below b);have Y:=fE Q b;go_wp2_with fail;go_loopw [3,5] (λv i wr=>∃(k:Nat) (s:BA),k<=18/\i=Bn k/\v=B_ s/\s.size<=204+101*k/\Af (Lm 18 100 wr (Kx g 0 18 18))/\Af (Al RT.int wr a j)/\Af (Bw w wr)) (λ_ i _=>18-(intOf i).toNat);exact⟨0,f,by omega,rfl,rfl,by omega,x,X,Y⟩;obtain⟨k,s,hk,rfl,rfl,B,x,o,D⟩:=hrel;by_cases E:k<18
 . have R:(k:Int)<18:=by omega
   go_wp2_with fail;refine(Ng j a cap wr o.1 H (7+k) (by omega)).mono ?_;rintro e w5 ⟨r,rfl,hr,b⟩;have y:=I (o.1.below b);have l:=fE D b;have t:=x.1.below b;have z:=I t;obtain⟨g1,F,hg,G⟩:=t;cases F;have⟨f,c1,Z⟩:=G k E;have q1:¬ 9223372036854775807<s.size+f.size:=by omega
   have T:¬ 9223372036854775807<s.size+f.size+1:=by omega
   go_wp2_with fail
   all_goals
    go_roundw
    case rel=>
     first
     |exact⟨k+1,s,by omega,by go_num,rfl,by omega,z,y,l⟩
     |exact⟨k+1,_,by omega,by go_num,rfl,(by simp only[ByteArray.size_append];simp only[ByteArray.size,List.size_toArray,List.length_cons,List.length_nil] at*;omega),z,y,l⟩
    case measure=>simp[intOf];omega
 obtain rfl:k=18:=by omega
 go_wp2_with fail;refine(ZE _).mono ?_;rintro e w4 ⟨v,rfl,t,b⟩;have M:=t;obtain⟨g2,rfl,-⟩:=M;have a4:s.size<=2022:=by omega
 have a0:=I (o.1.below b);have a1:=fE D b;have x:=I t;go_wp2_with fail;go_loopw [3,7] (λv i wr=>∃(k:Nat) (s:BA),k<=10/\i=Bn k/\v=B_ s/\s.size<=2022+101*k/\Af (Lm 10 100 wr (Kx g2 0 10 10))/\Af (Al RT.int wr a j)/\Af (Bw w wr)) (λ_ i _=>10-(intOf i).toNat);exact⟨0,s,by omega,rfl,rfl,by omega,x,a0,a1⟩;obtain⟨k,s,hk,rfl,rfl,B,x,o,D⟩:=hrel;by_cases E:k<10
 . have R:(k:Int)<10:=by omega
   go_wp2_with fail;refine(Ng j a cap wr o.1 H (30+k) (by omega)).mono ?_;rintro e w5 ⟨r,rfl,hr,b⟩;have y:=I (o.1.below b);have l:=fE D b;have t:=x.1.below b;have z:=I t;obtain⟨g1,F,hg,G⟩:=t;cases F;have⟨f,c1,Z⟩:=G k E;have q1:¬ 9223372036854775807<s.size+f.size:=by omega
   have T:¬ 9223372036854775807<s.size+f.size+1:=by omega
   go_wp2_with fail
   all_goals
    go_roundw
    case rel=>
     first
     |exact⟨k+1,s,by omega,by go_num,rfl,by omega,z,y,l⟩
     |exact⟨k+1,_,by omega,by go_num,rfl,(by simp only[ByteArray.size_append];simp only[ByteArray.size,List.size_toArray,List.length_cons,List.length_nil] at*;omega),z,y,l⟩
    case measure=>simp[intOf];omega
 obtain rfl:k=10:=by omega
 go_wp2_with fail;refine(Ng j a cap wr o.1 H 41 (by omega)).mono ?_;rintro e w5 ⟨r,rfl,hr,b⟩;have l:=fE D b;obtain⟨S,e4⟩:∃n:Nat,(r:Int)%4=n:=⟨r%4,rfl⟩;have a5:S<4:=by omega
 by_cases U:S<3
 . have a2:(S:Int)<3:=by omega
   go_wp2_with fail;refine(YI _).mono ?_;rintro e w6 ⟨v,rfl,t,b⟩;obtain⟨g3,rfl,hg,G⟩:=t;have⟨s3,c3,a6⟩:=G S U;have q1:¬ 9223372036854775807<s.size+s3.size:=by omega
   have T:¬ 9223372036854775807<s.size+s3.size+1:=by omega
   have a3:=fE l b;go_wp2;go_ret;exact⟨_,rfl,(by simp only[ByteArray.size_append];simp only[ByteArray.size,List.size_toArray,List.length_cons,List.length_nil] at*;omega),a3.1⟩
 have a2:¬ (S:Int)<3:=by omega
 go_wp2;go_ret;exact⟨_,rfl,by omega,l.1⟩
