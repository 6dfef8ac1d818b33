/- a part of the proof -/
import Derived.Test.YtafdcbmgdfliiaaGreatG6
set_option linter.all false
set_option maxRecDepth 100000
set_option maxHeartbeats 3000000
namespace Go.Proofs.YtafdcbmgdfliiaaGreat
open Go.RowKit Go.Sort Go.Proofs.Tryz
variable {S fc k o:Nat}{W a c d e g r w w':Wd}{V f i j l m v:Value}{U:Nat->Value}{L:Nat->List (BA×zE)}{M:Nat->List zE}{b:Option Nat}{fa:Ae}{G:Prop}
structure Fb where
 t:At
 c:Ad
 za:Option Addr
 zc:Nat
 aa:Option Addr
 ac:Nat
 fa:Option Addr
 fc:Nat
 p:Bd
 zb:Nat
 sb:Nat
 cb:Nat
 kp:Nat
 ib:Nat
 vb:Nat
 ps:List Nat
 B:Nat
 BASE:Nat
def Nl(n:Fb)(U:Nat->Value)(nb:Bool):Array Value:=#[.slice n.za n.t.zn.length n.zc,.slice n.aa n.t.ai.length n.ac,.slice n.fa n.t.fs.length n.fc,Bn n.c.rp,Bn n.c.rl,Bn n.c.cn,Bn n.c.sit,Bn n.c.lv,Bn n.c.nf,Bn n.c.nt,.slice n.p.ca n.c.cs.length n.p.cc,.slice n.p.ra n.c.rs.length n.p.rc,.slice n.p.ka n.c.ks.length n.p.kc,.slice n.p.xa n.c.xs.length n.p.xc,.slice n.p.la n.c.ls.length n.p.lc,.slice n.p.oa n.c.oz.length n.p.oc,Bn n.c.gu,.map (some n.zb),U 0,U 1,U 2,U 3,U 4,U 5,U 6,U 7,U 8,.bool nb]
def TL(n:Fb)(U:Nat->Value)(a:Bool)(b:k<9)(v:Value):(Nl n U a).setIfInBounds (18+k) v=Nl n (upd U k v) a:=by
 rcases k with _|_|_|_|_|_|_|_|_|k
 all_goals first|omega|(simp[Nl,upd])
def Vu(n:Fb)(U:Nat->Value)(a:Bool)(b:k<9):(Nl n U a)[18+k]?=some (U k):=by
 rcases k with _|_|_|_|_|_|_|_|_|k
 all_goals first|omega|rfl
structure Bp(n:Fb)(w w6 wr:Wd)(U:Nat->Value)(L:Nat->List (BA×zE))(M:Nat->List zE)(nb:Bool):Prop where
 box:wr.heap[n.sb]?=some (.cells (Nl n U nb) 165 (0,0))
 rul:∀k,k<4->∃cs,wr.ownsRow n.BASE 177 4 (U k) (L k).length cs/\Gl (XV n.BASE U) wr cs (L k)
 cos:∀k,k<5->∃cs,wr.ownsRow n.BASE 174 3 (U (4+k)) (M k).length cs/\En (XV n.BASE U) wr cs (M k)
 apart:bT U
 cmp:Ir n.B wr n.kp n.ib n.vb n.ps n.c.cs n.p.ca n.p.cc
 con:wr.heap[n.cb]?=some (.cells (Wb n.c n.p) 35 (0,0))
 mz:wr.heap[n.zb]?=w6.heap[n.zb]?
 zlt:n.zb<n.BASE
 bel:Below n.B w wr
 size:n.BASE<=wr.heap.size
 bs:n.B<=n.BASE
 fix:n.sb<n.BASE/\n.cb<n.BASE/\n.kp<n.BASE/\n.ib<n.BASE/\n.vb<n.BASE/\(∀k,k<4->Nj n.ps k<n.BASE)/\n.B<=n.sb/\n.B<=n.vb
 ne:n.sb≠n.vb/\n.sb≠n.cb/\n.sb≠n.zb/\n.sb≠n.kp/\n.sb≠n.ib/\(∀k,k<4->Nj n.ps k≠n.sb)/\n.cb≠n.vb/\n.zb≠n.vb
def Bp.owns{n:Fb}{f:Wd}{g:Bool}(h:Bp n w f c U L M g)(j:k<9){b:Nat}(d:(U k).ownBlock=some b):n.BASE<=b/\b<c.heap.size:=by
 by_cases e:k<4;have⟨i,a,_⟩:=h.rul k e;exact a.lt b d;have⟨i,a,_⟩:=h.cos (k-4) (by omega);rw[show 4+(k-4)=k by omega]at a;exact a.lt b d
theorem Bp.move{n:Fb}{m f:Wd}{o:Bool}(h:Bp n w m f U L M o)(a:f.grownBy w' (some n.vb))(r:Ir n.B w' n.kp n.ib n.vb n.ps n.c.cs n.p.ca n.p.cc):Bp n w m w' U L M o:=by
 have⟨u,v,x,y,z,A,C,s⟩:=h.fix;have⟨D,E,F,G,H,K,N,P⟩:=h.ne;have q:∀b,b<f.heap.size->¬ XV n.BASE U b->w'.heap[b]?=f.heap[b]?:=λb hb hx=>a.block b hb (by simp;intro e;exact hx (.inl (by omega)));have d:∀k,k<9->(U k).ownBlock=none\/(U k).ownBlock≠some n.vb:=λk hk=>.inr (λe=>by have:=h.owns hk e;omega);refine⟨(a.block _ (Ag h.box) (by simp;omega)).trans h.box,λk hk=>?_,λk hk=>?_,h.apart,r,(a.block _ (Ag h.con) (by simp;omega)).trans h.con,(a.block _ (As h.zlt h.size) (by simp;omega)).trans h.mz,h.zlt,h.bel.grown a (Bf h.bs h.size) (λj hj=>by simp_all),Bf h.size a.size,h.bs,h.fix,h.ne⟩;have⟨g,i,l⟩:=h.rul k hk;exact⟨g,i.kept a (d k (by omega)),l.step a.size q (λ_ _ h=>h)⟩;have⟨g,i,l⟩:=h.cos k hk;exact⟨g,i.kept a (d (4+k) (by omega)),l.step a.size q (λ_ _ h=>h)⟩
def Bp.below{n:Fb}{b:Wd}{c:Bool}(h:Bp n w b a U L M c)(d:Bw a w'):Bp n w b w' U L M c:=h.move (zP _ d) (h.cmp.below d)
theorem kG{B:Nat}{V:Nat->Value}(c:k<9)(a:v.ownBlock=(V k).ownBlock\/∃H,S<=H/\v.ownBlock=some H){b:Nat}(d:b<S)(h:XV B (upd V k v) b):XV B V b:=by
 rcases a with a|⟨H,e,a⟩;exact BV (H:=b+1) c (.inl a) (by omega) h;grind[BV]
theorem MS{V:Nat->Value}(h:bT V)(d:k<9)(a:∀i b,i<9->(V i).ownBlock=some b->b<S)(c:v.ownBlock=(V k).ownBlock\/∃H,S<=H/\v.ownBlock=some H):bT (upd V k v):=by
 rcases c with c|⟨H,e,c⟩;exact h.upd (H:=S) d a (.inl c);exact h.upd (H:=H) d (λi b hi hb=>by grind) (.inr c)
structure Fo(n:Fb)(w2 w3:Wd)(U:Nat->Value)(k:Nat)(v:Value):Prop where
 grow:w2.grownBy w3 (U k).ownBlock
 at':v.ownBlock=(U k).ownBlock\/∃H,w2.heap.size<=H/\v.ownBlock=some H
def Fo.block{n:Fb}{e:Bool}(h:Bp n w d a U L M e)(j:k<9)(G:Fo n a c U k v){b:Nat}(f:b<a.heap.size)(g:(U k).ownBlock≠some b)(i:b≠n.sb):(c.setCell (aD n.sb (18+k)) v).heap[b]?=a.heap[b]?:=by
 rw[Below.heap_setCell _ _ _ _ i,G.grow.block b f (Ne.symm g)]
def Bp.grew{n:Fb}{Q o:Wd}{C:Nat->List (BA×zE)}{D:Nat->List zE}{E:Bool}(h:Bp n w Q o U L M E)(f:k<9)(G:Fo n o c U k v) 
 (V:∀i,i<4->i≠k->C i=L i) (W:∀i,i<5->4+i≠k->D i=M i)
 (t:k<4->∃d,(c.setCell (aD n.sb (18+k)) v).ownsRow n.BASE 177 4 v (C k).length d/\Gl (XV n.BASE (upd U k v)) (c.setCell (aD n.sb (18+k)) v) d (C k))
 (u:4<=k->∃d,(c.setCell (aD n.sb (18+k)) v).ownsRow n.BASE 174 3 v (D (k-4)).length d/\En (XV n.BASE (upd U k v)) (c.setCell (aD n.sb (18+k)) v) d (D (k-4))):
 Bp n w Q (c.setCell (aD n.sb (18+k)) v) (upd U k v) C D E:=by
 have⟨X,Y,Z,f4,f5,f6,R,f8⟩:=h.fix;have⟨e1,e2,e3,e4,e5,e6,e7,e8⟩:=h.ne;have a0:=h.size;have g:∀b,(U k).ownBlock=some b->n.BASE<=b/\b<o.heap.size:=λb q=>h.owns f q;have a:∀b,b<n.BASE->(U k).ownBlock≠some b:=λb q e=>by have:=g b e;omega
 have H:o.heap.size<=c.heap.size:=G.grow.size;have x:o.heap.size<=(c.setCell (aD n.sb (18+k)) v).heap.size:=by simpa using H
 have S:∀b,b<o.heap.size->¬ XV n.BASE U b->(c.setCell (aD n.sb (18+k)) v).heap[b]?=o.heap[b]?:=λb q hx=>G.block h f q (λe=>hx (.inr ⟨k,f,e⟩)) (λe=>hx (.inl (by omega)));have y:∀b,b<o.heap.size->XV n.BASE (upd U k v) b->XV n.BASE U b:=λb q hx=>kG f G.at' q hx;have F:o.grownBy c (U k).ownBlock:=G.grow;have z:c.grownBy (c.setCell (aD n.sb (18+k)) v) (some n.sb):=Lib.grownBy_setCell c n.sb (18+k) v;have r:∀i,i<9->i≠k->∀{T:TypeId} {s m:Nat} {d:LV},o.ownsRow n.BASE T s (U i) m d->(c.setCell (aD n.sb (18+k)) v).ownsRow n.BASE T s (U i) m d:=by
  intro i l K T s m d ho;have A:c.ownsRow n.BASE T s (U i) m d:=ho.kept F (by
   cases q:(U i).ownBlock with
   |none=>exact .inl rfl
   |some b=>exact .inr (λe=>K (h.apart i k b l f q e.symm)))
  exact A.kept z (.inr (λe=>by have:=h.owns l e;omega))
 have B:c.heap[n.sb]?=some (.cells (Nl n U E) 165 (0,0)):=by
  rw[F.block _ (Ag h.box) (Ne.symm (a _ X))];exact h.box
 refine⟨?_,λi l=>?_,λi l=>?_,MS h.apart f (λi b l q=>(h.owns l q).2) G.at',?_,?_,?_,h.zlt,?_,Bf h.size x,h.bs,h.fix,h.ne⟩;rw[zg B,TL n U E f v];by_cases e:i=k;subst e;rw[Uq];exact t l;have⟨d,A,N⟩:=h.rul i l;rw[Zo _ _ e,V i l e];exact⟨d,r i (by omega) e A,N.step x S y⟩;by_cases e:4+i=k;have P:k-4=i:=by omega
 have:=u (by omega);rw[P]at this;subst e;rw[Uq];exact this;have⟨d,A,N⟩:=h.cos i l;rw[Zo _ _ e,W i l e];exact⟨d,r (4+i) (by omega) e A,N.step x S y⟩;refine(h.cmp.other F (λj hj=>by have:=g j hj;have:=h.bs;omega) (Ne.symm (a _ Z)) (Ne.symm (a _ f4)) (Ne.symm (a _ f5)) (λk f=>Ne.symm (a _ (f6 k f)))).other z (λj hj=>by cases hj;exact R) (by simp;omega) (by simp;omega) (by simp;omega) (λk f=>by simp;exact e6 k f);rw[G.block h f (Ag h.con) (a _ Y) (by omega)];exact h.con;rw[G.block h f (As h.zlt h.size) (a _ h.zlt) (by omega)];exact h.mz;exact(h.bel.grown F (Bf h.bs h.size) (λj hj=>by have:=g j hj;have:=h.bs;omega)).setCell (p:=aD n.sb (18+k)) R _
def Fj{A:Type}(L:Nat->List A)(k:Nat)(x:A):Nat->List A:=λi=>if i=k then L i++ [x] else L i
def Zf{A:Type}(L:Nat->List A)(k:Nat)(x:A):Fj L k x k=L k++ [x]:=iP rfl
def eR{A:Type}(L:Nat->List A){i:Nat}(x:A)(h:i≠k):Fj L k x i=L i:=iN h
def Bp.rule{n:Fb}{A:Wd}{C:Bool}{f:zE}{D:LV}{s:BA}(j:Bp n w A r U L M C)(T:k<4)(F:s.size<=2^47)(l:r.grownBy d (some n.vb))(u:Ir n.B d n.kp n.ib n.vb n.ps n.c.cs n.p.ca n.p.cc)(K:Gl (XV n.BASE U) d D (L k))(x:Gi (λb=>b<r.heap.size) d fa f.args)(N:f.args.length<=200)(G:Fo n d g U k v)(m:g.ownsRow n.BASE 177 4 v ((L k).length+1) (D++ [B_ s,Bn f.op,Bn f.num,CU fa f.args.length fc])):Bp n w A (g.setCell (aD n.sb (18+k)) v) (upd U k v) (Fj L k (s,f)) M C:=by
 have t:=j.move l u;have a:k<9:=by omega
 have P:=l.size;have E:=j.size;have⟨V,W,X,Y,Z,f6,f7,f8⟩:=t.fix;have y:d.heap.size<=g.heap.size:=G.grow.size;have o:d.heap.size<=(g.setCell (aD n.sb (18+k)) v).heap.size:=by simpa using y
 have Q:∀b,b<d.heap.size->¬ XV n.BASE U b->(g.setCell (aD n.sb (18+k)) v).heap[b]?=d.heap[b]?:=λb hb hx=>G.block t a hb (λe=>hx (.inr ⟨k,a,e⟩)) (λe=>hx (.inl (by omega)));have q:∀b,b<d.heap.size->XV n.BASE (upd U k v) b->XV n.BASE U b:=λb hb hx=>kG a G.at' hb hx;have R:=x.step (X':=XV n.BASE (upd U k v)) (w':=g.setCell (aD n.sb (18+k)) v) o (λb hb hx=>G.block t a hb (λe=>by have:=(j.owns a e).2;omega) (λe=>by omega)) (λb hb hx=>by
  rcases q b hb hx with h|⟨i,z,h⟩
  . show b<r.heap.size;omega
  exact(j.owns z h).2)
 have S:=m.kept (Lib.grownBy_setCell g n.sb (18+k) v) (.inr (λe=>by
  rcases G.at' with h|⟨H,hH,h⟩
  . rw[h]at e;have:=j.owns a e;omega
  rw[h]at e;have e':=Option.some.inj e;omega))
 refine t.grew a G (λi z hne=>eR L _ hne) (λi z hne=>rfl) (λhlt=>?_) (λhge=>?_);rw[Zf,Gh];exact⟨_,S,.snoc (K.step o Q q) F (by omega) R⟩;omega
def Bp.cost{n:Fb}{z:Wd}{A:Bool}{f:zE}{C:LV}(j:Bp n w z r U L M A)(R:k<5)(l:r.grownBy d (some n.vb))(t:Ir n.B d n.kp n.ib n.vb n.ps n.c.cs n.p.ca n.p.cc)(E:En (XV n.BASE U) d C (M k))(u:Gi (λb=>b<r.heap.size) d fa f.args)(F:f.args.length<=200)(G:Fo n d g U (4+k) v)(m:g.ownsRow n.BASE 174 3 v ((M k).length+1) (C++ [Bn f.op,Bn f.num,CU fa f.args.length fc])):Bp n w z (g.setCell (aD n.sb (18+(4+k))) v) (upd U (4+k) v) L (Fj M k f) A:=by
 have s:=j.move l t;have a:(4+k)<9:=by omega
 have K:=l.size;have D:=j.size;have⟨S,T,V,W,X,Y,Z,f8⟩:=s.fix;have x:d.heap.size<=g.heap.size:=G.grow.size;have o:d.heap.size<=(g.setCell (aD n.sb (18+(4+k))) v).heap.size:=by simpa using x
 have N:∀b,b<d.heap.size->¬ XV n.BASE U b->(g.setCell (aD n.sb (18+(4+k))) v).heap[b]?=d.heap[b]?:=λb hb hx=>G.block s a hb (λe=>hx (.inr ⟨(4+k),a,e⟩)) (λe=>hx (.inl (by omega)));have q:∀b,b<d.heap.size->XV n.BASE (upd U (4+k) v) b->XV n.BASE U b:=λb hb hx=>kG a G.at' hb hx;have P:=u.step (X':=XV n.BASE (upd U (4+k) v)) (w':=g.setCell (aD n.sb (18+(4+k))) v) o (λb hb hx=>G.block s a hb (λe=>by have:=(j.owns a e).2;omega) (λe=>by omega)) (λb hb hx=>by
  rcases q b hb hx with h|⟨i,y,h⟩
  . show b<r.heap.size;omega
  exact(j.owns y h).2)
 have Q:=m.kept (Lib.grownBy_setCell g n.sb (18+(4+k)) v) (.inr (λe=>by
  rcases G.at' with h|⟨H,hH,h⟩
  . rw[h]at e;have:=j.owns a e;omega
  rw[h]at e;have e':=Option.some.inj e;omega))
 refine s.grew a G (λi y hne=>rfl) (λi y hne=>eR M _ (by omega)) (λhlt=>?_) (λhge=>?_);omega;rw[Nat.add_sub_cancel_left,Zf,Gh];exact⟨_,Q,.snoc (E.step o N q) (by omega) P⟩
theorem LG{A:Type}(c:Array A){i j:Nat}(f g:A->A)(h:i≠j):(c.modify i f).modify j g=(c.modify j g).modify i f:=by
 grind
theorem Ze(w:Wd){a b:Addr}(u v:Value)(h:a.block≠b.block):(w.setCell a u).setCell b v=(w.setCell b v).setCell a u:=by
 obtain⟨F,c⟩:∃F:Obj->Obj,∀w:Wd,w.setCell a u={w with heap:=w.heap.modify a.block F}:=⟨_,λw=>rfl⟩;obtain⟨G,d⟩:∃G:Obj->Obj,∀w:Wd,w.setCell b v={w with heap:=w.heap.modify b.block G}:=⟨_,λw=>rfl⟩;grind[LG]
theorem AT(w:Wd){g e:Nat}(h:g≠e)(a b c d:Nat)(x y z v:Value):(((w.setCell (aD g a) x).setCell (aD g b) y).setCell (aD g c) z).setCell (aD e d) v=(((w.setCell (aD e d) v).setCell (aD g a) x).setCell (aD g b) y).setCell (aD g c) z:=by
 grind[Ze]
theorem En.last{X:Nat->Prop}{b:LV}{c:List zE}{z:zE}(h:En X w b (c++ [z])):∃cs0 a cap,b=cs0++ [Bn z.op,Bn z.num,CU a z.args.length cap]/\En X w cs0 c:=by
 generalize e:c++ [z]=l at h;cases h with
 |nil=>simp at e
 | @snoc b fs' f a cap h hl ha=>
  obtain⟨rfl,d⟩:=List.append_inj' e rfl;cases d<;>grind
theorem mP(d:LV)(a b c x y z:Value):(((d++ [a,b,c]).set d.length x).set (d.length+1) y).set (d.length+2) z=d++ [x,y,z]:=by
 simp_all
theorem Bp.fill{n:Fb}{G:Wd}{H:Bool}{g cap:Nat}{f:zE}(h:Bp n w G d U L (Fj M k (.mk 0 0 [])) H)(P:k<5)(C:U (4+k)=Kx g 0 ((M k).length+1) cap)(Q:f.args.length<=200)(D:Gi (XV n.BASE U) d fa f.args):
 Bp n w G (((d.setCell (aD g ((M k).length*3)) (Bn f.op)).setCell (aD g ((M k).length*3+1)) (Bn f.num)).setCell (aD g ((M k).length*3+2)) (.slice fa f.args.length fc)) U L (Fj M k f) H:=by
 obtain⟨W,X,Y,Z,f5,R,f7,f8⟩:=h.fix;have r:4+k<9:=by omega
 have t:(U (4+k)).ownBlock=some g:=by rw[C];rfl
 have S:=h.owns r t;obtain⟨y,a,l⟩:=h.cos k P;rw[Zf]at a l;obtain⟨u,za,zc,rfl,o⟩:=l.last;have E:=o.len;rw[C,Gh,show([zE.mk 0 0 []]:List zE).length=1 from rfl]at a;have K:=(a.stored (u.length) (Bn f.op)).1;have N:=(K.stored (u.length+1) (Bn f.num)).1;have F:=(N.stored (u.length+2) (.slice fa f.args.length fc)).1;rw[mP,E]at F;obtain⟨x,v⟩:=aT (((d.setCell (aD g ((M k).length*3)) (Bn f.op)).setCell (aD g ((M k).length*3+1)) (Bn f.num)).setCell (aD g ((M k).length*3+2)) (.slice fa f.args.length fc));have q:d.grownBy x (some g):=by
  rw[v];exact Lib.grownBy_trans (Lib.grownBy_trans (Lib.grownBy_setCell d g _ _) (Lib.grownBy_setCell _ g _ _)) (Lib.grownBy_setCell _ g _ _)
 rw[<-v]at F ⊢;have c:∀b,b<d.heap.size->b≠g->x.heap[b]?=d.heap[b]?:=λb hb e=>q.block b hb (by simpa using e);have z:∀b,b<d.heap.size->¬ XV n.BASE U b->x.heap[b]?=d.heap[b]?:=λb hb hx=>c b hb (λe=>hx (.inr ⟨4+k,r,by rw[t,e]⟩));have p:∀i,i<9->i≠4+k->∀{T:TypeId} {s m:Nat} {xs:LV},d.ownsRow n.BASE T s (U i) m xs->x.ownsRow n.BASE T s (U i) m xs:=λi hi hne {T s m xs} ho=>ho.kept q (.inr (λe=>hne (h.apart i (4+k) g hi r e t)));refine⟨(c _ (Ag h.box) (by omega)).trans h.box,λi hi=>?_,λi hi=>?_,h.apart,?_,(c _ (Ag h.con) (by omega)).trans h.con,(c _ (As h.zlt h.size) (by have:=h.zlt;omega)).trans h.mz,h.zlt,h.bel.grown q (Bf h.bs h.size) (λj hj=>by grind),Bf h.size q.size,h.bs,h.fix,h.ne⟩;obtain⟨y,A,B⟩:=h.rul i hi;exact⟨y,p i (by omega) (by omega) A,B.step q.size z (λ_ _ h=>h)⟩;by_cases e:i=k;subst e;rw[Zf,Gh,C];exact⟨_,F,.snoc (o.step q.size z (λ_ _ h=>h)) (by omega) (D.step q.size z (λ_ _ h=>h))⟩;obtain⟨y,A,B⟩:=h.cos i hi;rw[eR _ _ e]at A B;rw[eR _ _ e];exact⟨y,p (4+i) (by omega) (by omega) A,B.step q.size z (λ_ _ h=>h)⟩;exact h.cmp.other q (λj hj=>by grind) (by simp;omega) (by simp;omega) (by simp;omega) (λi hi=>by grind)
def Gi.past{n:Fb}{p:Wd}{q:Bool}{l:List zE}(f:Bp n w p c U L M q)(r:Bp n w p a U L M q)(u:c.heap.size<=a.heap.size)(g:k<9)(G:Fo n a d U k v)(j:Gi (λb=>b<c.heap.size) a fa l):Gi (XV n.BASE (upd U k v)) (d.setCell (aD n.sb (18+k)) v) fa l:=by
 have m:a.heap.size<=d.heap.size:=G.grow.size;have o:a.heap.size<=(d.setCell (aD n.sb (18+k)) v).heap.size:=by simpa using m
 have s:=f.size;have⟨x,_⟩:=f.fix;refine j.step o (λb hb hx=>G.block r g hb (λe=>?_) (λe=>hx (by show b<_;omega))) (λb hb hx=>?_);exact hx (f.owns g e).2;rcases kG g G.at' hb hx with h|⟨i,t,h⟩;show b<c.heap.size;omega;exact(f.owns t h).2
def OV(n:Fb)(U:Nat->Value)(a b:Bool):(Nl n U a).setIfInBounds 27 (.bool b)=Nl n U b:=by simp[Nl]
def Bp.night{n:Fb}{o:Wd}{s:Bool}(h:Bp n w o c U L M s)(b:Bool):Bp n w o (c.setCell (aD n.sb 27) (.bool b)) U L M b:=by
 have⟨u,v,x,y,z,A,q,B⟩:=h.fix;have⟨C,D,E,F,G,t,H,K⟩:=h.ne;have g:=h.size;have d:c.grownBy (c.setCell (aD n.sb 27) (.bool b)) (some n.sb):=Lib.grownBy_setCell c n.sb 27 (.bool b);have a:∀k,k≠n.sb->(c.setCell (aD n.sb 27) (.bool b)).heap[k]?=c.heap[k]?:=λk hk=>Below.heap_setCell _ _ _ _ hk;have r:∀k,k<c.heap.size->¬ XV n.BASE U k->(c.setCell (aD n.sb 27) (.bool b)).heap[k]?=c.heap[k]?:=λk hk hx=>a k (λe=>hx (.inl (by omega)));have f:∀k,k<9->(U k).ownBlock=none\/(U k).ownBlock≠some n.sb:=λk hk=>.inr (λe=>by have:=h.owns hk e;omega);refine⟨?_,λk hk=>?_,λk hk=>?_,h.apart,?_,(a _ (by omega)).trans h.con,(a _ (by omega)).trans h.mz,h.zlt,h.bel.setCell (p:=aD n.sb 27) q _,by simpa using g,h.bs,h.fix,h.ne⟩;rw[zg h.box,OV];have⟨i,l,m⟩:=h.rul k hk;exact⟨i,l.kept d (f k (by omega)),m.step d.size r (λ_ _ h=>h)⟩;have⟨i,l,m⟩:=h.cos k hk;exact⟨i,l.kept d (f (4+k) (by omega)),m.step d.size r (λ_ _ h=>h)⟩;exact h.cmp.other d (λj hj=>by cases hj;exact q) (by simp;omega) (by simp;omega) (by simp;omega) (λk hk=>by simp;exact t k hk)
def Bp.rs{n:Fb}{b:Wd}{d:Bool}(h:Bp n w c b U L M d)(e:k<4):∃a cap,U k=CU a (L k).length cap/\Zd b a (L k):=by
 have⟨i,f,g⟩:=h.rul k e;exact Gl.rs f (g.step (X':=noX) (Bv _) (λ_ _ _=>rfl) (λ_ _ h=>h.elim))
def Bp.rows{n:Fb}{b:Wd}{d:Bool}(h:Bp n w c b U L M d)(e:k<5):∃a cap,U (4+k)=CU a (M k).length cap/\Gi noX b a (M k):=by
 have⟨i,f,g⟩:=h.cos k e;exact En.rows f (g.step (X':=noX) (Bv _) (λ_ _ _=>rfl) (λ_ _ h=>h.elim))
def kU{A:Type}(a b c d:A):Nat->A
 |0=>a
 |1=>b
 |2=>c
 |_=>d
def Bp.set{n:Fb}{F b:Wd}{d:Bool}{N:List (Value×Value)}(h:Bp n w F b U L M d)(hB:n.B=w.heap.size)(e:zY n.t=0)(f:Ax n.c=0)(hL:∀k,L k=Sg n.c k)(hM:∀k,k<4->M k=Ra n.c k)(g:M 4=Jf n.c)(hf:Al Hi w n.fa n.t.fs)(hz:Dl prog F n.zb .string N)(ha:Sn w N n.t.zn n.t.ai):∃P:Dh,P.nights=d/\Hl b n.sb n.t n.c P:=by
 have⟨i,j,G,H⟩:=h.rs (k:=0) (by omega);have⟨l,m,K,Q⟩:=h.rs (k:=1) (by omega);have⟨o,q,R,S⟩:=h.rs (k:=2) (by omega);have⟨r,s,T,V⟩:=h.rs (k:=3) (by omega);have⟨u,v,W,X⟩:=h.rows (k:=0) (by omega);have⟨x,y,Y,Z⟩:=h.rows (k:=1) (by omega);have⟨z,A,u6,k2⟩:=h.rows (k:=2) (by omega);have⟨C,D,u7,k3⟩:=h.rows (k:=3) (by omega);have⟨xa,xc,u8,x0⟩:=h.rows (k:=4) (by omega);rw[hL]at G K R T H Q S V;rw[hM _ (by omega)]at W Y u6 u7 X Z k2 k3;rw[g]at u8 x0;have a:Below w.heap.size w b:=hB ▸ h.bel;have E:Dl prog b n.zb .string N:=by
  obtain⟨h1,h2⟩:=hz;refine⟨?_,h2⟩;unfold Vb at h1 ⊢;rw[h.mz];exact h1
 refine⟨⟨n.za,n.zc,n.aa,n.ac,n.fa,n.fc,n.p,n.zb,kU i l o r,kU j m q s,kU u x z C,kU v y A D,xa,xc,d⟩,rfl,?_,e,f,hf.below a,ha.zn E a,λk hk=>?_,λk hk=>?_,x0⟩;rw[h.box];have e4:U 4=_:=W;have e5:U 5=_:=Y;have e6:U 6=_:=u6;have e7:U 7=_:=u7;have e8:U 8=_:=u8;unfold Nl AS;rw[G,K,R,T,e4,e5,e6,e7,e8];rfl;rcases k with _|_|_|_|k;exact H;exact Q;exact S;exact V;omega;rcases k with _|_|_|_|k;exact X;exact Z;exact k2;exact k3;omega
def vC{l:List (BA×zE)}(h:k<l.length):Sq (l.take (k+1))=(Sq (l.take k) || Pm 1 (Eh l k).2):=by
 unfold Sq;rw[tS h,List.any_append,Eh,Cr,Cz h];simp
def vD{l:List zE}(h:k<l.length):Wc (l.take (k+1))=(Wc (l.take k) || Pm 1 (Ci l k)):=by
 unfold Wc;rw[tS h,List.any_append,Ci,Cr,Cz h];simp
def jn0{P:Prop}(m:P->G)(h:P):G:=m h
def jn{α β γ δ ε ζ η:Type}{P j k l n o p q r s t i:α->β->γ->δ->ε->ζ->η->Prop}(m:(∀a b c d e f g,j a b c d e f g->k a b c d e f g->l a b c d e f g->n a b c d e f g->o a b c d e f g->p a b c d e f g->q a b c d e f g->r a b c d e f g->s a b c d e f g->t a b c d e f g->i a b c d e f g->P a b c d e f g)->G)(h:∀a b c d e f g,j a b c d e f g->k a b c d e f g->l a b c d e f g->n a b c d e f g->o a b c d e f g->p a b c d e f g->q a b c d e f g->r a b c d e f g->s a b c d e f g->t a b c d e f g->i a b c d e f g->P a b c d e f g):G:=m h
abbrev Qw(W:Wd)(rb sb o:Nat)(v0 v1 v2 v3 v4 v5 V:Value):Prop:=W.cell? (aD rb 0)=some v0/\W.cell? (aD rb 1)=some v1/\W.cell? (aD rb 2)=some v2/\W.cell? (aD rb 3)=some v3/\W.cell? (aD rb 4)=some v4/\W.cell? (aD rb 5)=some v5/\W.cell? (aD sb o)=some V
def Qw.far{a f:Nat}{k n:Value}(c:W.grownBy g b)(d:a<W.heap.size)(p:f<W.heap.size)(e:b≠some a)(q:b≠some f)(h:Qw W a f o i j k l m n V):Qw g a f o i j k l m n V:=⟨(c.cell_far (aD a 0) d (Ne.symm e)).trans h.1,(c.cell_far (aD a 1) d (Ne.symm e)).trans h.2.1,(c.cell_far (aD a 2) d (Ne.symm e)).trans h.2.2.1,(c.cell_far (aD a 3) d (Ne.symm e)).trans h.2.2.2.1,(c.cell_far (aD a 4) d (Ne.symm e)).trans h.2.2.2.2.1,(c.cell_far (aD a 5) d (Ne.symm e)).trans h.2.2.2.2.2.1,(c.cell_far (aD f o) p (Ne.symm q)).trans h.2.2.2.2.2.2⟩
def Qw.below{c d:Nat}{g k:Value}(a:Bw W e)(b:c<W.heap.size)(m:d<W.heap.size)(h:Qw W c d o f g i j k l V):Qw e c d o f g i j k l V:=⟨zj h.1 b a,zj h.2.1 b a,zj h.2.2.1 b a,zj h.2.2.2.1 b a,zj h.2.2.2.2.1 b a,zj h.2.2.2.2.2.1 b a,zj h.2.2.2.2.2.2 m a⟩
abbrev Kl(W:Wd)(rb sb o:Nat)(v0 v1 v2 v3 v4 V:Value):Prop:=W.cell? (aD rb 0)=some v0/\W.cell? (aD rb 1)=some v1/\W.cell? (aD rb 2)=some v2/\W.cell? (aD rb 3)=some v3/\W.cell? (aD rb 4)=some v4/\W.cell? (aD sb o)=some V
def Kl.far{a d:Nat}{k:Value}(c:W.grownBy g b)(e:a<W.heap.size)(n:d<W.heap.size)(f:b≠some a)(p:b≠some d)(h:Kl W a d o i j k l m V):Kl g a d o i j k l m V:=⟨(c.cell_far (aD a 0) e (Ne.symm f)).trans h.1,(c.cell_far (aD a 1) e (Ne.symm f)).trans h.2.1,(c.cell_far (aD a 2) e (Ne.symm f)).trans h.2.2.1,(c.cell_far (aD a 3) e (Ne.symm f)).trans h.2.2.2.1,(c.cell_far (aD a 4) e (Ne.symm f)).trans h.2.2.2.2.1,(c.cell_far (aD d o) n (Ne.symm p)).trans h.2.2.2.2.2⟩
def Kl.below{c d:Nat}{g k:Value}(a:Bw W e)(b:c<W.heap.size)(l:d<W.heap.size)(h:Kl W c d o f g i j k V):Kl e c d o f g i j k V:=⟨zj h.1 b a,zj h.2.1 b a,zj h.2.2.1 b a,zj h.2.2.2.1 b a,zj h.2.2.2.2.1 b a,zj h.2.2.2.2.2 l a⟩
abbrev Nx(W:Wd)(rb sb o:Nat)(v0 v1 v2 v3 V:Value):Prop:=W.cell? (aD rb 0)=some v0/\W.cell? (aD rb 1)=some v1/\W.cell? (aD rb 2)=some v2/\W.cell? (aD rb 3)=some v3/\W.cell? (aD sb o)=some V
def Nx.far{a c:Nat}{k:Value}(d:W.grownBy g b)(e:a<W.heap.size)(m:c<W.heap.size)(f:b≠some a)(n:b≠some c)(h:Nx W a c o i j k l V):Nx g a c o i j k l V:=⟨(d.cell_far (aD a 0) e (Ne.symm f)).trans h.1,(d.cell_far (aD a 1) e (Ne.symm f)).trans h.2.1,(d.cell_far (aD a 2) e (Ne.symm f)).trans h.2.2.1,(d.cell_far (aD a 3) e (Ne.symm f)).trans h.2.2.2.1,(d.cell_far (aD c o) m (Ne.symm n)).trans h.2.2.2.2⟩
def Nx.below{c d:Nat}{g:Value}(a:Bw W e)(b:c<W.heap.size)(k:d<W.heap.size)(h:Nx W c d o f g i j V):Nx e c d o f g i j V:=⟨zj h.1 b a,zj h.2.1 b a,zj h.2.2.1 b a,zj h.2.2.2.1 b a,zj h.2.2.2.2 k a⟩
theorem nF(c:Ad)(l:List It)(k:Nat):(Fm c l k).length<=l.length:=by grind[Fm]
theorem MH(c:Ad)(l:List It)(r:It)(h:r.sc=(k:Int)):Fm c (l++ [r])=Fj (Fm c l) k (r.name,Eb c k r.ex):=by
 grind[uV,Fj]
theorem Yv(c:Ad)(l:List Ky)(k:Nat):(Eu c l k).length<=l.length:=by grind[Eu]
theorem nS(c:Ad)(l:List Ky)(r:Ky)(h:r.sc=(k:Int)):Eu c (l++ [r])=Fj (Eu c l) k (Eb c k r.ex):=by
 grind[uO,Fj]
def uQ{b:Nat}{a:LV}{T:TypeId}(c:w.heap[b]?=some (.cells a.toArray T (0,0))):∀j u,a[j]?=some u->w.cell? (Addr.add (aD b 0) j)=some u:=by
 intro j u h;have d:(Addr.add (aD b 0) j)=(aD b j):=by
  unfold Addr.add;split
  next h=>rw[h]
  simp
 rw[d];exact EE j c (by simpa using h)
def Cp(c:Ad)(j:Nat):Nat->List zE:=λi=>if i=4 then(c.xs.take j).map (Eb c 1) else Eu c c.ks i
theorem Xb{c:Ad}(h:Ax c=0):Eu c c.ks 4= []:=by
 unfold Eu;rw[List.filter_eq_nil_iff.2 (λr hr=>?_)];rfl;have:=oD (Vq (Ud h).g).2.2.1 r hr;simp;omega
theorem PN{c:Ad}(h:Ax c=0):Cp c 0=Eu c c.ks:=by
 grind[Cp,Xb]
theorem Yp(l:List zH)(k:Nat)(h:k<l.length):l.take (k+1)=l.take k++ [Au l k]:=by
 simp_all[Au]
theorem xI{c:Ad}{j:Nat}(h:j<c.xs.length):Cp c (j+1)=Fj (Cp c j) 4 (Eb c 1 (Au c.xs j)):=by
 funext i;by_cases e:i=4;subst e;show(c.xs.take (j+1)).map (Eb c 1)=(c.xs.take j).map (Eb c 1)++_;rw[Yp _ _ h,Ii];rfl;rw[eR _ _ e];show(if i=4 then _ else _)=(if i=4 then _ else _);rw[iN e,iN e]
def VE(c:Ad)(n:Nat)(h:k<4):Cp c n k=Ra c k:=iN (by omega)
def PO(c:Ad):Cp c c.xs.length 4=Jf c:=by
 show(c.xs.take c.xs.length).map (Eb c 1)=_;rw[List.take_length];rfl
def NZ(c:Ad):(Sq (Fm c c.rs 2) || Wc (Cp c c.xs.length 2))=qE c:=rfl
def QH:(prog.info? 177).map (λi=>(i.zero,i.size,i.bytes))=some (some (.agg #[B_ ByteArray.empty,Bn 0,Bn 0,Ls]),4,56):=by kernel_rfl
theorem gI(t:At)(za aa fa:Ae)(zc ac fc:Nat)(c:Ad)(p:Bd):
 Rn t c za zc aa ac fa fc p:=by
 intro w hT;obtain⟨hz,ha,hf,hc⟩:=hT;have HZ:=I hz;have HA:=I ha;have HF:=I hf;have HC:=I hc;clear hz ha hf hc;have y8:=Yc;obtain⟨u8,u9,m8,m9,n0⟩:=info_parts QH;obtain⟨k5,k6,h7,h8,h9⟩:=info_parts xF;go_enter func38,ntmps38;go_wp2_with fail;have h0:=I (Ab (J w (Ap t za zc aa ac fa fc)) (J _ (Aj c p)));have T0:=I (zd (o':=(Aj c p)) (zh w (Ap t za zc aa ac fa fc)));have C0:=I (zh (w.alloc (Ap t za zc aa ac fa fc)) (Aj c p));rw[zr]at C0;obtain⟨tb,j7⟩:=aT w.heap.size;obtain⟨cb,j8⟩:=aT (w.heap.size+1);rw[<-j7]at T0;rw[<-j8]at C0;simp only[<-j8];simp only[<-j7];have v0:=I j7;have v1:=I j8;clear j7 j8;generalize (w.alloc (Ap t za zc aa ac fa fc)).alloc (Aj c p)=W0 at*;refine(GL t za aa fa zc ac fc W0 (HZ.1.below h0.1) (HA.1.below h0.1) (HF.1.below h0.1)).mono ?_;rintro e w1 ⟨rfl,h3⟩;by_cases hv:zY t=0
 case neg=>
  have v2:=CN hv
  have HV:=I hv;have f3:=I (Ab h0.1 h3);clear hv h3;go_wp2;go_ret2;exact⟨.badT HV.1 rfl,f3.1⟩
 have HV:=I hv;have f3:=I (Ab h0.1 h3);have T1:=I ((h3.block _ (Ag T0.1)).trans T0.1);have C1:=I ((h3.block _ (Ag C0.1)).trans C0.1);rw[hv];clear hv h3 T0 C0 h0;clear W0;have n1:=zw C1.1;have n2:=zu C1.1;have n3:=zC C1.1;have n4:=Hk C1.1;have n5:=Ks C1.1;have n6:=Lg C1.1;have n7:=Mf C1.1;have n8:=Ic C1.1;have n9:=Jg C1.1;have o0:=Mg C1.1;have k7:=Ol C1.1;have k8:=Qk C1.1;have k9:=Qj C1.1;have l0:=Ui C1.1;have f4:=Ag C1.1;go_wp2_with fail;refine(IR c p w1 w.heap.size f3.1.size (HC.1.keep f3.1)).mono ?_;rintro e z ⟨rfl,h4⟩;clear n1 n2 n3 n4 n5 n6 n7 n8 n9 o0 k7 k8 k9 l0 f4;by_cases hv:Ax c=0
 case neg=>
  have v2:=CN hv
  have c7:=I hv;have i0:=I (Ab f3.1 h4);clear hv h4;go_wp2;go_ret2;exact⟨.badC HV.1 c7.1 rfl,i0.1⟩
 have c7:=I hv;have i0:=I (Ab f3.1 h4);have T2:=I ((h4.block _ (Ag T1.1)).trans T1.1);have C2:=I ((h4.block _ (Ag C1.1)).trans C1.1);rw[hv];clear hv h4 T1 C1 f3;clear w1;have o6:=zw C2.1;have o7:=zu C2.1;have o8:=zC C2.1;have o9:=Hk C2.1;have p0:=Ks C2.1;have p6:=Lg C2.1;have p7:=Mf C2.1;have p8:=Ic C2.1;have p9:=Jg C2.1;have q0:=Mg C2.1;have l1:=Ol C2.1;have l2:=Qk C2.1;have l3:=Qj C2.1;have l4:=Ui C2.1;have q6:=zw T2.1;have q7:=zu T2.1;have q8:=zC T2.1;have f4:=Ag C2.1;have i1:=Ag T2.1;go_upto_region 9 with fail;have l5:=I (Ab i0.1 (Ab (Ab (J z (Obj.map #[] 0)) (J _ (oS t za zc aa ac fa fc c p (some z.heap.size)))) (J _ (Obj.map #[] 0))));have T3:=I (zd (o':=Obj.map #[] 0) (zd (o':=(oS t za zc aa ac fa fc c p (some z.heap.size))) (zd (o':=Obj.map #[] 0) T2.1)));have C3:=I (zd (o':=Obj.map #[] 0) (zd (o':=(oS t za zc aa ac fa fc c p (some z.heap.size))) (zd (o':=Obj.map #[] 0) C2.1)));have S3:=I (zd (o':=Obj.map #[] 0) (zh (z.alloc (Obj.map #[] 0)) (oS t za zc aa ac fa fc c p (some z.heap.size))));have MZ:=I (((Dl.made prog z .string).alloc (oS t za zc aa ac fa fc c p (some z.heap.size))).alloc (Obj.map #[] 0));have MN:=I (Dl.made prog ((z.alloc (Obj.map #[] 0)).alloc (oS t za zc aa ac fa fc c p (some z.heap.size))) .string);rw[zr]at S3;rw[zr,zr]at MN;obtain⟨zb,q9⟩:=aT z.heap.size;obtain⟨l,l6⟩:=aT (z.heap.size+1);obtain⟨nb,l7⟩:=aT (z.heap.size+1+1);rw[<-l7]at MN;rw[<-l6]at S3;simp only[<-l7];simp only[<-l6];have v3:=i0.1.size;have v4:=v0.1;have v5:=v1.1;have o1:tb<zb:=by omega
 have o2:cb<zb:=by omega
 have o3:w.heap.size<=zb:=by omega
 have o4:zb<l:=by omega
 have o5:l<nb:=by omega
 have D:z.alloc (Obj.map #[] 0)=z.alloc (Obj.map #[] 0):=rfl;generalize hW3:((z.alloc (Obj.map #[] 0)).alloc (oS t za zc aa ac fa fc c p (some z.heap.size))).alloc (Obj.map #[] 0)=W3 at*;simp only[<-q9] at*;clear hW3 D q9 l6 l7 v4 v5 v3 o6 o7 o8 o9 p0 p6 p7 p8 p9 q0 l1 l2 l3 l4 q6 q7 q8 f4 i1 T2 C2 i0;clear z;have r6:=zw T3.1;have i1:=Ag T3.1;have y9:=(On HV.1).1;have A0:=(On HV.1).2.1;go_wp2_with fail;clear r6 i1;go_loopw [42] (λi wr=>∃(k:Nat) (M:List (Value×Value)),k<=t.zn.length/\i=Bn k/\Af (Dl prog wr nb .string M)/\Af (Up w M (t.zn.take k))/\Af (W3.grownBy wr (some nb))) (λi _=>t.zn.length-(intOf i).toNat)
 case atStart=>exact⟨0, [],Bg _,rfl,MN,I (Up.nil w),I (zP _ (An _ _))⟩
 clear MN;obtain⟨k,M,hk,rfl,hM,i2,a9⟩:=hrel;have f5:=I (l5.1.grown a9.1 l5.1.size (λj hj=>by cases hj;omega));by_cases C:k<t.zn.length
 . obtain⟨b,c8,rfl,hb,a4⟩:=dV HZ.1 (by omega);obtain⟨sa,d6,c0,c1,c2,r7,r8,r9⟩:=a4 k C;have d0:=zj c0 hb f5.1;have d1:=zj c1 hb f5.1;have d2:=zj c2 hb f5.1;have v6:=As hb f5.1.size;obtain⟨w4,P1,M4,g4⟩:=yK (hM.1.alloc (Pc (Cg t.zn k) sa d6)) (Cg t.zn k).name (.agg #[B_ (Cg t.zn k).name,(Cg t.zn k).off,CU sa (Cg t.zn k).sh.length d6]);have v7:=I M4;have v8:=I (show Up w (Dd M (B_ (Cg t.zn k).name) (.agg #[B_ (Cg t.zn k).name,(Cg t.zn k).off,CU sa (Cg t.zn k).sh.length d6])) (t.zn.take (k+1)) by rw[zo9 _ _ C];exact i2.1.put _ ⟨sa,d6,rfl,r9,r7,r8⟩);have v9:=I (Lib.grownBy_trans (Lib.grownBy_trans a9.1 (zP (some nb) (J wr (Pc (Cg t.zn k) sa d6)))) g4);clear M4 g4 a4 c0 c1 c2 r9 hM i2 a9;go_wp2;go_roundw
   case rel=>exact⟨k+1,_,by omega,by go_num,v7,v8,v9⟩
   case measure=>simp[intOf];omega
 obtain rfl:k=t.zn.length:=by omega
 rw[List.take_length]at i2;have T4:=I ((a9.1.block _ (Ag T3.1) (by simp;omega)).trans T3.1);have C4:=I ((a9.1.block _ (Ag C3.1) (by simp;omega)).trans C3.1);have S4:=I ((a9.1.block _ (Ag S3.1) (by simp;omega)).trans S3.1);have s0:=I (MZ.1.grown a9.1 (by simp;omega));clear T3 C3 S3 MZ l5 a9;obtain⟨W4,rfl⟩:∃W4:Wd,W4=wr:=⟨_,rfl⟩;have s1:=zu T4.1;have i1:=Ag T4.1;go_wp2_with fail;clear s1 i1;go_loopw [54] (λi wr=>∃(k:Nat) (N:List (Value×Value)),k<=t.ai.length/\i=Bn k/\Af (Dl prog wr zb .string N)/\Af (Sn w N t.zn (t.ai.take k))/\Af (W4.grownBy wr (some zb))) (λi _=>t.ai.length-(intOf i).toNat)
 case atStart=>exact⟨0, [],Bg _,rfl,s0,I (Sn.nil w _),I (zP _ (An _ _))⟩
 clear s0;obtain⟨k,N,hk,rfl,hN,i3,a9⟩:=hrel;have f6:=I (f5.1.grown a9.1 f5.1.size (λj hj=>by cases hj;omega));by_cases C:k<t.ai.length
 . obtain⟨b,c8,rfl,hb,a4⟩:=eF HA.1 (by omega);obtain⟨c0,c1,r7,r8⟩:=a4 k C;have d0:=zj c0 hb f6.1;have d1:=zj c1 hb f6.1;have v6:=As hb f6.1.size;clear a4 c0 c1;have G1:=Lib.grownBy_trans a9.1 (zP (some zb) (J wr (oA (Ct t.ai k))));have A1:=I (zh wr (oA (Ct t.ai k)));have N1:=I (hN.1.alloc (oA (Ct t.ai k)));have S5:=I ((G1.block _ (Ag S4.1) (by simp;omega)).trans S4.1);have M5:=I (hM.1.grown G1 (by simp;omega));have w0:=I G1;clear G1 hN a9;go_wp2_with fail;generalize wr.alloc (oA (Ct t.ai k))=W5 at*;have z1:W5.drew.cell? ⟨l,17,none⟩=some (.map (some zb)):=zm S5.1 rfl;have z2:W5.drew.cell? ⟨wr.heap.size,0,none⟩=some (B_ (Ct t.ai k).code):=zm A1.1 rfl;have z3:W5.drew.cell? ⟨wr.heap.size,1,none⟩=some (B_ (Ct t.ai k).zone):=zm A1.1 rfl;have A2:W5.cell? ⟨l,17,none⟩=some (.map (some zb)):=zm S5.1 rfl;have A3:W5.cell? ⟨wr.heap.size,0,none⟩=some (B_ (Ct t.ai k).code):=zm A1.1 rfl;have A4:W5.cell? ⟨wr.heap.size,1,none⟩=some (B_ (Ct t.ai k).zone):=zm A1.1 rfl;obtain⟨v,L1,hv⟩:=PY (w:=W5.drew) (M5.1.below (An _ _).drew) i2.1 (Ct t.ai k).zone;obtain⟨F,P1,N6,G⟩:=yK (w:=W5.drew) (N1.1.below (An _ _).drew) (Ct t.ai k).code v;have w5:=I N6;have w7:=I (show Sn w (Dd N (B_ (Ct t.ai k).code) v) t.zn (t.ai.take (k+1)) by rw[zpe _ _ C];exact i3.1.put _ hv);have w8:=I (Lib.grownBy_trans (tE w0.1) G);clear N6 G hv i3;go_still_tail 10,(by kernel_rfl);change wpList _ _ _ _ _ W5.drew;go_wp2;go_roundw
   case rel=>exact⟨k+1,_,by omega,by go_num,w5,w7,w8⟩
   case measure=>simp[intOf];omega
 obtain rfl:k=t.ai.length:=by omega
 rw[List.take_length]at i3;have C5:=I ((a9.1.block _ (Ag C4.1) (by simp;omega)).trans C4.1);have S5:=I ((a9.1.block _ (Ag S4.1) (by simp;omega)).trans S4.1);have s2:=As hM.1.lt a9.1.size;have s3:=hN;have AM:=i3;clear T4 C4 S4 f5 a9 hN i3 hM i2;obtain⟨W5,rfl⟩:∃W5:Wd,W5=wr:=⟨_,rfl⟩;have s4:=Ic C5.1;have f4:=Ag C5.1;go_wp2_with fail;refine(GG c.cs p.ca p.cc W5 w.heap.size f6.1.size (HC.1.keep f6.1).cs).mono ?_;rintro e F ⟨kp,ib,vb,ps,rfl,s5,⟨A5,A6,A7,s6⟩,h5⟩;have C6:=I ((h5.block _ (Ag C5.1)).trans C5.1);have S6:=I ((h5.block _ (Ag S5.1)).trans S5.1);have w9:=I (s3.1.below h5);have s7:=I (Ab f6.1 h5);have f7:=I s5;have y6:=h5.size;have A8:nb<W5.heap.size:=s2;clear s5 h5 s4 f4 C5 S5 s3 f6;have I0:Af (Bp (⟨t,c,za,zc,aa,ac,fa,fc,p,zb,l,cb,kp,ib,vb,ps,w.heap.size,F.heap.size⟩:Fb) w F F (λ_=>Ls) (λ_=> []) (λ_=> []) false):=I ⟨S6.1,λk hk=>⟨[],World.ownsRow_nil _ _ _ _,.nil⟩,λk hk=>⟨[],World.ownsRow_nil _ _ _ _,.nil⟩,λi j b _ _ h=>by simp[Value.ownBlock]at h,f7.1,C6.1,rfl,by show zb<F.heap.size;omega,s7.1,Bv _,s7.1.size,⟨by show l<F.heap.size;omega,by show cb<F.heap.size;omega,f7.1.lt.1,f7.1.lt.2.1,f7.1.lt.2.2,λk hk=>(f7.1.places k hk).lt,by show w.heap.size<=l;omega,f7.1.bv⟩,⟨by show l≠vb;omega,by show l≠cb;omega,by show l≠zb;omega,by show l≠kp;omega,by show l≠ib;omega,λk hk=>by have:=s6 k hk;show Nj ps k≠l;omega,by show cb≠vb;omega,by show zb≠vb;omega⟩⟩;have x0:=w9;have s8:=I (λi (hi:i<c.rs.length)=>AV c7.1 hi);have d3:=I (LC w.heap.size kp ib vb ps c.cs p.ca p.cc c.cs.length);have s9:=Jg C6.1;have f4:=Ag C6.1;have A9:=(HC.1.rs).1;have l8:c.rs.length<=10000:=by have h:=(Vq (Ud c7.1).g).1;simp[Li]at h;omega
 clear S6 f7 s6;go_wp2_with fail;clear s9 f4 C6;go_loopw [75] (λi wr=>∃(j:Nat) (U:Nat->Value),j<=c.rs.length/\i=Bn j/\Af (Bp (⟨t,c,za,zc,aa,ac,fa,fc,p,zb,l,cb,kp,ib,vb,ps,w.heap.size,F.heap.size⟩:Fb) w F wr U (Fm c (c.rs.take j)) (λ_=> []) false)) (λi _=>c.rs.length-(intOf i).toNat)
 case atStart=>exact⟨0,(λ_=>Ls),Bg _,rfl,I0⟩
 clear I0;obtain⟨j,U,hj,rfl,x⟩:=hrel;by_cases C:j<c.rs.length
 . obtain⟨k,f8,x1,x2,d7,b5,d8⟩:=s8.1 j C;obtain⟨b,c8,t0,hb,a4⟩:=((HC.1.keep x.1.bel).rs).cells (by omega);obtain⟨r0,r1,x3,_,xa,xc,⟨r2,r3,r4,r5⟩,d9,b7⟩:=a4 j C;rw[f8]at r0;have t1:b<wr.heap.size:=As hb (Bf x.1.bs x.1.size);have HW:=I d7;have f0:=I d8;have j9:=I f8;rw[t0];clear a4 t0 f8 d7 d8;go_wp2_with fail;have I1:=I (x.1.below (J wr (fS (k:Int) (Ah c.rs j).name (Ah c.rs j).ex xa xc)));have QB:=I (zh wr (fS (k:Int) (Ah c.rs j).name (Ah c.rs j).ex xa xc));have h6:=I (b7.keep ((J wr (fS (k:Int) (Ah c.rs j).name (Ah c.rs j).ex xa xc)).mono (Bf x.1.bs x.1.size)));have b6:=I d9;obtain⟨rb,a0⟩:=aT wr.heap.size;rw[<-a0]at QB;simp only[<-a0];have c9:=I a0;clear a0;generalize wr.alloc (fS (k:Int) (Ah c.rs j).name (Ah c.rs j).ex xa xc)=W1 at*;have a:Qw W1.drew rb l (18+k) (Bn (k:Int)) (B_ (Ah c.rs j).name) (Bn (Ah c.rs j).ex.op) (Bn (Ah c.rs j).ex.num) (B_ (Ah c.rs j).ex.name) (CU xa (Ah c.rs j).ex.args.length xc) (U k):=⟨EE 0 QB.1 rfl,EE 1 QB.1 rfl,EE 2 QB.1 rfl,EE 3 QB.1 rfl,EE 4 QB.1 rfl,EE 5 QB.1 rfl,zm I1.1.box (Vu _ U false (by omega))⟩;have k0:(0:Int)<=(k:Int):=by omega
   have k4:(k:Int)<4:=by omega
   have y:=Ag QB.1;have n:=Ag I1.1.box;have F1:l<F.heap.size:=I1.1.fix.1;have F5:vb<F.heap.size:=I1.1.fix.2.2.2.2.1;have i4:F.heap.size<=wr.heap.size:=x.1.size;have a0:=c9.1;have i5:rb≠vb:=by omega
   have i6:l≠vb:=I1.1.ne.1;have t2:rb≠l:=by omega
   have a5:=I (λb (hb:(U k).ownBlock=some b)=>x.1.owns (k:=k) (by omega) hb);clear a0;refine bE (λw'=>Qw w' rb l (18+k) (Bn (k:Int)) (B_ (Ah c.rs j).name) (Bn (Ah c.rs j).ex.op) (Bn (Ah c.rs j).ex.num) (B_ (Ah c.rs j).ex.name) (CU xa (Ah c.rs j).ex.args.length xc) (U k)) [24] (by kernel_rfl) ?_;refine CG (i:=0) (v:=.pointer (some ⟨l,0,none⟩)) rfl a ?_;simp only[Act.put,O];refine CG (i:=1) (v:=.pointer (some ⟨rb,0,none⟩)) rfl a ?_;simp only[Act.put,O];refine CG (i:=2) (v:=Bn (k:Int)) rfl a ?_;simp only[Act.put,O];refine CG (i:=3) (v:=.pointer (some ⟨l,0,none⟩)) rfl a ?_;simp only[Act.put,O];refine CG (i:=4) (v:=.pointer (some ⟨rb,0,none⟩)) rfl a ?_;simp only[Act.put,O];refine CG (i:=5) (v:=Bn (k:Int)) rfl a ?_;simp only[Act.put,O];refine CG (i:=6) (v:=.pointer (some ⟨l,0,none⟩)) rfl a ?_;simp only[Act.put,O];refine CG (i:=7) (v:=.pointer (some ⟨l,18,none⟩)) rfl a ?_;simp only[Act.put,O];refine CG (i:=8) (v:=.pointer (some ⟨l,18+k,none⟩)) rfl a ?_;simp only[Act.put,O];refine CG (i:=9) (v:=U k) rfl a ?_;simp only[Act.put,O];refine CG (i:=10) (v:=.pointer (some ⟨rb,1,none⟩)) rfl a ?_;simp only[Act.put,O];refine CG (i:=11) (v:=B_ (Ah c.rs j).name) rfl a ?_;simp only[Act.put,O];refine CG (i:=12) (v:=.pointer (some ⟨kp,0,none⟩)) rfl a ?_;simp only[Act.put,O];refine CG (i:=13) (v:=.pointer (some ⟨rb,0,none⟩)) rfl a ?_;simp only[Act.put,O];refine CG (i:=14) (v:=Bn (k:Int)) rfl a ?_;simp only[Act.put,O];refine CG (i:=15) (v:=.pointer (some ⟨rb,2,none⟩)) rfl a ?_;simp only[Act.put,O];refine CG (i:=16) (v:=.agg #[(Ah c.rs j).ex.op,(Ah c.rs j).ex.num,B_ (Ah c.rs j).ex.name,CU xa (Ah c.rs j).ex.args.length xc]) rfl a ?_;simp only[Act.put,O];refine sPa (i:=21) (v:=.pointer (some ⟨l,0,none⟩)) rfl ?_;simp only[Act.put,O];refine sPa (i:=22) (v:=.pointer (some ⟨l,18,none⟩)) rfl ?_;simp only[Act.put,O];refine QY (i:=17) rfl λK hK=>?_;go_simp;refine(d3.1 k (Ah c.rs j).ex xa xc W1.drew (by omega) (I1.1.cmp.below ((An _ W1).drew)) b6.1 HW.1 b5 f0.1 (h6.1.keep ((An _ W1).drew))).mono ?_;rintro e z ⟨ya,yc,rfl,V,a1,a6,D⟩;obtain⟨T,A⟩:=aT (Bj (Ec c.cs c.cs.length) k (Ah c.rs j).ex);rw[<-A]at V a1;simp only[<-A];have b0:=I A;have a2:=I V;have X:=I a6;have d:=I D;clear A V a6;have Y:=Qw.far D y n (by simp;omega) (by simp;omega) a;clear D;refine hK.1 _ _ (λ_ _=>Y) ?_;clear hK K;try simp only[Act.put,O]
   have i7:=I (I1.1.below ((An _ W1).drew));have I2:=I (i7.1.move d.1 X.1);have LL:=(List.length_filter_le (λr:It=>decide (r.sc=(k:Int))) (c.rs.take j));obtain⟨cs,Z,E⟩:=I2.1.rul k (by omega);have b8:=I Z;have b9:=I E;clear Z E;refine QY (i:=18) rfl λK hK=>?_;go_simp;refine hK.1 _ _ (λ_ h=>h) ?_;clear hK K;try simp only[Act.put,O]
   refine QY (i:=19) rfl λK hK=>?_;go_simp;refine hK.1 _ _ (λ_ _=>(Qw.below (J z _) (As y d.1.size) (As n d.1.size) Y)) ?_;clear hK K;try simp only[Act.put,O]
   refine QY (i:=20) rfl λK hK=>?_;refine wp_append_lies _ (Operand.tmp 88) (Operand.tmp 98) 160 rfl F.heap.size 177 u8 (.agg #[B_ ByteArray.empty,Bn 0,Bn 0,Ls]) 4 56 underlying160 u9 m8 m9 n0 rfl (by decide) (U k) _ cs rfl (b8.1.alloc _) ⟨z.heap.size,0,none⟩ 1 1 [B_ (Ah c.rs j).name,Bn T.op,Bn T.num,CU ya T.args.length yc] rfl rfl (Hh z [B_ (Ah c.rs j).name,Bn T.op,Bn T.num,CU ya T.args.length yc] 177) ?q1 (by decide) ?q2 ?q3 ?q4 (z.heap.size+1) (by simp) ?q5
   case q1=>intro u hu;simp at hu;rcases hu with rfl|rfl|rfl|rfl <;> rfl
   case q2=>have:=nF c (c.rs.take j) k;have:=l8;simp only[List.length_take] at*;unfold maxLen;omega
   case q3=>have:=nF c (c.rs.take j) k;have:=l8;simp only[List.length_take] at*;omega
   case q4=>have:=d.1.size;have:=i7.1.size;simp;exact Nat.le_succ_of_le (Bf i7.1.size d.1.size)
   intro g a7 w3 m q c3 c4;have B:(U k).ownBlock≠some rb:=λe=>by have:=(a5.1 rb e).2;have:=c9.1;omega
   have s:(U k).ownBlock≠some l:=λe=>by have h1:F.heap.size<=l:=(a5.1 l e).1;omega
   have b1:=Qw.far q (by simp;exact Nat.lt_succ_of_lt (As y d.1.size)) (by simp;exact Nat.lt_succ_of_lt (As n d.1.size)) B s (Qw.below (J z _) (As y d.1.size) (As n d.1.size) Y);refine hK.1 _ _ (λ_ _=>b1) ?_;clear hK K;try simp only[Act.put,O]
   refine QY (i:=23) rfl λK hK=>?_;go_simp;refine hK.1 _ _ (λ_ h=>h) ?_;clear hK K;try simp only[Act.put,O]
   have GR:=I (Fo.mk (Lib.grownBy_trans (zP _ (J z _)) q) (by show some g=(U k).ownBlock\/∃H,z.heap.size<=H/\some g=some H;rcases c3 with h|h;exact .inl h.symm;exact .inr ⟨_,Nat.le_succ _,by rw[h]⟩):Fo (⟨t,c,za,zc,aa,ac,fa,fc,p,zb,l,cb,kp,ib,vb,ps,w.heap.size,F.heap.size⟩:Fb) z w3 U k (CU (some ⟨g,0,none⟩) ((Fm c (c.rs.take j) k).length+1) a7));have b2:w3.heap[l]?=some (.cells (Nl (⟨t,c,za,zc,aa,ac,fa,fc,p,zb,l,cb,kp,ib,vb,ps,w.heap.size,F.heap.size⟩:Fb) U false) 165 (0,0)):=(q.block l (by simp;exact Nat.lt_succ_of_lt (As n d.1.size)) (Ne.symm s)).trans (zd I2.1.box);have f9:w3.cell? ⟨l,18+k,none⟩=some (U k):=b1.2.2.2.2.2.2;have g7:w3.frozen? ⟨l,18+k,none⟩=false:=zQ b2;have c5:=Ag b2;refine QY (i:=24) rfl λK hK=>?_;go_simp;refine hK.1 _ _ (λh _=>aB (by decide:(24:Nat)∈ [24]) h) ?_;clear hK K;try simp only[Act.put,O]
   have I4:=I (Bp.rule i7.1 (by omega) x3 d.1 X.1 b9.1 a2.1 a1 GR.1 m);refine zM (by kernel_rfl) ?_;clear b2 f9 g7 c5 b1 Y a GR m q c3 c4 B s I2 b8 b9 a2 X d i7;have HU:=I (show Fm c (c.rs.take (j+1))=Fj (Fm c (c.rs.take j)) k ((Ah c.rs j).name,T) by rw[AQ _ _ C,MH c _ _ j9.1,b0.1];rfl);generalize w3.setCell ⟨l,18+k,none⟩ (CU (some ⟨g,0,none⟩) ((Fm c (c.rs.take j) k).length+1) a7)=W4 at*;go_wp2;go_roundw
   case rel=>exact⟨j+1,_,by omega,by go_num,I (by rw[HU.1];exact I4.1)⟩
   case measure=>simp[intOf];omega
 obtain rfl:j=c.rs.length:=by omega
 rw[List.take_length]at x;obtain⟨W7,rfl⟩:∃W7:Wd,W7=wr:=⟨_,rfl⟩;have k2:=I (λi (hi:i<c.ks.length)=>AZ c7.1 hi);have t3:=Mg x.1.con;have t4:=Ag x.1.con;have y7:=(HC.1.ks).1;have i8:c.ks.length<=10000:=by have h:=(Vq (Ud c7.1).g).1;simp[Li]at h;omega
 clear s8 hj C;go_wp2_with fail;clear t3 t4;go_loopw [107] (λi wr=>∃(j:Nat) (U:Nat->Value),j<=c.ks.length/\i=Bn j/\Af (Bp (⟨t,c,za,zc,aa,ac,fa,fc,p,zb,l,cb,kp,ib,vb,ps,w.heap.size,F.heap.size⟩:Fb) w F wr U (Fm c c.rs) (Eu c (c.ks.take j)) false)) (λi _=>c.ks.length-(intOf i).toNat)
 case atStart=>exact⟨0,U,Bg _,rfl,x⟩
 clear x;obtain⟨j,U,hj,rfl,x⟩:=hrel;by_cases C:j<c.ks.length
 . obtain⟨k,f8,x1,x2,d7,b5,d8⟩:=k2.1 j C;obtain⟨b,c8,t5,hb,a4⟩:=((HC.1.keep x.1.bel).ks).cells (by omega);obtain⟨r0,_,xa,xc,⟨r1,r2,r3,r4⟩,d9,b7⟩:=a4 j C;rw[f8]at r0;have t1:b<wr.heap.size:=As hb (Bf x.1.bs x.1.size);have HW:=I d7;have f0:=I d8;have j9:=I f8;rw[t5];clear a4 t5 f8 d7 d8;go_wp2_with fail;have I1:=I (x.1.below (J wr (fR (k:Int) (Aq c.ks j).ex xa xc)));have QB:=I (zh wr (fR (k:Int) (Aq c.ks j).ex xa xc));have h6:=I (b7.keep ((J wr (fR (k:Int) (Aq c.ks j).ex xa xc)).mono (Bf x.1.bs x.1.size)));have b6:=I d9;obtain⟨rb,a0⟩:=aT wr.heap.size;rw[<-a0]at QB;simp only[<-a0];have c9:=I a0;clear a0;generalize wr.alloc (fR (k:Int) (Aq c.ks j).ex xa xc)=W1 at*;clear r0 r1 r2 r3 r4;go_region
   . have d4:=Ab (J W1 (Obj.cells #[.bool false] 4)) ((An _ (W1.alloc (Obj.cells #[.bool false] 4))).drew);have I2:=I (I1.1.below d4);have b3:=I ((d4.block _ (Ag QB.1)).trans QB.1);have i9:=I (h6.1.keep (d4.mono (Bf I1.1.bs I1.1.size)));go_wp2_with fail;generalize (W1.alloc (Obj.cells #[.bool false] 4)).drew=W2 at*;clear d4;have I3:=I (I2.1.below ((An _ W2).drew));have a8:=I (i9.1.keep ((An _ W2).drew));have a:Kl W2.drew rb l (22+k) (Bn (k:Int)) (Bn (Aq c.ks j).ex.op) (Bn (Aq c.ks j).ex.num) (B_ (Aq c.ks j).ex.name) (CU xa (Aq c.ks j).ex.args.length xc) (U (4+k)):=⟨EE 0 b3.1 rfl,EE 1 b3.1 rfl,EE 2 b3.1 rfl,EE 3 b3.1 rfl,EE 4 b3.1 rfl,zm I2.1.box (by rw[show 22+k=18+(4+k) by omega];exact Vu _ U false (by omega))⟩;have k0:(0:Int)<=(k:Int):=by omega
     have k4:(k:Int)<4:=by omega
     have y:=Ag b3.1;have n:=Ag I2.1.box;have F1:l<F.heap.size:=I2.1.fix.1;have F5:vb<F.heap.size:=I2.1.fix.2.2.2.2.1;have i4:F.heap.size<=wr.heap.size:=x.1.size;have a0:=c9.1;have i5:rb≠vb:=by omega
     have i6:l≠vb:=I2.1.ne.1;have a5:=I (λb (hb:(U (4+k)).ownBlock=some b)=>x.1.owns (k:=4+k) (by omega) hb);clear a0;refine bE (λw'=>Kl w' rb l (22+k) (Bn (k:Int)) (Bn (Aq c.ks j).ex.op) (Bn (Aq c.ks j).ex.num) (B_ (Aq c.ks j).ex.name) (CU xa (Aq c.ks j).ex.args.length xc) (U (4+k))) [21] (by kernel_rfl) ?_;refine CG (i:=0) (v:=.pointer (some ⟨l,0,none⟩)) rfl a ?_;simp only[Act.put,O];refine CG (i:=1) (v:=.pointer (some ⟨rb,0,none⟩)) rfl a ?_;simp only[Act.put,O];refine CG (i:=2) (v:=Bn (k:Int)) rfl a ?_;simp only[Act.put,O];refine CG (i:=3) (v:=.pointer (some ⟨l,0,none⟩)) rfl a ?_;simp only[Act.put,O];refine CG (i:=4) (v:=.pointer (some ⟨rb,0,none⟩)) rfl a ?_;simp only[Act.put,O];refine CG (i:=5) (v:=Bn (k:Int)) rfl a ?_;simp only[Act.put,O];refine CG (i:=6) (v:=.pointer (some ⟨l,0,none⟩)) rfl a ?_;simp only[Act.put,O];refine CG (i:=7) (v:=.pointer (some ⟨l,22,none⟩)) rfl a ?_;simp only[Act.put,O];refine CG (i:=8) (v:=.pointer (some ⟨l,22+k,none⟩)) rfl a ?_;simp only[Act.put,O];refine CG (i:=9) (v:=U (4+k)) rfl a ?_;simp only[Act.put,O];refine CG (i:=10) (v:=.pointer (some ⟨kp,0,none⟩)) rfl a ?_;simp only[Act.put,O];refine CG (i:=11) (v:=.pointer (some ⟨rb,0,none⟩)) rfl a ?_;simp only[Act.put,O];refine CG (i:=12) (v:=Bn (k:Int)) rfl a ?_;simp only[Act.put,O];refine CG (i:=13) (v:=.pointer (some ⟨rb,1,none⟩)) rfl a ?_;simp only[Act.put,O];refine CG (i:=14) (v:=.agg #[(Aq c.ks j).ex.op,(Aq c.ks j).ex.num,B_ (Aq c.ks j).ex.name,CU xa (Aq c.ks j).ex.args.length xc]) rfl a ?_;simp only[Act.put,O];refine sPa (i:=18) (v:=.pointer (some ⟨l,0,none⟩)) rfl ?_;simp only[Act.put,O];refine sPa (i:=19) (v:=.pointer (some ⟨l,22,none⟩)) rfl ?_;simp only[Act.put,O];refine QY (i:=15) rfl λK hK=>?_;go_simp;refine(d3.1 k (Aq c.ks j).ex xa xc W2.drew (by omega) I3.1.cmp b6.1 HW.1 b5 f0.1 a8.1).mono ?_;rintro e z ⟨ya,yc,rfl,V,a1,a6,D⟩;obtain⟨T,A⟩:=aT (Bj (Ec c.cs c.cs.length) k (Aq c.ks j).ex);rw[<-A]at V a1;simp only[<-A];have b0:=I A;have a2:=I V;have X:=I a6;have d:=I D;clear A V a6;have Y:=Kl.far D y n (by simp;omega) (by simp;omega) a;clear D;refine hK.1 _ _ (λ_ _=>Y) ?_;clear hK K;try simp only[Act.put,O]
     have I4:=I (I3.1.move d.1 X.1);obtain⟨cs,Z,E⟩:=I4.1.cos k (by omega);have b8:=I Z;have b9:=I E;clear Z E;refine QY (i:=16) rfl λK hK=>?_;go_simp;refine hK.1 _ _ (λ_ _=>(Kl.below (J z _) (As y d.1.size) (As n d.1.size) Y)) ?_;clear hK K;try simp only[Act.put,O]
     refine QY (i:=17) rfl λK hK=>?_;refine wp_append_lies _ (Operand.tmp 142) (Operand.tmp 149) 162 rfl F.heap.size 174 k5 (.agg #[Bn 0,Bn 0,Ls]) 3 40 underlying162 k6 h7 h8 h9 rfl (by decide) (U (4+k)) _ cs rfl (b8.1.alloc _) ⟨z.heap.size,0,none⟩ 1 1 [Bn T.op,Bn T.num,CU ya T.args.length yc] rfl rfl (Hh z [Bn T.op,Bn T.num,CU ya T.args.length yc] 174) ?p1 (by decide) ?p2 ?p3 ?p4 (z.heap.size+1) (by simp) ?p5
     case p1=>intro u hu;simp at hu;rcases hu with rfl|rfl|rfl <;> rfl
     case p2=>have:=Yv c (c.ks.take j) k;have:=i8;simp only[List.length_take] at*;unfold maxLen;omega
     case p3=>have:=Yv c (c.ks.take j) k;have:=i8;simp only[List.length_take] at*;omega
     case p4=>simp;exact Nat.le_succ_of_le (Bf I3.1.size d.1.size)
     intro g a7 w3 m q c3 c4;have B:(U (4+k)).ownBlock≠some rb:=λe=>by have:=(a5.1 rb e).2;have:=c9.1;omega
     have s:(U (4+k)).ownBlock≠some l:=λe=>by have h1:F.heap.size<=l:=(a5.1 l e).1;omega
     have b1:=Kl.far q (by simp;exact Nat.lt_succ_of_lt (As y d.1.size)) (by simp;exact Nat.lt_succ_of_lt (As n d.1.size)) B s (Kl.below (J z _) (As y d.1.size) (As n d.1.size) Y);refine hK.1 _ _ (λ_ _=>b1) ?_;clear hK K;try simp only[Act.put,O]
     refine QY (i:=20) rfl λK hK=>?_;go_simp;refine hK.1 _ _ (λ_ h=>h) ?_;clear hK K;try simp only[Act.put,O]
     have GR:=I (Fo.mk (Lib.grownBy_trans (zP _ (J z _)) q) (by show some g=(U (4+k)).ownBlock\/∃H,z.heap.size<=H/\some g=some H;rcases c3 with h|h;exact .inl h.symm;exact .inr ⟨_,Nat.le_succ _,by rw[h]⟩):Fo (⟨t,c,za,zc,aa,ac,fa,fc,p,zb,l,cb,kp,ib,vb,ps,w.heap.size,F.heap.size⟩:Fb) z w3 U (4+k) (CU (some ⟨g,0,none⟩) ((Eu c (c.ks.take j) k).length+1) a7));have b2:w3.heap[l]?=some (.cells (Nl (⟨t,c,za,zc,aa,ac,fa,fc,p,zb,l,cb,kp,ib,vb,ps,w.heap.size,F.heap.size⟩:Fb) U false) 165 (0,0)):=(q.block l (by simp;exact Nat.lt_succ_of_lt (As n d.1.size)) (Ne.symm s)).trans (zd I4.1.box);have f9:w3.cell? ⟨l,22+k,none⟩=some (U (4+k)):=b1.2.2.2.2.2;have g7:w3.frozen? ⟨l,22+k,none⟩=false:=zQ b2;have c5:=Ag b2;refine QY (i:=21) rfl λK hK=>?_;go_simp;refine hK.1 _ _ (λh _=>aB (by decide:(21:Nat)∈ [21]) h) ?_;clear hK K;try simp only[Act.put,O]
     have I5:=I (Bp.cost I3.1 (by omega) d.1 X.1 b9.1 a2.1 a1 GR.1 m);rw[show 18+(4+k)=22+k by omega]at I5;refine zM (by kernel_rfl) ?_;clear b2 f9 g7 c5 b1 Y a GR m q c3 c4 B s I4 b8 b9 a2 X d I3;have HU:=I (show Eu c (c.ks.take (j+1))=Fj (Eu c (c.ks.take j)) k T by rw[zjk _ _ C,nS c _ _ j9.1,b0.1];rfl);generalize w3.setCell ⟨l,22+k,none⟩ (CU (some ⟨g,0,none⟩) ((Eu c (c.ks.take j) k).length+1) a7)=W4 at*;go_wp2;go_roundw
     case rel=>exact⟨j+1,_,by omega,by go_num,I (by rw[HU.1];exact I5.1)⟩
     case measure=>simp[intOf];omega
   have d4:=Ab (J W1 (Obj.cells #[.bool true] 4)) ((An _ (W1.alloc (Obj.cells #[.bool true] 4))).drew);have I2:=I (I1.1.below d4);have b3:=I ((d4.block _ (Ag QB.1)).trans QB.1);have i9:=I (h6.1.keep (d4.mono (Bf I1.1.bs I1.1.size)));go_wp2_with fail;generalize (W1.alloc (Obj.cells #[.bool true] 4)).drew=W2 at*;clear d4;have I3:=I (I2.1.below ((An _ W2).drew));have a8:=I (i9.1.keep ((An _ W2).drew));have a:Kl W2.drew rb l (22+k) (Bn (k:Int)) (Bn (Aq c.ks j).ex.op) (Bn (Aq c.ks j).ex.num) (B_ (Aq c.ks j).ex.name) (CU xa (Aq c.ks j).ex.args.length xc) (U (4+k)):=⟨EE 0 b3.1 rfl,EE 1 b3.1 rfl,EE 2 b3.1 rfl,EE 3 b3.1 rfl,EE 4 b3.1 rfl,zm I2.1.box (by rw[show 22+k=18+(4+k) by omega];exact Vu _ U false (by omega))⟩;have k0:(0:Int)<=(k:Int):=by omega
   have k4:(k:Int)<4:=by omega
   have y:=Ag b3.1;have n:=Ag I2.1.box;have F1:l<F.heap.size:=I2.1.fix.1;have F5:vb<F.heap.size:=I2.1.fix.2.2.2.2.1;have i4:F.heap.size<=wr.heap.size:=x.1.size;have a0:=c9.1;have i5:rb≠vb:=by omega
   have i6:l≠vb:=I2.1.ne.1;have a5:=I (λb (hb:(U (4+k)).ownBlock=some b)=>x.1.owns (k:=4+k) (by omega) hb);clear a0;have c6:=I (show ∃ua uc,U (4+k)=CU ua (Eu c (c.ks.take j) k).length uc by
    obtain⟨cs,ho,_⟩:=I2.1.cos k (by omega);exact xO ho)
   obtain⟨ua,uc,j0⟩:=c6.1;clear c6;have c6:=I j0;clear j0;refine bE (λw'=>Kl w' rb l (22+k) (Bn (k:Int)) (Bn (Aq c.ks j).ex.op) (Bn (Aq c.ks j).ex.num) (B_ (Aq c.ks j).ex.name) (CU xa (Aq c.ks j).ex.args.length xc) (U (4+k))) [19] (by kernel_rfl) ?_;refine CG (i:=0) (v:=.pointer (some ⟨l,0,none⟩)) rfl a ?_;simp only[Act.put,O];refine CG (i:=1) (v:=.pointer (some ⟨rb,0,none⟩)) rfl a ?_;simp only[Act.put,O];refine CG (i:=2) (v:=Bn (k:Int)) rfl a ?_;simp only[Act.put,O];refine CG (i:=3) (v:=.pointer (some ⟨l,0,none⟩)) rfl a ?_;simp only[Act.put,O];refine CG (i:=4) (v:=.pointer (some ⟨l,22,none⟩)) rfl a ?_;simp only[Act.put,O];refine CG (i:=5) (v:=.pointer (some ⟨l,22+k,none⟩)) rfl a ?_;simp only[Act.put,O];refine CG (i:=6) (v:=U (4+k)) rfl a ?_;simp only[Act.put,O];refine CG (i:=7) (v:=.pointer (some ⟨kp,0,none⟩)) rfl a ?_;simp only[Act.put,O];refine CG (i:=8) (v:=.pointer (some ⟨rb,0,none⟩)) rfl a ?_;simp only[Act.put,O];refine CG (i:=9) (v:=Bn (k:Int)) rfl a ?_;simp only[Act.put,O];refine CG (i:=10) (v:=.pointer (some ⟨rb,1,none⟩)) rfl a ?_;simp only[Act.put,O];refine CG (i:=11) (v:=.agg #[(Aq c.ks j).ex.op,(Aq c.ks j).ex.num,B_ (Aq c.ks j).ex.name,CU xa (Aq c.ks j).ex.args.length xc]) rfl a ?_;simp only[Act.put,O];refine zT (i:=13) (v:=Bn ((Eu c (c.ks.take j) k).length:Nat)) rfl (λw'=>?_) ?_
   . have hu:=c6.1;go_simp
   simp only[Act.put,O];refine sPa (i:=16) (v:=.pointer (some ⟨l,0,none⟩)) rfl ?_;simp only[Act.put,O];refine sPa (i:=17) (v:=.pointer (some ⟨l,22,none⟩)) rfl ?_;simp only[Act.put,O];refine' jn (λEND=>?ma) ?mb
   case ma=>
    refine Yr (i:=12) (j:=14) (by kernel_rfl) rfl rfl (by rfl) (by rfl) (λK hK=>?_) (λK hK=>?_)
    . go_simp;refine(d3.1 k (Aq c.ks j).ex xa xc W2.drew (by omega) I3.1.cmp b6.1 HW.1 b5 f0.1 a8.1).mono ?_;rintro e z ⟨ya,yc,rfl,V,a1,a6,D⟩;obtain⟨T,A⟩:=aT (Bj (Ec c.cs c.cs.length) k (Aq c.ks j).ex);rw[<-A]at V a1;simp only[<-A];have b0:=I A;have a2:=I V;have X:=I a6;have d:=I D;clear A V a6;have Y:=Kl.far D y n (by simp;omega) (by simp;omega) a;clear D;refine hK.1 _ _ (λ_ _=>Y) ?_;clear hK K;try simp only[Act.put,O]
      refine QY (i:=14) rfl λK hK=>?_;go_simp;refine hK.1 _ _ (λ_ _=>(Kl.below (J z _) (As y d.1.size) (As n d.1.size) Y)) ?_;clear hK K;try simp only[Act.put,O]
      have HJ:=J z jC;have HZ:=zh z jC;have f1:=(Kl.below (J z jC) (As y d.1.size) (As n d.1.size) Y);generalize z.alloc jC=wz at*;generalize z.heap.size=zq at HZ ⊢;obtain⟨W,hW⟩:=aT W2.drew;rw[<-hW]at I3 d a2;have L1:rb<W.heap.size:=by rw[hW];exact y
      have L2:l<W.heap.size:=by rw[hW];exact n
      exact END W z wz zq ya yc T I3 b0 a2 a1 X d HJ HZ L1 L2 f1
    go_simp;have j1:=Kl.below (J W2.drew jC) y n a;refine hK.1 _ _ (λ_ _=>j1) ?_;clear hK K;try simp only[Act.put,O]
    have j2:=I (I3.1.below (J W2.drew jC));have j3:=I (a8.1.keep ((J W2.drew jC).mono (Bf I3.1.bs I3.1.size)));have QZ:=I (zh W2.drew jC);obtain⟨zq,g8⟩:=aT W2.drew.heap.size;have l9:zq≠vb:=by have h1:vb<F.heap.size:=F5;have h2:F.heap.size<=W2.drew.heap.size:=I3.1.size;omega
    rw[<-g8]at QZ;replace y:rb<(W2.drew.alloc jC).heap.size:=As y (by simp);replace n:l<(W2.drew.alloc jC).heap.size:=As n (by simp);have m0:=Ag QZ.1;simp only[show W2.heap.size=zq from g8.symm];simp only[show(W2.alloc jC).drew=W2.drew.alloc jC from rfl];generalize W2.drew.alloc jC=W5 at*;clear g8;try clear I3 a8
    refine QY (i:=12) rfl λK hK=>?_;go_simp;refine(d3.1 k (Aq c.ks j).ex xa xc W5 (by omega) j2.1.cmp b6.1 HW.1 b5 f0.1 j3.1).mono ?_;rintro e z ⟨ya,yc,rfl,V,a1,a6,D⟩;obtain⟨T,A⟩:=aT (Bj (Ec c.cs c.cs.length) k (Aq c.ks j).ex);rw[<-A]at V a1;simp only[<-A];have b0:=I A;have a2:=I V;have X:=I a6;have d:=I D;clear A V a6;have Y:=Kl.far D y n (by simp;omega) (by simp;omega) j1;have m1:=(D.block zq m0 (by simpa using l9)).trans QZ.1;clear D;refine hK.1 _ _ (λ_ _=>Y) ?_;clear hK K;try simp only[Act.put,O]
    exact END W5 z z zq ya yc T j2 b0 a2 a1 X d (An _ _) m1 y n Y
   clear I3 a8 y n a;rintro W z wz zq ya yc T I3 b0 a2 a1 X d HJ HZ y n f1;try simp only[Act.put,O]
   have I4:=I (I3.1.move d.1 X.1);obtain⟨cs,Z,E⟩:=I4.1.cos k (by omega);have b8:=I Z;have b9:=I E;clear Z E;refine QY (i:=15) rfl λK hK=>?_;refine wp_append_lies _ (Operand.tmp 119) (Operand.tmp 127) 162 rfl F.heap.size 174 k5 (.agg #[Bn 0,Bn 0,Ls]) 3 40 underlying162 k6 h7 h8 h9 rfl (by decide) (U (4+k)) _ cs rfl (b8.1.kept (zP none HJ) (Classical.em _)) ⟨zq,0,none⟩ 1 1 [Bn 0,Bn 0,Ls] rfl rfl (uQ HZ) ?ka1 (by decide) ?ka2 ?ka3 ?ka4 (wz.heap.size) rfl ?ka5
   case ka1=>intro u hu;simp at hu;rcases hu with rfl|rfl|rfl <;> rfl
   case ka2=>have:=Yv c (c.ks.take j) k;have:=i8;simp only[List.length_take] at*;unfold maxLen;omega
   case ka3=>have:=Yv c (c.ks.take j) k;have:=i8;simp only[List.length_take] at*;omega
   case ka4=>exact Bf I3.1.size (Bf d.1.size HJ.size)
   intro g a7 w3 m q c3 c4;have B:(U (4+k)).ownBlock≠some rb:=λe=>by have:=(a5.1 rb e).2;have:=c9.1;omega
   have s:(U (4+k)).ownBlock≠some l:=λe=>by have h1:F.heap.size<=l:=(a5.1 l e).1;omega
   have b1:=Kl.far q (As y (Bf d.1.size HJ.size)) (As n (Bf d.1.size HJ.size)) B s f1;refine hK.1 _ _ (λ_ _=>b1) ?_;clear hK K;try simp only[Act.put,O]
   refine QY (i:=18) rfl λK hK=>?_;go_simp;refine hK.1 _ _ (λ_ h=>h) ?_;clear hK K;try simp only[Act.put,O]
   have GR:=I (Fo.mk (Lib.grownBy_trans (zP _ HJ) q) (by show some g=(U (4+k)).ownBlock\/∃H,z.heap.size<=H/\some g=some H;rcases c3 with h|h;exact .inl h.symm;exact .inr ⟨_,HJ.size,by rw[h]⟩):Fo (⟨t,c,za,zc,aa,ac,fa,fc,p,zb,l,cb,kp,ib,vb,ps,w.heap.size,F.heap.size⟩:Fb) z w3 U (4+k) (CU (some ⟨g,0,none⟩) ((Eu c (c.ks.take j) k).length+1) a7));have b2:w3.heap[l]?=some (.cells (Nl (⟨t,c,za,zc,aa,ac,fa,fc,p,zb,l,cb,kp,ib,vb,ps,w.heap.size,F.heap.size⟩:Fb) U false) 165 (0,0)):=(q.block l (As n (Bf d.1.size HJ.size)) (Ne.symm s)).trans ((HJ.block _ (Ag I4.1.box)).trans I4.1.box);have f9:w3.cell? ⟨l,22+k,none⟩=some (U (4+k)):=b1.2.2.2.2.2;have g7:w3.frozen? ⟨l,22+k,none⟩=false:=zQ b2;have c5:=Ag b2;refine QY (i:=19) rfl λK hK=>?_;go_simp;refine hK.1 _ _ (λh _=>aB (by decide:(19:Nat)∈ [19]) h) ?_;clear hK K;try simp only[Act.put,O]
   have I5:=I (Bp.cost (f:=zE.mk 0 0 []) (fa:=none) (fc:=0) I3.1 (by omega) d.1 X.1 b9.1 ⟨0,0,λh=>aB rfl h,.nil _ _⟩ (by decide) GR.1 m);have j4:=I (Gi.past I3.1 I4.1 d.1.size (by omega) GR.1 a2.1);rw[show 18+(4+k)=22+k by omega]at I5 j4;refine zM (by kernel_rfl) ?_;have HU:=I (show Eu c (c.ks.take (j+1))=Fj (Eu c (c.ks.take j)) k T by rw[zjk _ _ C,nS c _ _ j9.1,b0.1];rfl);have t6:Af (upd U (4+k) (CU (some ⟨g,0,none⟩) ((Eu c (c.ks.take j) k).length+1) a7) (4+k)=(CU (some ⟨g,0,none⟩) ((Eu c (c.ks.take j) k).length+1) a7)):=I (Uq _ _ _);clear b2 f9 g7 c5 b1 f1 HJ HZ GR m q c3 c4 B s I4 b8 b9 a2 X d I3 c6;generalize w3.setCell ⟨l,22+k,none⟩ (CU (some ⟨g,0,none⟩) ((Eu c (c.ks.take j) k).length+1) a7)=W4 at*;generalize upd U (4+k) (CU (some ⟨g,0,none⟩) ((Eu c (c.ks.take j) k).length+1) a7)=U5 at*;obtain⟨t7,j5,_⟩:=I5.1.cos k (by omega);have a3:W4.ownsRow F.heap.size 174 3 (CU (some ⟨g,0,none⟩) ((Eu c (c.ks.take j) k).length+1) a7) ((Eu c (c.ks.take j) k).length+1) t7:=by
    have h:=j5;rw[t6.1,Zf,Gh]at h;exact h
   obtain⟨N,hN⟩:=aT ((Eu c (c.ks.take j) k).length);have b4:=I (Bp.fill (f:=T) (fa:=ya) (fc:=yc) I5.1 (by omega) t6.1 a1 j4.1);simp only[<-hN]at b4 a3 ⊢;have HN:=I hN;clear hN j5;have y0:=a3.cellAt (N*3) (by omega);have y1:=a3.cellAt (N*3+1) (by omega);have y2:=a3.cellAt (N*3+2) (by omega);have m2:t7.length=(N+1)*3:=a3.1;rw[Cz (by omega)]at y0 y1 y2;have z0:=a3.frozenAt (N*3);have z1:=a3.frozenAt (N*3+1);have z2:=a3.frozenAt (N*3+2);have lg:g<W4.heap.size:=(a3.lt g rfl).2;clear a3;go_wp2;go_roundw
   case rel=>exact⟨j+1,_,by omega,by go_num,I (by rw[HU.1];exact b4.1)⟩
   case measure=>simp[intOf];omega
 obtain rfl:j=c.ks.length:=by omega
 rw[List.take_length]at x;obtain⟨W8,rfl⟩:∃W8:Wd,W8=wr:=⟨_,rfl⟩;have t8:=I (λi (hi:i<c.xs.length)=>nZ c7.1 hi);have m3:=Ol x.1.con;have t9:=Ag x.1.con;have B0:c.xs.length<=1:=by have h:=(Vq (Ud c7.1).g).1;simp[Li]at h;omega
 rw[<-PN c7.1]at x;clear k2 hj C;go_wp2_with fail;clear m3 t9;go_loopw [158] (λi wr=>∃(j:Nat) (U:Nat->Value),j<=c.xs.length/\i=Bn j/\Af (Bp (⟨t,c,za,zc,aa,ac,fa,fc,p,zb,l,cb,kp,ib,vb,ps,w.heap.size,F.heap.size⟩:Fb) w F wr U (Fm c c.rs) (Cp c j) false)) (λi _=>c.xs.length-(intOf i).toNat)
 case atStart=>exact⟨0,U,Bg _,rfl,x⟩
 clear x;obtain⟨j,U,hj,rfl,x⟩:=hrel;by_cases C:j<c.xs.length
 . obtain⟨d7,b5,d8⟩:=t8.1 j C;obtain⟨b,c8,u0,hb,a4⟩:=((HC.1.keep x.1.bel).xs).cells (by omega);obtain⟨xa,xc,B1,⟨r1,r2,r3,r4⟩,d9,b7⟩:=a4.at j C;have t1:b<wr.heap.size:=As hb (Bf x.1.bs x.1.size);have HW:=I d7;have f0:=I d8;rw[u0];clear a4 u0 d7 d8;go_wp2_with fail;have I1:=I (x.1.below (J wr (oE (Au c.xs j) xa xc)));have QB:=I (zh wr (oE (Au c.xs j) xa xc));have h6:=I (b7.keep ((J wr (oE (Au c.xs j) xa xc)).mono (Bf x.1.bs x.1.size)));have b6:=I d9;obtain⟨rb,a0⟩:=aT wr.heap.size;rw[<-a0]at QB;simp only[<-a0];have c9:=I a0;clear a0;generalize wr.alloc (oE (Au c.xs j) xa xc)=W1 at*;clear r1 r2 r3 r4;have I3:=I (I1.1.below ((An _ W1).drew));have a8:=I (h6.1.keep ((An _ W1).drew));have a:Nx W1.drew rb l 26 (Bn (Au c.xs j).op) (Bn (Au c.xs j).num) (B_ (Au c.xs j).name) (CU xa (Au c.xs j).args.length xc) (U 8):=⟨EE 0 QB.1 rfl,EE 1 QB.1 rfl,EE 2 QB.1 rfl,EE 3 QB.1 rfl,zm I1.1.box (Vu _ U false (k:=8) (by omega))⟩;have y:=Ag QB.1;have n:=Ag I1.1.box;have F1:l<F.heap.size:=I1.1.fix.1;have F5:vb<F.heap.size:=I1.1.fix.2.2.2.2.1;have i4:F.heap.size<=wr.heap.size:=x.1.size;have a0:=c9.1;have i5:rb≠vb:=by omega
   have t2:rb≠l:=by omega
   have i6:l≠vb:=I1.1.ne.1;have a5:=I (λb (hb:(U 8).ownBlock=some b)=>x.1.owns (k:=8) (by omega) hb);clear a0;have c6:=I (show ∃ua uc,U 8=CU ua (Cp c j 4).length uc by
    obtain⟨cs,ho,_⟩:=I1.1.cos 4 (by omega);exact xO ho)
   obtain⟨ua,uc,j0⟩:=c6.1;clear c6;have c6:=I j0;clear j0;have u1:=I (show(Cp c j 4).length<=1 by show((c.xs.take j).map (Eb c 1)).length<=1;simp;omega);refine bE (λw'=>Nx w' rb l 26 (Bn (Au c.xs j).op) (Bn (Au c.xs j).num) (B_ (Au c.xs j).name) (CU xa (Au c.xs j).args.length xc) (U 8)) [11,14] (by kernel_rfl) ?_;refine CG (i:=0) (v:=.pointer (some ⟨l,0,none⟩)) rfl a ?_;simp only[Act.put,O];refine CG (i:=1) (v:=.pointer (some ⟨l,0,none⟩)) rfl a ?_;simp only[Act.put,O];refine CG (i:=2) (v:=.pointer (some ⟨l,26,none⟩)) rfl a ?_;simp only[Act.put,O];refine CG (i:=3) (v:=U 8) rfl a ?_;simp only[Act.put,O];refine CG (i:=4) (v:=.pointer (some ⟨kp,0,none⟩)) rfl a ?_;simp only[Act.put,O];refine CG (i:=5) (v:=.agg #[(Au c.xs j).op,(Au c.xs j).num,B_ (Au c.xs j).name,CU xa (Au c.xs j).args.length xc]) rfl a ?_;simp only[Act.put,O];refine zT (i:=7) (v:=Bn ((Cp c j 4).length:Nat)) rfl (λw'=>?_) ?_
   . have hu:=c6.1;go_simp
   simp only[Act.put,O];refine' jn (λEND=>?na) ?nb
   case na=>
    refine Yr (i:=6) (j:=8) (by kernel_rfl) rfl rfl (by rfl) (by rfl) (λK hK=>?_) (λK hK=>?_)
    . go_simp;refine(d3.1 1 (Au c.xs j) xa xc W1.drew (by omega) I3.1.cmp b6.1 HW.1 b5 f0.1 a8.1).mono ?_;rintro e z ⟨ya,yc,rfl,V,a1,a6,D⟩;obtain⟨T,A⟩:=aT (Bj (Ec c.cs c.cs.length) (1:Nat) (Au c.xs j));rw[<-A]at V a1;simp only[<-A];have b0:=I A;have a2:=I V;have X:=I a6;have d:=I D;clear A V a6;have Y:=Nx.far D y n (by simp;omega) (by simp;omega) a;clear D;refine hK.1 _ _ (λ_ _=>Y) ?_;clear hK K;try simp only[Act.put,O]
      refine QY (i:=8) rfl λK hK=>?_;go_simp;refine hK.1 _ _ (λ_ _=>(Nx.below (J z _) (As y d.1.size) (As n d.1.size) Y)) ?_;clear hK K;try simp only[Act.put,O]
      have HJ:=J z jC;have HZ:=zh z jC;have f1:=(Nx.below (J z jC) (As y d.1.size) (As n d.1.size) Y);generalize z.alloc jC=wz at*;generalize z.heap.size=zq at HZ ⊢;obtain⟨W,hW⟩:=aT W1.drew;rw[<-hW]at I3 d a2;have L1:rb<W.heap.size:=by rw[hW];exact y
      have L2:l<W.heap.size:=by rw[hW];exact n
      exact END W z wz zq ya yc T I3 b0 a2 a1 X d HJ HZ L1 L2 f1
    go_simp;have j1:=Nx.below (J W1.drew jC) y n a;refine hK.1 _ _ (λ_ _=>j1) ?_;clear hK K;try simp only[Act.put,O]
    have j2:=I (I3.1.below (J W1.drew jC));have j3:=I (a8.1.keep ((J W1.drew jC).mono (Bf I3.1.bs I3.1.size)));have QZ:=I (zh W1.drew jC);obtain⟨zq,g8⟩:=aT W1.drew.heap.size;have l9:zq≠vb:=by have h1:vb<F.heap.size:=F5;have h2:F.heap.size<=W1.drew.heap.size:=I3.1.size;omega
    rw[<-g8]at QZ;replace y:rb<(W1.drew.alloc jC).heap.size:=As y (by simp);replace n:l<(W1.drew.alloc jC).heap.size:=As n (by simp);have m0:=Ag QZ.1;simp only[show W1.heap.size=zq from g8.symm];simp only[show(W1.alloc jC).drew=W1.drew.alloc jC from rfl];generalize W1.drew.alloc jC=W5 at*;clear g8;try clear I3 a8
    refine QY (i:=6) rfl λK hK=>?_;go_simp;refine(d3.1 1 (Au c.xs j) xa xc W5 (by omega) j2.1.cmp b6.1 HW.1 b5 f0.1 j3.1).mono ?_;rintro e z ⟨ya,yc,rfl,V,a1,a6,D⟩;obtain⟨T,A⟩:=aT (Bj (Ec c.cs c.cs.length) (1:Nat) (Au c.xs j));rw[<-A]at V a1;simp only[<-A];have b0:=I A;have a2:=I V;have X:=I a6;have d:=I D;clear A V a6;have Y:=Nx.far D y n (by simp;omega) (by simp;omega) j1;have m1:=(D.block zq m0 (by simpa using l9)).trans QZ.1;clear D;refine hK.1 _ _ (λ_ _=>Y) ?_;clear hK K;try simp only[Act.put,O]
    exact END W5 z z zq ya yc T j2 b0 a2 a1 X d (An _ _) m1 y n Y
   clear I3 a8 y n a;rintro W z wz zq ya yc T I3 b0 a2 a1 X d HJ HZ y n f1;try simp only[Act.put,O]
   have I4:=I (I3.1.move d.1 X.1);obtain⟨cs,Z,E⟩:=I4.1.cos 4 (by omega);have b8:Af (z.ownsRow F.heap.size 174 3 (U 8) (Cp c j 4).length cs):=I Z;have b9:=I E;clear Z E;refine QY (i:=9) rfl λK hK=>?_;refine wp_append_lies _ (Operand.tmp 165) (Operand.tmp 170) 162 rfl F.heap.size 174 k5 (.agg #[Bn 0,Bn 0,Ls]) 3 40 underlying162 k6 h7 h8 h9 rfl (by decide) (U 8) _ cs rfl (b8.1.kept (zP none HJ) (Classical.em _)) ⟨zq,0,none⟩ 1 1 [Bn 0,Bn 0,Ls] rfl rfl (uQ HZ) ?xa1 (by decide) ?xa2 ?xa3 ?xa4 (wz.heap.size) rfl ?xa5
   case xa1=>intro u hu;simp at hu;rcases hu with rfl|rfl|rfl <;> rfl
   case xa2=>have:=u1.1;unfold maxLen;omega
   case xa3=>have:=u1.1;omega
   case xa4=>exact Bf I3.1.size (Bf d.1.size HJ.size)
   intro g a7 w3 m q c3 c4;have B:(U 8).ownBlock≠some rb:=λe=>by have:=(a5.1 rb e).2;have:=c9.1;omega
   have s:(U 8).ownBlock≠some l:=λe=>by have h1:F.heap.size<=l:=(a5.1 l e).1;omega
   have b1:=Nx.far q (As y (Bf d.1.size HJ.size)) (As n (Bf d.1.size HJ.size)) B s f1;refine hK.1 _ _ (λ_ _=>b1) ?_;clear hK K;try simp only[Act.put,O]
   have GR:=I (Fo.mk (Lib.grownBy_trans (zP _ HJ) q) (by show some g=(U 8).ownBlock\/∃H,z.heap.size<=H/\some g=some H;rcases c3 with h|h;exact .inl h.symm;exact .inr ⟨_,HJ.size,by rw[h]⟩):Fo (⟨t,c,za,zc,aa,ac,fa,fc,p,zb,l,cb,kp,ib,vb,ps,w.heap.size,F.heap.size⟩:Fb) z w3 U (4+4) (CU (some ⟨g,0,none⟩) ((Cp c j 4).length+1) a7));have b2:w3.heap[l]?=some (.cells (Nl (⟨t,c,za,zc,aa,ac,fa,fc,p,zb,l,cb,kp,ib,vb,ps,w.heap.size,F.heap.size⟩:Fb) U false) 165 (0,0)):=(q.block l (As n (Bf d.1.size HJ.size)) (Ne.symm s)).trans ((HJ.block _ (Ag I4.1.box)).trans I4.1.box);have I5:=I (Bp.cost (k:=4) (f:=zE.mk 0 0 []) (fa:=none) (fc:=0) I3.1 (by omega) d.1 X.1 b9.1 ⟨0,0,λh=>aB rfl h,.nil _ _⟩ (by decide) GR.1 m);have j4:=I (Gi.past I3.1 I4.1 d.1.size (by omega) GR.1 a2.1);have b4:=I (Bp.fill (k:=4) (f:=T) (fa:=ya) (fc:=yc) I5.1 (by omega) (Uq _ _ _) a1 j4.1);have HU:=I (show Cp c (j+1)=Fj (Cp c j) 4 T by rw[xI C,b0.1];rfl);have u3:=m.lt g rfl;have x4:g≠l:=by have h1:F.heap.size<=g:=u3.1;omega
   obtain⟨N,hN⟩:=aT ((Cp c j 4).length);have m2:=m.1;simp only[<-hN]at b4 m m2 ⊢;clear hN;have y0:=m.cellAt (N*3) (by omega);have y1:=m.cellAt (N*3+1) (by omega);have y2:=m.cellAt (N*3+2) (by omega);rw[Cz (by omega)]at y0 y1 y2;have z0:=m.frozenAt (N*3);have z1:=m.frozenAt (N*3+1);have z2:=m.frozenAt (N*3+2);have lg:g<w3.heap.size:=c4;have f9:w3.cell? ⟨l,26,none⟩=some (U 8):=b1.2.2.2.2;have g7:w3.frozen? ⟨l,26,none⟩=false:=zQ b2;have c5:=Ag b2;clear I5 j4 GR q c3 B s I4 b8 b9 a2 X d I3 c6 m b2 b1;have k1:Af (Bp (⟨t,c,za,zc,aa,ac,fa,fc,p,zb,l,cb,kp,ib,vb,ps,w.heap.size,F.heap.size⟩:Fb) w F ((((w3.setCell ⟨l,26,none⟩ (CU (some ⟨g,0,none⟩) (N+1) a7)).setCell ⟨g,N*3,none⟩ (Bn T.op)).setCell ⟨g,N*3+1,none⟩ (Bn T.num)).setCell ⟨g,N*3+2,none⟩ (CU ya T.args.length yc)) (upd U 8 (CU (some ⟨g,0,none⟩) (N+1) a7)) (Fm c c.rs) (Fj (Cp c j) 4 T) false):=b4;clear b4;refine zT (i:=10) (v:=.pointer (some ⟨g,N*3,none⟩)) rfl (λw'=>?_) ?_
   . go_simp;intro h;omega
   simp only[Act.put,O];refine sPa (i:=12) (v:=.pointer (some ⟨l,0,none⟩)) rfl ?_;simp only[Act.put,O];refine sPa (i:=13) (v:=.pointer (some ⟨l,26,none⟩)) rfl ?_;simp only[Act.put,O];refine' jn0 (λE9=>?mc) ?md
   case mc=>
    refine Yr (i:=11) (j:=14) (by kernel_rfl) rfl rfl (by rfl) (by rfl) (λK hK=>?_) (λK hK=>?_)
    . go_simp;refine hK.1 _ _ (λh _=>aB (by decide:(11:Nat)∈ [11,14]) h) ?_;clear hK K;try simp only[Act.put,O]
      refine QY (i:=14) rfl λK hK=>?_;go_simp;refine hK.1 _ _ (λh _=>aB (by decide:(14:Nat)∈ [11,14]) h) ?_;clear hK K;try simp only[Act.put,O]
      rw[AT _ x4];exact E9
    go_simp;refine hK.1 _ _ (λh _=>aB (by decide:(14:Nat)∈ [11,14]) h) ?_;clear hK K;try simp only[Act.put,O]
    refine QY (i:=11) rfl λK hK=>?_;go_simp;refine hK.1 _ _ (λh _=>aB (by decide:(11:Nat)∈ [11,14]) h) ?_;clear hK K;try simp only[Act.put,O]
    exact E9
   refine zM (by kernel_rfl) ?_;generalize (((w3.setCell ⟨l,26,none⟩ (CU (some ⟨g,0,none⟩) (N+1) a7)).setCell ⟨g,N*3,none⟩ (Bn T.op)).setCell ⟨g,N*3+1,none⟩ (Bn T.num)).setCell ⟨g,N*3+2,none⟩ (CU ya T.args.length yc)=W9 at*;clear y0 y1 y2 z0 z1 z2 lg f9 g7 c5 m2 u3;go_wp2;go_roundw
   case rel=>exact⟨j+1,_,by omega,by go_num,I (by rw[HU.1];exact k1.1)⟩
   case measure=>simp[intOf];omega
 obtain rfl:j=c.xs.length:=by omega
 obtain⟨m4,rfl⟩:∃m4:Wd,m4=wr:=⟨_,rfl⟩;obtain⟨x5,x6,u2,E⟩:=x.1.rs (k:=2) (by omega);have u4:m4.cell? ⟨l,20,none⟩=some (CU x5 (Fm c c.rs 2).length x6):=by rw[<-u2];exact zm x.1.box (Vu _ U false (k:=2) (by omega))
 have d5:=Ag x.1.box;have B2:(Fm c c.rs 2).length<=10000:=Bf (nF c c.rs 2) l8;clear E;go_wp2_with fail;clear u4 d5 u2;go_loopw [182] (λi wr=>∃(j:Nat),j<=(Fm c c.rs 2).length/\i=Bn j/\Af (Bp (⟨t,c,za,zc,aa,ac,fa,fc,p,zb,l,cb,kp,ib,vb,ps,w.heap.size,F.heap.size⟩:Fb) w F wr U (Fm c c.rs) (Cp c c.xs.length) (Sq ((Fm c c.rs 2).take j)))) (λi _=>(Fm c c.rs 2).length-(intOf i).toNat)
 case atStart=>exact⟨0,Bg _,rfl,x⟩
 clear x;obtain⟨j,hj,rfl,x⟩:=hrel;have d5:=Ag x.1.box;by_cases C:j<(Fm c c.rs 2).length
 . obtain⟨ra,rc,u2,f2⟩:=x.1.rs (k:=2) (by omega);obtain⟨b,c8,rfl,hb,a4⟩:=GE f2 (by omega);obtain⟨_,_,hF⟩:=a4 j C;have m5:=I hF;have u4:wr.cell? ⟨l,20,none⟩=some (CU (some ⟨b,c8,none⟩) (Fm c c.rs 2).length rc):=by rw[<-u2];exact zm x.1.box (Vu _ U _ (k:=2) (by omega))
   obtain⟨bq,g9⟩:=aT (Sq ((Fm c c.rs 2).take j));rw[<-g9]at x;have x7:wr.cell? ⟨l,27,none⟩=some (.bool bq):=zm x.1.box rfl;have x8:wr.frozen? ⟨l,27,none⟩=false:=zQ x.1.box;have j6:=I g9;clear a4 f2 u2 hF g9;cases bq
   . go_wp2_with fail;refine(yD 1 noX (Eh (Fm c c.rs 2) j).2 b (c8+j*4+1) wr m5.1).mono ?_;rintro e w1 ⟨rfl,rfl⟩;go_wp2;go_roundw
     case rel=>exact⟨j+1,by omega,by go_num,I (by rw[vC C,<-j6.1];simpa using x.1.night (Pm 1 (Eh (Fm c c.rs 2) j).2))⟩
     case measure=>simp[intOf];omega
   go_wp2;go_roundw
   case rel=>exact⟨j+1,by omega,by go_num,I (by rw[vC C,<-j6.1];simpa using x.1.night true)⟩
   case measure=>simp[intOf];omega
 obtain rfl:j=(Fm c c.rs 2).length:=by omega
 rw[List.take_length]at x;obtain⟨m6,rfl⟩:∃m6:Wd,m6=wr:=⟨_,rfl⟩;obtain⟨ka2,x9,u6,m7⟩:=x.1.rows (k:=2) (by omega);have u5:m6.cell? ⟨l,24,none⟩=some (CU ka2 (Cp c c.xs.length 2).length x9):=by rw[<-u6];exact zm x.1.box (Vu _ U _ (k:=6) (by omega))
 have B3:(Cp c c.xs.length 2).length<=10000:=Bf (Yv c c.ks 2) i8;clear m7;go_wp2_with fail;clear u5 d5 u6;go_loopw [210] (λi wr=>∃(j:Nat),j<=(Cp c c.xs.length 2).length/\i=Bn j/\Af (Bp (⟨t,c,za,zc,aa,ac,fa,fc,p,zb,l,cb,kp,ib,vb,ps,w.heap.size,F.heap.size⟩:Fb) w F wr U (Fm c c.rs) (Cp c c.xs.length) (Sq (Fm c c.rs 2) || Wc ((Cp c c.xs.length 2).take j)))) (λi _=>(Cp c c.xs.length 2).length-(intOf i).toNat)
 case atStart=>exact⟨0,Bg _,rfl,I (by rw[show(Sq (Fm c c.rs 2) || Wc ((Cp c c.xs.length 2).take 0))=Sq (Fm c c.rs 2) from by rw[List.take_zero];exact Bool.or_false _];exact x.1)⟩
 clear x;obtain⟨j,hj,rfl,x⟩:=hrel;have d5:=Ag x.1.box;by_cases C:j<(Cp c c.xs.length 2).length
 . obtain⟨ra,rc,u6,f2⟩:=x.1.rows (k:=2) (by omega);obtain⟨b,c8,rfl,hb,a4⟩:=f2.cells (by omega);have m5:=I (a4.at j C);have u5:wr.cell? ⟨l,24,none⟩=some (CU (some ⟨b,c8,none⟩) (Cp c c.xs.length 2).length rc):=by rw[<-u6];exact zm x.1.box (Vu _ U _ (k:=6) (by omega))
   obtain⟨bq,g9⟩:=aT (Sq (Fm c c.rs 2) || Wc ((Cp c c.xs.length 2).take j));rw[<-g9]at x;have x7:wr.cell? ⟨l,27,none⟩=some (.bool bq):=zm x.1.box rfl;have x8:wr.frozen? ⟨l,27,none⟩=false:=zQ x.1.box;have j6:=I g9;clear a4 f2 u6 g9;cases bq
   . go_wp2_with fail;refine(yD 1 noX (Ci (Cp c c.xs.length 2) j) b (c8+j*3) wr m5.1).mono ?_;rintro e w1 ⟨rfl,rfl⟩;go_wp2;go_roundw
     case rel=>exact⟨j+1,by omega,by go_num,I (by rw[vD C,<-Bool.or_assoc,<-j6.1];simpa using x.1.night (Pm 1 (Ci (Cp c c.xs.length 2) j)))⟩
     case measure=>simp[intOf];omega
   go_wp2;go_roundw
   case rel=>exact⟨j+1,by omega,by go_num,I (by rw[vD C,<-Bool.or_assoc,<-j6.1];simpa using x.1.night true)⟩
   case measure=>simp[intOf];omega
 obtain rfl:j=(Cp c c.xs.length 2).length:=by omega
 rw[List.take_length]at x;obtain⟨P,u7,k3⟩:=x.1.set rfl HV.1 c7.1 (λk=>rfl) (λk hk=>VE c _ hk) (PO c) HF.1 x0.1 AM.1;have HP:=I u7;have y3:=I k3;have y4:=I x.1.bel;have y5:=I x.1.fix.2.2.2.2.2.2.1;clear u7 k3 x;go_wp2;go_ret2;exact⟨.ok l P rfl y3.1 y5.1 (HP.1.trans (NZ c)),y4.1⟩
