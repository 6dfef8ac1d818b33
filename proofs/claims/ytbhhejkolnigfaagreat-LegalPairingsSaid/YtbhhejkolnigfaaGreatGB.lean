/- a part of the proof -/
import Derived.Deep.DeepCutAuto
import Derived.Test.YtbhhejkolnigfaaGreatG6
set_option linter.unusedVariables false
set_option linter.unusedSimpArgs false
set_option maxRecDepth 100000
set_option maxHeartbeats 51200000
namespace Go.Proofs.YtbhhejkolnigfaaGreat
open Go.RowKit Go.Sort Go.Proofs.Tryz
structure NwP where
 t:TTM
 c:ConM
 za:Option Addr
 zc:Nat
 aa:Option Addr
 ac:Nat
 fa:Option Addr
 fc:Nat
 p:ConP
 zb:Nat
 sb:Nat
 cb:Nat
 kp:Nat
 ib:Nat
 vb:Nat
 ps:List Nat
 B:Nat
 BASE:Nat
def sbA(n:NwP)(U:Nat->Value)(nb:Bool):Array Value:=#[.slice n.za n.t.zones.length n.zc,.slice n.aa n.t.airs.length n.ac,.slice n.fa n.t.fls.length n.fc,.int .i64 n.c.report,.int .i64 n.c.release,.int .i64 n.c.connect,.int .i64 n.c.sit,.int .i64 n.c.layover,.int .i64 n.c.nf,.int .i64 n.c.nt,.slice n.p.ca n.c.consts.length n.p.cc,.slice n.p.ra n.c.rules.length n.p.rc,.slice n.p.ka n.c.costs.length n.p.kc,.slice n.p.xa n.c.credit.length n.p.xc,.slice n.p.la n.c.lims.length n.p.lc,.slice n.p.oa n.c.offs.length n.p.oc,.int .i64 n.c.guar,.map (some n.zb),U 0,U 1,U 2,U 3,U 4,U 5,U 6,U 7,U 8,.bool nb]
theorem zsE(n:NwP)(U:Nat->Value)(a:Bool){k:Nat}(b:k<9)(v:Value):(sbA n U a).setIfInBounds (18+k) v=sbA n (upd U k v) a:=by
 rcases k with _|_|_|_|_|_|_|_|_|k
 all_goals first|omega|(simp[sbA,upd])
theorem zgn(n:NwP)(U:Nat->Value)(a:Bool){k:Nat}(b:k<9):(sbA n U a)[18+k]?=some (U k):=by
 rcases k with _|_|_|_|_|_|_|_|_|k
 all_goals first|omega|rfl
structure NInv(n:NwP)(w w6 wr:World)(U:Nat->Value)(L:Nat->List (ByteArray×zE))(M:Nat->List zE)(nb:Bool):Prop where
 box:wr.heap[n.sb]?=some (.cells (sbA n U nb) 123 (0,0))
 rul:∀k,k<4->∃cs,wr.ownsRow n.BASE 132 4 (U k) (L k).length cs/\RRow (XV n.BASE U) wr cs (L k)
 cos:∀k,k<5->∃cs,wr.ownsRow n.BASE 129 3 (U (4+k)) (M k).length cs/\FRow (XV n.BASE U) wr cs (M k)
 apart:zi2 U
 cmp:zbo n.B wr n.kp n.ib n.vb n.ps n.c.consts n.p.ca n.p.cc
 con:wr.heap[n.cb]?=some (.cells (zj4 n.c n.p) 34 (0,0))
 mz:wr.heap[n.zb]?=w6.heap[n.zb]?
 zlt:n.zb<n.BASE
 bel:Below n.B w wr
 size:n.BASE<=wr.heap.size
 bs:n.B<=n.BASE
 fix:n.sb<n.BASE/\n.cb<n.BASE/\n.kp<n.BASE/\n.ib<n.BASE/\n.vb<n.BASE/\(∀k,k<4->pAt n.ps k<n.BASE)/\n.B<=n.sb/\n.B<=n.vb
 ne:n.sb≠n.vb/\n.sb≠n.cb/\n.sb≠n.zb/\n.sb≠n.kp/\n.sb≠n.ib/\(∀k,k<4->pAt n.ps k≠n.sb)/\n.cb≠n.vb/\n.zb≠n.vb
theorem NInv.owns{n:NwP}{w f c:World}{U:Nat->Value}{L:Nat->List (ByteArray×zE)}{M:Nat->List zE}{g:Bool}(h:NInv n w f c U L M g){k:Nat}(j:k<9){b:Nat}(d:(U k).ownBlock=some b):n.BASE<=b/\b<c.heap.size:=by
 by_cases e:k<4
 . obtain⟨i,a,_⟩:=h.rul k e;exact a.lt b d
 obtain⟨i,a,_⟩:=h.cos (k-4) (by omega);rw[show 4+(k-4)=k by omega]at a;exact a.lt b d
theorem NInv.move{n:NwP}{w m f w':World}{U:Nat->Value}{L:Nat->List (ByteArray×zE)}{M:Nat->List zE}{o:Bool}(h:NInv n w m f U L M o)(a:f.grownBy w' (some n.vb))(r:zbo n.B w' n.kp n.ib n.vb n.ps n.c.consts n.p.ca n.p.cc):NInv n w m w' U L M o:=by
 obtain⟨u,v,x,y,z,A,C,s⟩:=h.fix;obtain⟨D,E,F,G,H,K,N,P⟩:=h.ne;have t:=h.size;have q:∀b,b<f.heap.size->¬ XV n.BASE U b->w'.heap[b]?=f.heap[b]?:=λb hb hx=>a.block b hb (by simp;intro e;exact hx (.inl (by omega)))
 have d:∀k,k<9->(U k).ownBlock=none\/(U k).ownBlock≠some n.vb:=λk hk=>.inr (λe=>by have:=h.owns hk e;omega)
 refine⟨(a.block _ (ztW h.box) (by simp;omega)).trans h.box,λk hk=>?_,λk hk=>?_,h.apart,r,(a.block _ (ztW h.con) (by simp;omega)).trans h.con,(a.block _ (ztU h.zlt h.size) (by simp;omega)).trans h.mz,h.zlt,h.bel.grown a (ztV h.bs h.size) (λj hj=>by cases hj;exact s),ztV h.size a.size,h.bs,h.fix,h.ne⟩
 . obtain⟨g,i,l⟩:=h.rul k hk;exact⟨g,i.kept a (d k (by omega)),l.step a.size q (λ_ _ h=>h)⟩
 obtain⟨g,i,l⟩:=h.cos k hk;exact⟨g,i.kept a (d (4+k) (by omega)),l.step a.size q (λ_ _ h=>h)⟩
theorem NInv.below{n:NwP}{w b a w':World}{U:Nat->Value}{L:Nat->List (ByteArray×zE)}{M:Nat->List zE}{c:Bool}(h:NInv n w b a U L M c)(d:Bw a w'):NInv n w b w' U L M c:=h.move (zP _ d) (h.cmp.below d)
theorem zkf{B S:Nat}{V:Nat->Value}{k:Nat}{v:Value}(c:k<9)(a:v.ownBlock=(V k).ownBlock\/∃H,S<=H/\v.ownBlock=some H){b:Nat}(d:b<S)(h:XV B (upd V k v) b):XV B V b:=by
 rcases a with a|⟨H,e,a⟩
 . exact zso (H:=b+1) c (.inl a) (by omega) h
 exact zso (H:=H) c (.inr a) (by omega) h
theorem zoF{V:Nat->Value}{k S:Nat}{v:Value}(h:zi2 V)(d:k<9)(a:∀i b,i<9->(V i).ownBlock=some b->b<S)(c:v.ownBlock=(V k).ownBlock\/∃H,S<=H/\v.ownBlock=some H):zi2 (upd V k v):=by
 rcases c with c|⟨H,e,c⟩
 . exact h.upd (H:=S) d a (.inl c)
 exact h.upd (H:=H) d (λi b hi hb=>by have:=a i b hi hb;omega) (.inr c)
structure Grew(n:NwP)(w2 w3:World)(U:Nat->Value)(k:Nat)(v:Value):Prop where
 grow:w2.grownBy w3 (U k).ownBlock
 at':v.ownBlock=(U k).ownBlock\/∃H,w2.heap.size<=H/\v.ownBlock=some H
theorem Grew.block{n:NwP}{w d a c:World}{U:Nat->Value}{L:Nat->List (ByteArray×zE)}{M:Nat->List zE}{e:Bool}{k:Nat}{v:Value}(h:NInv n w d a U L M e)(j:k<9)(G:Grew n a c U k v){b:Nat}(f:b<a.heap.size)(g:(U k).ownBlock≠some b)(i:b≠n.sb):(c.setCell ⟨n.sb,18+k,none⟩ v).heap[b]?=a.heap[b]?:=by
 rw[Below.heap_setCell _ _ _ _ i,G.grow.block b f (Ne.symm g)]
theorem NInv.grew{n:NwP}{w Q o c:World}{U:Nat->Value}{L C:Nat->List (ByteArray×zE)}{M D:Nat->List zE}{E:Bool}{k:Nat}{v:Value}(h:NInv n w Q o U L M E)(f:k<9)(G:Grew n o c U k v) 
 (V:∀i,i<4->i≠k->C i=L i) (W:∀i,i<5->4+i≠k->D i=M i)
 (t:k<4->∃d,(c.setCell ⟨n.sb,18+k,none⟩ v).ownsRow n.BASE 132 4 v (C k).length d/\RRow (XV n.BASE (upd U k v)) (c.setCell ⟨n.sb,18+k,none⟩ v) d (C k))
 (u:4<=k->∃d,(c.setCell ⟨n.sb,18+k,none⟩ v).ownsRow n.BASE 129 3 v (D (k-4)).length d/\FRow (XV n.BASE (upd U k v)) (c.setCell ⟨n.sb,18+k,none⟩ v) d (D (k-4))):
 NInv n w Q (c.setCell ⟨n.sb,18+k,none⟩ v) (upd U k v) C D E:=by
 obtain⟨X,Y,Z,f4,f5,f6,R,f8⟩:=h.fix;obtain⟨e1,e2,e3,e4,e5,e6,e7,e8⟩:=h.ne;have a0:=h.size;have g:∀b,(U k).ownBlock=some b->n.BASE<=b/\b<o.heap.size:=λb q=>h.owns f q
 have a:∀b,b<n.BASE->(U k).ownBlock≠some b:=λb q e=>by have:=g b e;omega
 have H:o.heap.size<=c.heap.size:=G.grow.size;have x:o.heap.size<=(c.setCell ⟨n.sb,18+k,none⟩ v).heap.size:=by simpa using H
 have S:∀b,b<o.heap.size->¬ XV n.BASE U b->(c.setCell ⟨n.sb,18+k,none⟩ v).heap[b]?=o.heap[b]?:=λb q hx=>G.block h f q (λe=>hx (.inr ⟨k,f,e⟩)) (λe=>hx (.inl (by omega)))
 have y:∀b,b<o.heap.size->XV n.BASE (upd U k v) b->XV n.BASE U b:=λb q hx=>zkf f G.at' q hx
 have F:o.grownBy c (U k).ownBlock:=G.grow;have z:c.grownBy (c.setCell ⟨n.sb,18+k,none⟩ v) (some n.sb):=Lib.grownBy_setCell c n.sb (18+k) v;have r:∀i,i<9->i≠k->∀{T:TypeId} {s m:Nat} {d:List Value},o.ownsRow n.BASE T s (U i) m d->(c.setCell ⟨n.sb,18+k,none⟩ v).ownsRow n.BASE T s (U i) m d:=by
  intro i l K T s m d ho
  have A:c.ownsRow n.BASE T s (U i) m d:=ho.kept F (by
   cases q:(U i).ownBlock with
   |none=>exact .inl rfl
   |some b=>exact .inr (λe=>K (h.apart i k b l f q e.symm)))
  exact A.kept z (.inr (λe=>by have:=h.owns l e;omega))
 have B:c.heap[n.sb]?=some (.cells (sbA n U E) 123 (0,0)):=by
  rw[F.block _ (ztW h.box) (Ne.symm (a _ X))];exact h.box
 refine⟨?_,λi l=>?_,λi l=>?_,zoF h.apart f (λi b l q=>(h.owns l q).2) G.at',?_,?_,?_,h.zlt,?_,ztV h.size x,h.bs,h.fix,h.ne⟩
 . rw[zg B,zsE n U E f v]
 . by_cases e:i=k
   . subst e;rw[zfw];exact t l
   obtain⟨d,A,N⟩:=h.rul i l;rw[zhc _ _ e,V i l e];exact⟨d,r i (by omega) e A,N.step x S y⟩
 . by_cases e:4+i=k
   . have P:k-4=i:=by omega
     have:=u (by omega);rw[P]at this;subst e;rw[zfw];exact this
   obtain⟨d,A,N⟩:=h.cos i l;rw[zhc _ _ e,W i l e];exact⟨d,r (4+i) (by omega) e A,N.step x S y⟩
 . refine(h.cmp.other F (λj hj=>by have:=g j hj;have:=h.bs;omega) (Ne.symm (a _ Z)) (Ne.symm (a _ f4)) (Ne.symm (a _ f5)) (λk f=>Ne.symm (a _ (f6 k f)))).other z (λj hj=>by cases hj;exact R) (by simp;omega) (by simp;omega) (by simp;omega) (λk f=>by simp;exact e6 k f)
 . rw[G.block h f (ztW h.con) (a _ Y) (by omega)];exact h.con
 . rw[G.block h f (ztU h.zlt h.size) (a _ h.zlt) (by omega)];exact h.mz
 exact(h.bel.grown F (ztV h.bs h.size) (λj hj=>by have:=g j hj;have:=h.bs;omega)).setCell (p:=⟨n.sb,18+k,none⟩) R _
def updL{A:Type}(L:Nat->List A)(k:Nat)(x:A):Nat->List A:=λi=>if i=k then L i++ [x] else L i
theorem zfc{A:Type}(L:Nat->List A)(k:Nat)(x:A):updL L k x k=L k++ [x]:=if_pos rfl
theorem zhd{A:Type}(L:Nat->List A){k i:Nat}(x:A)(h:i≠k):updL L k x i=L i:=if_neg h
theorem NInv.rule{n:NwP}{w A r d g:World}{U:Nat->Value}{L:Nat->List (ByteArray×zE)}{M:Nat->List zE}{C:Bool}{k:Nat}{v:Value}{f:zE}{fa:zua}{fc:Nat}{D:List Value}{s:ByteArray}(j:NInv n w A r U L M C)(T:k<4)(F:s.size<=140737488355328)(l:r.grownBy d (some n.vb))(u:zbo n.B d n.kp n.ib n.vb n.ps n.c.consts n.p.ca n.p.cc)(K:RRow (XV n.BASE U) d D (L k))(x:zax (λb=>b<r.heap.size) d fa f.args)(N:f.args.length<=200)(G:Grew n d g U k v)(m:g.ownsRow n.BASE 132 4 v ((L k).length+1) (D++ [.string s,.int .i64 f.op,.int .i64 f.num,.slice fa f.args.length fc])):NInv n w A (g.setCell ⟨n.sb,18+k,none⟩ v) (upd U k v) (updL L k (s,f)) M C:=by
 have t:=j.move l u;have a:k<9:=by omega
 have P:=l.size;have E:=j.size;obtain⟨V,W,X,Y,Z,f6,f7,f8⟩:=t.fix;have y:d.heap.size<=g.heap.size:=G.grow.size;have o:d.heap.size<=(g.setCell ⟨n.sb,18+k,none⟩ v).heap.size:=by simpa using y
 have Q:∀b,b<d.heap.size->¬ XV n.BASE U b->(g.setCell ⟨n.sb,18+k,none⟩ v).heap[b]?=d.heap[b]?:=λb hb hx=>G.block t a hb (λe=>hx (.inr ⟨k,a,e⟩)) (λe=>hx (.inl (by omega)))
 have q:∀b,b<d.heap.size->XV n.BASE (upd U k v) b->XV n.BASE U b:=λb hb hx=>zkf a G.at' hb hx
 have R:=x.step (X':=XV n.BASE (upd U k v)) (w':=g.setCell ⟨n.sb,18+k,none⟩ v) o (λb hb hx=>G.block t a hb (λe=>by have:=(j.owns a e).2;omega) (λe=>by omega)) (λb hb hx=>by
  rcases q b hb hx with h|⟨i,z,h⟩
  . show b<r.heap.size;omega
  exact(j.owns z h).2)
 have S:=m.kept (Lib.grownBy_setCell g n.sb (18+k) v) (.inr (λe=>by
  rcases G.at' with h|⟨H,hH,h⟩
  . rw[h]at e;have:=j.owns a e;omega
  rw[h]at e;have e':=Option.some.inj e;omega))
 refine t.grew a G (λi z hne=>zhd L _ hne) (λi z hne=>rfl) (λhlt=>?_) (λhge=>?_)
 . rw[zfc,zt2];exact⟨_,S,.snoc (K.step o Q q) F (by omega) R⟩
 omega
theorem NInv.cost{n:NwP}{w z r d g:World}{U:Nat->Value}{L:Nat->List (ByteArray×zE)}{M:Nat->List zE}{A:Bool}{k:Nat}{v:Value}{f:zE}{fa:zua}{fc:Nat}{C:List Value}(j:NInv n w z r U L M A)(R:k<5)(l:r.grownBy d (some n.vb))(t:zbo n.B d n.kp n.ib n.vb n.ps n.c.consts n.p.ca n.p.cc)(E:FRow (XV n.BASE U) d C (M k))(u:zax (λb=>b<r.heap.size) d fa f.args)(F:f.args.length<=200)(G:Grew n d g U (4+k) v)(m:g.ownsRow n.BASE 129 3 v ((M k).length+1) (C++ [.int .i64 f.op,.int .i64 f.num,.slice fa f.args.length fc])):NInv n w z (g.setCell ⟨n.sb,18+(4+k),none⟩ v) (upd U (4+k) v) L (updL M k f) A:=by
 have s:=j.move l t;have a:(4+k)<9:=by omega
 have K:=l.size;have D:=j.size;obtain⟨S,T,V,W,X,Y,Z,f8⟩:=s.fix;have x:d.heap.size<=g.heap.size:=G.grow.size;have o:d.heap.size<=(g.setCell ⟨n.sb,18+(4+k),none⟩ v).heap.size:=by simpa using x
 have N:∀b,b<d.heap.size->¬ XV n.BASE U b->(g.setCell ⟨n.sb,18+(4+k),none⟩ v).heap[b]?=d.heap[b]?:=λb hb hx=>G.block s a hb (λe=>hx (.inr ⟨(4+k),a,e⟩)) (λe=>hx (.inl (by omega)))
 have q:∀b,b<d.heap.size->XV n.BASE (upd U (4+k) v) b->XV n.BASE U b:=λb hb hx=>zkf a G.at' hb hx
 have P:=u.step (X':=XV n.BASE (upd U (4+k) v)) (w':=g.setCell ⟨n.sb,18+(4+k),none⟩ v) o (λb hb hx=>G.block s a hb (λe=>by have:=(j.owns a e).2;omega) (λe=>by omega)) (λb hb hx=>by
  rcases q b hb hx with h|⟨i,y,h⟩
  . show b<r.heap.size;omega
  exact(j.owns y h).2)
 have Q:=m.kept (Lib.grownBy_setCell g n.sb (18+(4+k)) v) (.inr (λe=>by
  rcases G.at' with h|⟨H,hH,h⟩
  . rw[h]at e;have:=j.owns a e;omega
  rw[h]at e;have e':=Option.some.inj e;omega))
 refine s.grew a G (λi y hne=>rfl) (λi y hne=>zhd M _ (by omega)) (λhlt=>?_) (λhge=>?_)
 . omega
 rw[Nat.add_sub_cancel_left,zfc,zt2];exact⟨_,Q,.snoc (E.step o N q) (by omega) P⟩
theorem zmc{A:Type}(c:Array A){i j:Nat}(f g:A->A)(h:i≠j):(c.modify i f).modify j g=(c.modify j g).modify i f:=by
 apply Array.ext
 . simp
 intro k d e;simp only[Array.getElem_modify];by_cases a:i=k
 . subst a;rw[if_neg (Ne.symm h),if_pos rfl,if_pos rfl,if_neg (Ne.symm h)]
 by_cases b:j=k
 . rw[if_pos b,if_neg a,if_neg a,if_pos b]
 rw[if_neg b,if_neg a,if_neg a,if_neg b]
theorem zes(w:World){a b:Addr}(u v:Value)(h:a.block≠b.block):(w.setCell a u).setCell b v=(w.setCell b v).setCell a u:=by
 obtain⟨F,c⟩:∃F:Obj->Obj,∀w:World,w.setCell a u={w with heap:=w.heap.modify a.block F}:=⟨_,λw=>rfl⟩;obtain⟨G,d⟩:∃G:Obj->Obj,∀w:World,w.setCell b v={w with heap:=w.heap.modify b.block G}:=⟨_,λw=>rfl⟩;rw[c,d,d,c];show({w with heap:=(w.heap.modify a.block F).modify b.block G}:World)={w with heap:=(w.heap.modify b.block G).modify a.block F}
 rw[zmc _ F G h]
theorem zpo(w:World){g e:Nat}(h:g≠e)(a b c d:Nat)(x y z v:Value):(((w.setCell ⟨g,a,none⟩ x).setCell ⟨g,b,none⟩ y).setCell ⟨g,c,none⟩ z).setCell ⟨e,d,none⟩ v=(((w.setCell ⟨e,d,none⟩ v).setCell ⟨g,a,none⟩ x).setCell ⟨g,b,none⟩ y).setCell ⟨g,c,none⟩ z:=by
 rw[zes _ z v (a:=⟨g,c,none⟩) (b:=⟨e,d,none⟩) h,zes _ y v (a:=⟨g,b,none⟩) (b:=⟨e,d,none⟩) h,zes _ x v (a:=⟨g,a,none⟩) (b:=⟨e,d,none⟩) h]
theorem FRow.last{X:Nat->Prop}{w:World}{b:List Value}{c:List zE}{z:zE}(h:FRow X w b (c++ [z])):∃cs0 a cap,b=cs0++ [.int .i64 z.op,.int .i64 z.num,.slice a z.args.length cap]/\FRow X w cs0 c:=by
 generalize e:c++ [z]=l at h;cases h with
 |nil=>simp at e
 | @snoc b fs' f a cap h hl ha=>
  obtain⟨rfl,d⟩:=List.append_inj' e rfl;cases d;exact⟨b,a,cap,rfl,h⟩
theorem set3(d:List Value)(a b c x y z:Value):(((d++ [a,b,c]).set d.length x).set (d.length+1) y).set (d.length+2) z=d++ [x,y,z]:=by
 simp[List.set_append]
theorem NInv.fill{n:NwP}{w G d:World}{U:Nat->Value}{L:Nat->List (ByteArray×zE)}{M:Nat->List zE}{H:Bool}{k g cap:Nat}{f:zE}{fa:zua}{fc:Nat}(h:NInv n w G d U L (updL M k (.mk 0 0 [])) H)(P:k<5)(C:U (4+k)=.slice (some ⟨g,0,none⟩) ((M k).length+1) cap)(Q:f.args.length<=200)(D:zax (XV n.BASE U) d fa f.args):
 NInv n w G (((d.setCell ⟨g,(M k).length*3,none⟩ (.int .i64 f.op)).setCell ⟨g,(M k).length*3+1,none⟩ (.int .i64 f.num)).setCell ⟨g,(M k).length*3+2,none⟩ (.slice fa f.args.length fc)) U L (updL M k f) H:=by
 obtain⟨W,X,Y,Z,f5,R,f7,f8⟩:=h.fix;have r:4+k<9:=by omega
 have t:(U (4+k)).ownBlock=some g:=by rw[C];rfl
 have S:=h.owns r t;have V:=h.size;obtain⟨y,a,l⟩:=h.cos k P;rw[zfc]at a l;obtain⟨u,za,zc,rfl,o⟩:=l.last;have E:=o.len;rw[C,zt2,show([zE.mk 0 0 []]:List zE).length=1 from rfl]at a;have K:=(a.stored (u.length) (.int .i64 f.op)).1;have N:=(K.stored (u.length+1) (.int .i64 f.num)).1;have F:=(N.stored (u.length+2) (.slice fa f.args.length fc)).1;rw[set3,E]at F;obtain⟨x,v⟩:∃x,x=((d.setCell ⟨g,(M k).length*3,none⟩ (.int .i64 f.op)).setCell ⟨g,(M k).length*3+1,none⟩ (.int .i64 f.num)).setCell ⟨g,(M k).length*3+2,none⟩ (.slice fa f.args.length fc):=⟨_,rfl⟩;have q:d.grownBy x (some g):=by
  rw[v];exact Lib.grownBy_trans (Lib.grownBy_trans (Lib.grownBy_setCell d g _ _) (Lib.grownBy_setCell _ g _ _)) (Lib.grownBy_setCell _ g _ _)
 rw[<-v]at F ⊢;clear K N v a l;have c:∀b,b<d.heap.size->b≠g->x.heap[b]?=d.heap[b]?:=λb hb e=>q.block b hb (by simpa using e)
 have z:∀b,b<d.heap.size->¬ XV n.BASE U b->x.heap[b]?=d.heap[b]?:=λb hb hx=>c b hb (λe=>hx (.inr ⟨4+k,r,by rw[t,e]⟩))
 have p:∀i,i<9->i≠4+k->∀{T:TypeId} {s m:Nat} {xs:List Value},d.ownsRow n.BASE T s (U i) m xs->x.ownsRow n.BASE T s (U i) m xs:=λi hi hne {T s m xs} ho=>ho.kept q (.inr (λe=>hne (h.apart i (4+k) g hi r e t)))
 refine⟨(c _ (ztW h.box) (by omega)).trans h.box,λi hi=>?_,λi hi=>?_,h.apart,?_,(c _ (ztW h.con) (by omega)).trans h.con,(c _ (ztU h.zlt h.size) (by have:=h.zlt;omega)).trans h.mz,h.zlt,h.bel.grown q (ztV h.bs h.size) (λj hj=>by cases hj;have:=h.bs;omega),ztV h.size q.size,h.bs,h.fix,h.ne⟩
 . obtain⟨y,A,B⟩:=h.rul i hi;exact⟨y,p i (by omega) (by omega) A,B.step q.size z (λ_ _ h=>h)⟩
 . by_cases e:i=k
   . subst e;rw[zfc,zt2,C];exact⟨_,F,.snoc (o.step q.size z (λ_ _ h=>h)) (by omega) (D.step q.size z (λ_ _ h=>h))⟩
   obtain⟨y,A,B⟩:=h.cos i hi;rw[zhd _ _ e]at A B;rw[zhd _ _ e];exact⟨y,p (4+i) (by omega) (by omega) A,B.step q.size z (λ_ _ h=>h)⟩
 exact h.cmp.other q (λj hj=>by cases hj;have:=h.bs;omega) (by simp;omega) (by simp;omega) (by simp;omega) (λi hi=>by have:=R i hi;simp;omega)
theorem zax.past{n:NwP}{w p c a d:World}{U:Nat->Value}{L:Nat->List (ByteArray×zE)}{M:Nat->List zE}{q:Bool}{k:Nat}{v:Value}{fa:zua}{l:List zE}(f:NInv n w p c U L M q)(r:NInv n w p a U L M q)(u:c.heap.size<=a.heap.size)(g:k<9)(G:Grew n a d U k v)(j:zax (λb=>b<c.heap.size) a fa l):zax (XV n.BASE (upd U k v)) (d.setCell ⟨n.sb,18+k,none⟩ v) fa l:=by
 have m:a.heap.size<=d.heap.size:=G.grow.size;have o:a.heap.size<=(d.setCell ⟨n.sb,18+k,none⟩ v).heap.size:=by simpa using m
 have s:=f.size;obtain⟨x,_⟩:=f.fix;refine j.step o (λb hb hx=>G.block r g hb (λe=>?_) (λe=>hx (by show b<_;omega))) (λb hb hx=>?_)
 . exact hx (f.owns g e).2
 rcases zkf g G.at' hb hx with h|⟨i,t,h⟩
 . show b<c.heap.size;omega
 exact(f.owns t h).2
theorem zps(n:NwP)(U:Nat->Value)(a b:Bool):(sbA n U a).setIfInBounds 27 (.bool b)=sbA n U b:=by simp[sbA]
theorem NInv.night{n:NwP}{w o c:World}{U:Nat->Value}{L:Nat->List (ByteArray×zE)}{M:Nat->List zE}{s:Bool}(h:NInv n w o c U L M s)(b:Bool):NInv n w o (c.setCell ⟨n.sb,27,none⟩ (.bool b)) U L M b:=by
 obtain⟨u,v,x,y,z,A,q,B⟩:=h.fix;obtain⟨C,D,E,F,G,t,H,K⟩:=h.ne;have g:=h.size;have d:c.grownBy (c.setCell ⟨n.sb,27,none⟩ (.bool b)) (some n.sb):=Lib.grownBy_setCell c n.sb 27 (.bool b);have a:∀k,k≠n.sb->(c.setCell ⟨n.sb,27,none⟩ (.bool b)).heap[k]?=c.heap[k]?:=λk hk=>Below.heap_setCell _ _ _ _ hk
 have r:∀k,k<c.heap.size->¬ XV n.BASE U k->(c.setCell ⟨n.sb,27,none⟩ (.bool b)).heap[k]?=c.heap[k]?:=λk hk hx=>a k (λe=>hx (.inl (by omega)))
 have f:∀k,k<9->(U k).ownBlock=none\/(U k).ownBlock≠some n.sb:=λk hk=>.inr (λe=>by have:=h.owns hk e;omega)
 refine⟨?_,λk hk=>?_,λk hk=>?_,h.apart,?_,(a _ (by omega)).trans h.con,(a _ (by omega)).trans h.mz,h.zlt,h.bel.setCell (p:=⟨n.sb,27,none⟩) q _,by simpa using g,h.bs,h.fix,h.ne⟩
 . rw[zg h.box,zps]
 . obtain⟨i,l,m⟩:=h.rul k hk;exact⟨i,l.kept d (f k (by omega)),m.step d.size r (λ_ _ h=>h)⟩
 . obtain⟨i,l,m⟩:=h.cos k hk;exact⟨i,l.kept d (f (4+k) (by omega)),m.step d.size r (λ_ _ h=>h)⟩
 exact h.cmp.other d (λj hj=>by cases hj;exact q) (by simp;omega) (by simp;omega) (by simp;omega) (λk hk=>by simp;exact t k hk)
theorem NInv.rules{n:NwP}{w c b:World}{U:Nat->Value}{L:Nat->List (ByteArray×zE)}{M:Nat->List zE}{d:Bool}(h:NInv n w c b U L M d){k:Nat}(e:k<4):∃a cap,U k=.slice a (L k).length cap/\zek b a (L k):=by
 obtain⟨i,f,g⟩:=h.rul k e;exact RRow.rules f (g.step (X':=noX) (ztY _) (λ_ _ _=>rfl) (λ_ _ h=>h.elim))
theorem NInv.rows{n:NwP}{w c b:World}{U:Nat->Value}{L:Nat->List (ByteArray×zE)}{M:Nat->List zE}{d:Bool}(h:NInv n w c b U L M d){k:Nat}(e:k<5):∃a cap,U (4+k)=.slice a (M k).length cap/\zax noX b a (M k):=by
 obtain⟨i,f,g⟩:=h.cos k e;exact FRow.rows f (g.step (X':=noX) (ztY _) (λ_ _ _=>rfl) (λ_ _ h=>h.elim))
def zrw{A:Type}(a b c d:A):Nat->A
 |0=>a
 |1=>b
 |2=>c
 |_=>d
theorem NInv.set{n:NwP}{w F b:World}{U:Nat->Value}{L:Nat->List (ByteArray×zE)}{M:Nat->List zE}{d:Bool}{N:List (Value×Value)}(h:NInv n w F b U L M d)(hB:n.B=w.heap.size)(e:zY n.t=0)(f:valT n.c=0)(hL:∀k,L k=zaR n.c k)(hM:∀k,k<4->M k=zaW n.c k)(g:M 4=zaI n.c)(hf:SlAt zam w n.fa n.t.fls)(hz:zaT prog F n.zb .string N)(ha:zeL w N n.t.zones n.t.airs):∃P:SetP,P.nights=d/\zc6 b n.sb n.t n.c P:=by
 obtain⟨i,j,G,H⟩:=h.rules (k:=0) (by omega);obtain⟨l,m,K,Q⟩:=h.rules (k:=1) (by omega);obtain⟨o,q,R,S⟩:=h.rules (k:=2) (by omega);obtain⟨r,s,T,V⟩:=h.rules (k:=3) (by omega);obtain⟨u,v,W,X⟩:=h.rows (k:=0) (by omega);obtain⟨x,y,Y,Z⟩:=h.rows (k:=1) (by omega);obtain⟨z,A,u6,k2⟩:=h.rows (k:=2) (by omega);obtain⟨C,D,u7,k3⟩:=h.rows (k:=3) (by omega);obtain⟨xa,xc,u8,x0⟩:=h.rows (k:=4) (by omega);rw[hL]at G K R T H Q S V;rw[hM _ (by omega)]at W Y u6 u7 X Z k2 k3;rw[g]at u8 x0;have a:Below w.heap.size w b:=hB ▸ h.bel;have E:zaT prog b n.zb .string N:=by
  obtain⟨h1,h2⟩:=hz;refine⟨?_,h2⟩;unfold MapAt at h1 ⊢
  rw[h.mz];exact h1
 refine⟨⟨n.za,n.zc,n.aa,n.ac,n.fa,n.fc,n.p,n.zb,zrw i l o r,zrw j m q s,zrw u x z C,zrw v y A D,xa,xc,d⟩,rfl,?_,e,f,hf.below a,ha.zones E a,λk hk=>?_,λk hk=>?_,x0⟩
 . rw[h.box];have e4:U 4=_:=W;have e5:U 5=_:=Y;have e6:U 6=_:=u6;have e7:U 7=_:=u7;have e8:U 8=_:=u8;unfold sbA zpn
   rw[G,K,R,T,e4,e5,e6,e7,e8];rfl
 . rcases k with _|_|_|_|k
   . exact H
   . exact Q
   . exact S
   . exact V
   omega
 rcases k with _|_|_|_|k
 . exact X
 . exact Z
 . exact k2
 . exact k3
 omega
theorem ziD{l:List (ByteArray×zE)}{k:Nat}(h:k<l.length):zhb (l.take (k+1))=(zhb (l.take k) || zfv 1 (ruAt l k).2):=by
 unfold zhb
 rw[List.take_succ_eq_append_getElem h,List.any_append,ruAt,zt0,zt1 h];simp
theorem ziE{l:List zE}{k:Nat}(h:k<l.length):zkF (l.take (k+1))=(zkF (l.take k) || zfv 1 (gAt l k)):=by
 unfold zkF
 rw[List.take_succ_eq_append_getElem h,List.any_append,gAt,zt0,zt1 h];simp
theorem zf7(c:ConM)(l:List zcx)(k:Nat):(zaD c l k).length<=l.length:=by unfold zaD;rw[List.length_map];exact List.length_filter_le _ _
theorem znR(c:ConM)(l:List zcx)(r:zcx){k:Nat}(h:r.scope=(k:Int)):zaD c (l++ [r])=updL (zaD c l) k (r.name,cmpX c k r.ex):=by
 funext i
 rw[zho];unfold updL
 by_cases e:i=k
 . subst e;rw[if_pos h,if_pos rfl]
 rw[if_neg (by rw[h];intro a;exact e (by omega)),if_neg e]
theorem zcC(c:ConM)(l:List zdw)(k:Nat):(zau c l k).length<=l.length:=by unfold zau;rw[List.length_map];exact List.length_filter_le _ _
theorem zgg(c:ConM)(l:List zdw)(r:zdw){k:Nat}(h:r.scope=(k:Int)):zau c (l++ [r])=updL (zau c l) k (cmpX c k r.ex):=by
 funext i
 rw[zhT];unfold updL
 by_cases e:i=k
 . subst e;rw[if_pos h,if_pos rfl]
 rw[if_neg (by rw[h];intro a;exact e (by omega)),if_neg e]
theorem zm7{w:World}{B:Nat}{T:TypeId}{s:Nat}{v:Value}{n:Nat}{b:List Value}(c:w.ownsRow B T s v n b):∃ua uc,v=.slice ua n uc:=by
 rcases c.2 with⟨rfl,e⟩|⟨g,a,d,rfl,_⟩
 . exact⟨none,0,by rw[e]⟩
 exact⟨_,a,rfl⟩
theorem zhZ{w:World}{b:Nat}{a:List Value}{T:TypeId}(c:w.heap[b]?=some (.cells a.toArray T (0,0))):∀j u,a[j]?=some u->w.cell? (Addr.add ⟨b,0,none⟩ j)=some u:=by
 intro j u h;have d:(Addr.add ⟨b,0,none⟩ j)=⟨b,j,none⟩:=by
  unfold Addr.add;split
  . next h=>rw[h]
  simp
 rw[d];exact zm (j:=j) c (by simpa using h)
def creM(c:ConM)(j:Nat):Nat->List zE:=λi=>if i=4 then(c.credit.take j).map (cmpX c 1) else zau c c.costs i
theorem costs4{c:ConM}(h:valT c=0):zau c c.costs 4= []:=by
 unfold zau
 rw[List.filter_eq_nil_iff.2 (λr hr=>?_)]
 . rfl
 have:=zha (zch (zbV h).g).2.2.1 r hr;simp;omega
theorem zqL{c:ConM}(h:valT c=0):creM c 0=zau c c.costs:=by
 funext i
 unfold creM
 by_cases e:i=4
 . subst e;rw[if_pos rfl,costs4 h];rfl
 rw[if_neg e]
theorem take_e(l:List zH)(k:Nat)(h:k<l.length):l.take (k+1)=l.take k++ [eAt l k]:=by
 rw[List.take_succ_eq_append_getElem h,eAt,zt0,zt1 h];rfl
theorem zlu{c:ConM}{j:Nat}(h:j<c.credit.length):creM c (j+1)=updL (creM c j) 4 (cmpX c 1 (eAt c.credit j)):=by
 funext i
 by_cases e:i=4
 . subst e;rw[zfc];show(c.credit.take (j+1)).map (cmpX c 1)=(c.credit.take j).map (cmpX c 1)++_
   rw[take_e _ _ h,zt3];rfl
 rw[zhd _ _ e];show(if i=4 then _ else _)=(if i=4 then _ else _)
 rw[if_neg e,if_neg e]
theorem ztj(c:ConM)(n:Nat){k:Nat}(h:k<4):creM c n k=zaW c k:=if_neg (by omega)
theorem zqM(c:ConM):creM c c.credit.length 4=zaI c:=by
 show(c.credit.take c.credit.length).map (cmpX c 1)=_
 rw[List.take_length];rfl
theorem zp8(c:ConM):(zhb (zaD c c.rules 2) || zkF (creM c c.credit.length 2))=zma c:=rfl
theorem zqm:(prog.info? 132).map (λi=>(i.zero,i.size,i.bytes))=some (some (.agg #[.string ByteArray.empty,.int .i64 0,.int .i64 0,.slice none 0 0]),4,56):=by kernel_rfl
theorem zd9(t:TTM)(za aa fa:zua)(zc ac fc:Nat)(c:ConM)(p:ConP):
 NewS t c za zc aa ac fa fc p:=by
 intro w hT;obtain⟨hz,ha,hf,hc⟩:=hT;have HZ:=I hz;have HA:=I ha;have HF:=I hf;have HC:=I hc;clear hz ha hf hc;have y6:=mkMapZ;obtain⟨u7,u8,n1,n2,n3⟩:=info_parts zqm;obtain⟨i6,i7,f3,f4,f5⟩:=info_parts zle;go_enter func29,ntmps29
 go_wp2_with fail;have i1:=I (ztS (J w (objT t za zc aa ac fa fc)) (J _ (objC c p)));have T0:=I (zd (o':=(objC c p)) (zh w (objT t za zc aa ac fa fc)));have C0:=I (zh (w.alloc (objT t za zc aa ac fa fc)) (objC c p));rw[zr]at C0;obtain⟨tb,k5⟩:∃tb,tb=w.heap.size:=⟨_,rfl⟩;obtain⟨cb,k6⟩:∃cb,cb=w.heap.size+1:=⟨_,rfl⟩;rw[<-k5]at T0;rw[<-k6]at C0;simp only[<-k6];simp only[<-k5];have u9:=I k5;have v0:=I k6;clear k5 k6;generalize (w.alloc (objT t za zc aa ac fa fc)).alloc (objC c p)=W0 at*;refine(zic t za aa fa zc ac fc W0 (HZ.1.below i1.1) (HA.1.below i1.1) (HF.1.below i1.1)).mono ?_;rintro e w1 ⟨rfl,i2⟩;by_cases hv:zY t=0
 case neg=>
  have v1:(zY t !=0)=true:=by simpa using hv
  have HV:=I hv;have g9:=I (ztS i1.1 i2);clear hv i2;go_wp2_with fail;go_ret2;exact⟨.badT HV.1 rfl,g9.1⟩
 have HV:=I hv;have g9:=I (ztS i1.1 i2);have T1:=I ((i2.block _ (ztW T0.1)).trans T0.1);have C1:=I ((i2.block _ (ztW C0.1)).trans C0.1);rw[hv];clear hv i2 T0 C0 i1;clear W0;have n4:=zw C1.1;have n5:=zu C1.1;have n6:=zC C1.1;have n7:=zaj C1.1;have n8:=zbe C1.1;have n9:=zbn C1.1;have o0:=zbm C1.1;have o6:=zaK C1.1;have o7:=zaX C1.1;have o8:=zbr C1.1;have l0:=zbb C1.1;have l1:=zby C1.1;have l2:=zbx C1.1;have l3:=zcq C1.1;have h0:=ztW C1.1;go_wp2_with fail;refine(zja c p w1 w.heap.size g9.1.size (HC.1.keep g9.1)).mono ?_;rintro e y ⟨rfl,i3⟩;clear n4 n5 n6 n7 n8 n9 o0 o6 o7 o8 l0 l1 l2 l3 h0;by_cases hv:valT c=0
 case neg=>
  have v1:(valT c !=0)=true:=by simpa using hv
  have d7:=I hv;have i8:=I (ztS g9.1 i3);clear hv i3;go_wp2_with fail;go_ret2;exact⟨.badC HV.1 d7.1 rfl,i8.1⟩
 have d7:=I hv;have i8:=I (ztS g9.1 i3);have T2:=I ((i3.block _ (ztW T1.1)).trans T1.1);have C2:=I ((i3.block _ (ztW C1.1)).trans C1.1);rw[hv];clear hv i3 T1 C1 g9;clear w1;have o9:=zw C2.1;have p0:=zu C2.1;have p6:=zC C2.1;have p7:=zaj C2.1;have p8:=zbe C2.1;have p9:=zbn C2.1;have q0:=zbm C2.1;have q6:=zaK C2.1;have q7:=zaX C2.1;have q8:=zbr C2.1;have l4:=zbb C2.1;have l5:=zby C2.1;have l6:=zbx C2.1;have l7:=zcq C2.1;have q9:=zw T2.1;have r6:=zu T2.1;have r7:=zC T2.1;have h0:=ztW C2.1;have i9:=ztW T2.1;go_upto_region 9 with fail
 have l8:=I (ztS i8.1 (ztS (ztS (J y (Obj.map #[] 0)) (J _ (oS t za zc aa ac fa fc c p (some y.heap.size)))) (J _ (Obj.map #[] 0))));have T3:=I (zd (o':=Obj.map #[] 0) (zd (o':=(oS t za zc aa ac fa fc c p (some y.heap.size))) (zd (o':=Obj.map #[] 0) T2.1)));have C3:=I (zd (o':=Obj.map #[] 0) (zd (o':=(oS t za zc aa ac fa fc c p (some y.heap.size))) (zd (o':=Obj.map #[] 0) C2.1)));have S3:=I (zd (o':=Obj.map #[] 0) (zh (y.alloc (Obj.map #[] 0)) (oS t za zc aa ac fa fc c p (some y.heap.size))));have MZ:=I (((zaT.made prog y .string).alloc (oS t za zc aa ac fa fc c p (some y.heap.size))).alloc (Obj.map #[] 0));have MN:=I (zaT.made prog ((y.alloc (Obj.map #[] 0)).alloc (oS t za zc aa ac fa fc c p (some y.heap.size))) .string);rw[zr]at S3;rw[zr,zr]at MN;obtain⟨zb,r8⟩:∃zb,zb=y.heap.size:=⟨_,rfl⟩;obtain⟨s,l9⟩:∃s,s=y.heap.size+1:=⟨_,rfl⟩;obtain⟨nb,m0⟩:∃nb,nb=y.heap.size+1+1:=⟨_,rfl⟩;rw[<-m0]at MN;rw[<-l9]at S3;simp only[<-m0];simp only[<-l9];have v2:=i8.1.size;have v3:=u9.1;have v4:=v0.1;have o1:tb<zb:=by omega
 have o2:cb<zb:=by omega
 have o3:w.heap.size<=zb:=by omega
 have o4:zb<s:=by omega
 have o5:s<nb:=by omega
 have A:y.alloc (Obj.map #[] 0)=y.alloc (Obj.map #[] 0):=rfl;generalize hW3:((y.alloc (Obj.map #[] 0)).alloc (oS t za zc aa ac fa fc c p (some y.heap.size))).alloc (Obj.map #[] 0)=W3 at*;simp only[<-r8] at*;clear hW3 A r8 l9 m0 v3 v4 v2 o9 p0 p6 p7 p8 p9 q0 q6 q7 q8 l4 l5 l6 l7 q9 r6 r7 h0 i9 T2 C2 i8;clear y;have r9:=zw T3.1;have i9:=ztW T3.1;have y7:=(zcJ HV.1).1;have y8:=(zcJ HV.1).2.1;go_wp2_with fail;clear r9 i9;go_loopw [42] (λi wr=>∃(k:Nat) (M:List (Value×Value)),k<=t.zones.length/\i=.int .i64 k/\ztR (zaT prog wr nb .string M)/\ztR (zfX w M (t.zones.take k))/\ztR (W3.grownBy wr (some nb))) (λi _=>t.zones.length-(intOf i).toNat)
 case atStart=>exact⟨0, [],ztX _,rfl,MN,I (zfX.nil w),I (zP _ (ztT _ _))⟩
 clear MN;obtain⟨k,M,hk,rfl,hM,j0,b5⟩:=hrel;have h3:=I (l8.1.grown b5.1 l8.1.size (λj hj=>by cases hj;omega));by_cases V:k<t.zones.length
 . obtain⟨b,d8,rfl,hb,a6⟩:=zc7 HZ.1 (by omega);obtain⟨sa,f6,c0,c1,c2,s0,s1,s2⟩:=a6 k V;have d0:=zj c0 hb h3.1;have d1:=zj c1 hb h3.1;have d2:=zj c2 hb h3.1;have v5:=ztU hb h3.1.size;obtain⟨w4,P1,M4,g4⟩:=znc (hM.1.alloc (oZx (zAt t.zones k) sa f6)) (zAt t.zones k).name (.agg #[.string (zAt t.zones k).name,(zAt t.zones k).off,.slice sa (zAt t.zones k).sh.length f6]);have v6:=I M4;have v7:=I (show zfX w (mput M (.string (zAt t.zones k).name) (.agg #[.string (zAt t.zones k).name,(zAt t.zones k).off,.slice sa (zAt t.zones k).sh.length f6])) (t.zones.take (k+1)) by rw[zo9 _ _ V];exact j0.1.put _ ⟨sa,f6,rfl,s2,s0,s1⟩);have v8:=I (Lib.grownBy_trans (Lib.grownBy_trans b5.1 (zP (some nb) (J wr (oZx (zAt t.zones k) sa f6)))) g4);clear M4 g4 a6 c0 c1 c2 s2 hM j0 b5;go_wp2_with fail;go_roundw
   case rel=>exact⟨k+1,_,by omega,by go_num,v6,v7,v8⟩
   case measure=>simp[intOf];omega
 obtain rfl:k=t.zones.length:=by omega
 rw[List.take_length]at j0;have T4:=I ((b5.1.block _ (ztW T3.1) (by simp;omega)).trans T3.1);have C4:=I ((b5.1.block _ (ztW C3.1) (by simp;omega)).trans C3.1);have S4:=I ((b5.1.block _ (ztW S3.1) (by simp;omega)).trans S3.1);have s3:=I (MZ.1.grown b5.1 (by simp;omega));clear T3 C3 S3 MZ l8 b5;obtain⟨W4,rfl⟩:∃W4:World,W4=wr:=⟨_,rfl⟩;have s4:=zu T4.1;have i9:=ztW T4.1;go_wp2_with fail;clear s4 i9;go_loopw [54] (λi wr=>∃(k:Nat) (N:List (Value×Value)),k<=t.airs.length/\i=.int .i64 k/\ztR (zaT prog wr zb .string N)/\ztR (zeL w N t.zones (t.airs.take k))/\ztR (W4.grownBy wr (some zb))) (λi _=>t.airs.length-(intOf i).toNat)
 case atStart=>exact⟨0, [],ztX _,rfl,s3,I (zeL.nil w _),I (zP _ (ztT _ _))⟩
 clear s3;obtain⟨k,N,hk,rfl,hN,j1,b5⟩:=hrel;have h4:=I (h3.1.grown b5.1 h3.1.size (λj hj=>by cases hj;omega));by_cases V:k<t.airs.length
 . obtain⟨b,d8,rfl,hb,a6⟩:=zeJ HA.1 (by omega);obtain⟨c0,c1,s0,s1⟩:=a6 k V;have d0:=zj c0 hb h4.1;have d1:=zj c1 hb h4.1;have v5:=ztU hb h4.1.size;clear a6 c0 c1;have G1:=Lib.grownBy_trans b5.1 (zP (some zb) (J wr (oA (aAt t.airs k))));have A1:=I (zh wr (oA (aAt t.airs k)));have N1:=I (hN.1.alloc (oA (aAt t.airs k)));have S5:=I ((G1.block _ (ztW S4.1) (by simp;omega)).trans S4.1);have M5:=I (hM.1.grown G1 (by simp;omega));have v9:=I G1;clear G1 hN b5;go_wp2_with fail;generalize wr.alloc (oA (aAt t.airs k))=W5 at*;have z1:W5.drew.cell? ⟨s,17,none⟩=some (.map (some zb)):=zm S5.1 rfl;have z2:W5.drew.cell? ⟨wr.heap.size,0,none⟩=some (.string (aAt t.airs k).code):=zm A1.1 rfl;have z3:W5.drew.cell? ⟨wr.heap.size,1,none⟩=some (.string (aAt t.airs k).zone):=zm A1.1 rfl;have y9:W5.cell? ⟨s,17,none⟩=some (.map (some zb)):=zm S5.1 rfl;have A0:W5.cell? ⟨wr.heap.size,0,none⟩=some (.string (aAt t.airs k).code):=zm A1.1 rfl;have A2:W5.cell? ⟨wr.heap.size,1,none⟩=some (.string (aAt t.airs k).zone):=zm A1.1 rfl;obtain⟨v,L1,hv⟩:=zqg (w:=W5.drew) (M5.1.below (ztT _ _).drew) j0.1 (aAt t.airs k).zone;obtain⟨Q,P1,N6,Y⟩:=znc (w:=W5.drew) (N1.1.below (ztT _ _).drew) (aAt t.airs k).code v;have w0:=I N6;have w5:=I (show zeL w (mput N (.string (aAt t.airs k).code) v) t.zones (t.airs.take (k+1)) by rw[zpe _ _ V];exact j1.1.put _ hv);have w7:=I (Lib.grownBy_trans (zec v9.1) Y);clear N6 Y hv j1;go_still_tail 10,(by kernel_rfl)
   change wpList _ _ _ _ _ W5.drew
   go_wp2_with fail;go_roundw
   case rel=>exact⟨k+1,_,by omega,by go_num,w0,w5,w7⟩
   case measure=>simp[intOf];omega
 obtain rfl:k=t.airs.length:=by omega
 rw[List.take_length]at j1;have C5:=I ((b5.1.block _ (ztW C4.1) (by simp;omega)).trans C4.1);have S5:=I ((b5.1.block _ (ztW S4.1) (by simp;omega)).trans S4.1);have s5:=ztU hM.1.lt b5.1.size;have s6:=hN;have AM:=j1;clear T4 C4 S4 h3 b5 hN j1 hM j0;obtain⟨W5,rfl⟩:∃W5:World,W5=wr:=⟨_,rfl⟩;have s7:=zaK C5.1;have h0:=ztW C5.1;go_wp2_with fail;refine(zhy c.consts p.ca p.cc W5 w.heap.size h4.1.size (HC.1.keep h4.1).consts).mono ?_;rintro e Q ⟨kp,ib,vb,ps,rfl,s8,⟨A3,A4,A5,s9⟩,i4⟩;have C6:=I ((i4.block _ (ztW C5.1)).trans C5.1);have S6:=I ((i4.block _ (ztW S5.1)).trans S5.1);have w8:=I (s6.1.below i4);have t0:=I (ztS h4.1 i4);have h5:=I s8;have y4:=i4.size;have A6:nb<W5.heap.size:=s5;clear s8 i4 s7 h0 C5 S5 s6 h4;have I0:=I (show NInv (⟨t,c,za,zc,aa,ac,fa,fc,p,zb,s,cb,kp,ib,vb,ps,w.heap.size,Q.heap.size⟩:NwP) w Q Q (λ_=>.slice none 0 0) (λ_=> []) (λ_=> []) false from⟨S6.1,λk hk=>⟨[],World.ownsRow_nil _ _ _ _,.nil⟩,λk hk=>⟨[],World.ownsRow_nil _ _ _ _,.nil⟩,λi j b _ _ h=>by simp[Value.ownBlock]at h,h5.1,C6.1,rfl,by show zb<Q.heap.size;omega,t0.1,ztY _,t0.1.size,⟨by show s<Q.heap.size;omega,by show cb<Q.heap.size;omega,h5.1.lt.1,h5.1.lt.2.1,h5.1.lt.2.2,λk hk=>(h5.1.places k hk).lt,by show w.heap.size<=s;omega,h5.1.bv⟩,⟨by show s≠vb;omega,by show s≠cb;omega,by show s≠zb;omega,by show s≠kp;omega,by show s≠ib;omega,λk hk=>by have:=s9 k hk;show pAt ps k≠s;omega,by show cb≠vb;omega,by show zb≠vb;omega⟩⟩);have w9:=w8;have t1:=I (λi (hi:i<c.rules.length)=>zpu d7.1 hi);have d9:=I (zmA w.heap.size kp ib vb ps c.consts p.ca p.cc c.consts.length);have t2:=zaX C6.1;have h0:=ztW C6.1;have A7:=(HC.1.rules).1;have m1:c.rules.length<=10000:=by have h:=(zch (zbV d7.1).g).1;simp[zdP]at h;omega
 clear S6 h5 s9;go_wp2_with fail;clear t2 h0 C6;go_loopw [75] (λi wr=>∃(j:Nat) (U:Nat->Value),j<=c.rules.length/\i=.int .i64 j/\ztR (NInv (⟨t,c,za,zc,aa,ac,fa,fc,p,zb,s,cb,kp,ib,vb,ps,w.heap.size,Q.heap.size⟩:NwP) w Q wr U (zaD c (c.rules.take j)) (λ_=> []) false)) (λi _=>c.rules.length-(intOf i).toNat)
 case atStart=>exact⟨0,(λ_=>.slice none 0 0),ztX _,rfl,I0⟩
 clear I0;obtain⟨j,U,hj,rfl,G⟩:=hrel;by_cases V:j<c.rules.length
 . obtain⟨k,h6,x0,x1,f7,c7,f8⟩:=t1.1 j V;obtain⟨b,d8,t3,hb,a6⟩:=((HC.1.keep G.1.bel).rules).cells (by omega);obtain⟨r0,r1,x2,_,Z,xc,⟨r2,r3,r4,r5⟩,f9,d3⟩:=a6 j V;rw[h6]at r0;have t4:b<wr.heap.size:=ztU hb (ztV G.1.bs G.1.size);have HW:=I f7;have g7:=I f8;have j2:=I h6;rw[t3];clear a6 t3 h6 f7 f8;go_wp2_with fail;have I1:=I (G.1.below (J wr (oRx (k:Int) (rlAt c.rules j).name (rlAt c.rules j).ex Z xc)));have QB:=I (zh wr (oRx (k:Int) (rlAt c.rules j).name (rlAt c.rules j).ex Z xc));have i5:=I (d3.keep ((J wr (oRx (k:Int) (rlAt c.rules j).name (rlAt c.rules j).ex Z xc)).mono (ztV G.1.bs G.1.size)));have c8:=I f9;obtain⟨d,a5⟩:∃d,d=wr.heap.size:=⟨_,rfl⟩;rw[<-a5]at QB;simp only[<-a5];have c9:=I a5;clear a5;generalize wr.alloc (oRx (k:Int) (rlAt c.rules j).name (rlAt c.rules j).ex Z xc)=W1 at*;have q:W1.drew.cell? ⟨d,0,none⟩=some (.int .i64 (k:Int))/\W1.drew.cell? ⟨d,1,none⟩=some (.string (rlAt c.rules j).name)/\W1.drew.cell? ⟨d,2,none⟩=some (.int .i64 (rlAt c.rules j).ex.op)/\W1.drew.cell? ⟨d,3,none⟩=some (.int .i64 (rlAt c.rules j).ex.num)/\W1.drew.cell? ⟨d,4,none⟩=some (.string (rlAt c.rules j).ex.name)/\W1.drew.cell? ⟨d,5,none⟩=some (.slice Z (rlAt c.rules j).ex.args.length xc)/\W1.drew.cell? ⟨s,18+k,none⟩=some (U k):=⟨zm (j:=0) QB.1 rfl,zm (j:=1) QB.1 rfl,zm (j:=2) QB.1 rfl,zm (j:=3) QB.1 rfl,zm (j:=4) QB.1 rfl,zm (j:=5) QB.1 rfl,zm I1.1.box (zgn _ U false (by omega))⟩;have k0:(0:Int)<=(k:Int):=by omega
   have k4:(k:Int)<4:=by omega
   have n:=ztW QB.1;have S:=ztW I1.1.box;have F1:s<Q.heap.size:=I1.1.fix.1;have F5:vb<Q.heap.size:=I1.1.fix.2.2.2.2.1;have j3:Q.heap.size<=wr.heap.size:=G.1.size;have a5:=c9.1;have j4:d≠vb:=by omega
   have j5:s≠vb:=I1.1.ne.1;have t5:d≠s:=by omega
   have a0:=I (λb (hb:(U k).ownBlock=some b)=>G.1.owns (k:=k) (by omega) hb);clear a5;refine zfC (λw'=>w'.cell? ⟨d,0,none⟩=some (.int .i64 (k:Int))/\w'.cell? ⟨d,1,none⟩=some (.string (rlAt c.rules j).name)/\w'.cell? ⟨d,2,none⟩=some (.int .i64 (rlAt c.rules j).ex.op)/\w'.cell? ⟨d,3,none⟩=some (.int .i64 (rlAt c.rules j).ex.num)/\w'.cell? ⟨d,4,none⟩=some (.string (rlAt c.rules j).ex.name)/\w'.cell? ⟨d,5,none⟩=some (.slice Z (rlAt c.rules j).ex.args.length xc)/\w'.cell? ⟨s,18+k,none⟩=some (U k)) [24] (by kernel_rfl) ?_;refine zx (i:=0) (v:=.pointer (some ⟨s,0,none⟩)) rfl (λw' hS'=>?_) q ?_
   . obtain⟨g0,g1,g2,g3,g4,g5,Y⟩:=hS';go_simp
   simp only[Act.put,O];refine zx (i:=1) (v:=.pointer (some ⟨d,0,none⟩)) rfl (λw' hS'=>?_) q ?_
   . obtain⟨g0,g1,g2,g3,g4,g5,Y⟩:=hS';go_simp
   simp only[Act.put,O];refine zx (i:=2) (v:=.int .i64 (k:Int)) rfl (λw' hS'=>?_) q ?_
   . obtain⟨g0,g1,g2,g3,g4,g5,Y⟩:=hS';go_simp
   simp only[Act.put,O];refine zx (i:=3) (v:=.pointer (some ⟨s,0,none⟩)) rfl (λw' hS'=>?_) q ?_
   . obtain⟨g0,g1,g2,g3,g4,g5,Y⟩:=hS';go_simp
   simp only[Act.put,O];refine zx (i:=4) (v:=.pointer (some ⟨d,0,none⟩)) rfl (λw' hS'=>?_) q ?_
   . obtain⟨g0,g1,g2,g3,g4,g5,Y⟩:=hS';go_simp
   simp only[Act.put,O];refine zx (i:=5) (v:=.int .i64 (k:Int)) rfl (λw' hS'=>?_) q ?_
   . obtain⟨g0,g1,g2,g3,g4,g5,Y⟩:=hS';go_simp
   simp only[Act.put,O];refine zx (i:=6) (v:=.pointer (some ⟨s,0,none⟩)) rfl (λw' hS'=>?_) q ?_
   . obtain⟨g0,g1,g2,g3,g4,g5,Y⟩:=hS';go_simp
   simp only[Act.put,O];refine zx (i:=7) (v:=.pointer (some ⟨s,18,none⟩)) rfl (λw' hS'=>?_) q ?_
   . obtain⟨g0,g1,g2,g3,g4,g5,Y⟩:=hS';go_simp
   simp only[Act.put,O];refine zx (i:=8) (v:=.pointer (some ⟨s,18+k,none⟩)) rfl (λw' hS'=>?_) q ?_
   . obtain⟨g0,g1,g2,g3,g4,g5,Y⟩:=hS';go_simp
   simp only[Act.put,O];refine zx (i:=9) (v:=U k) rfl (λw' hS'=>?_) q ?_
   . obtain⟨g0,g1,g2,g3,g4,g5,Y⟩:=hS';go_simp
   simp only[Act.put,O];refine zx (i:=10) (v:=.pointer (some ⟨d,1,none⟩)) rfl (λw' hS'=>?_) q ?_
   . obtain⟨g0,g1,g2,g3,g4,g5,Y⟩:=hS';go_simp
   simp only[Act.put,O];refine zx (i:=11) (v:=.string (rlAt c.rules j).name) rfl (λw' hS'=>?_) q ?_
   . obtain⟨g0,g1,g2,g3,g4,g5,Y⟩:=hS';go_simp
   simp only[Act.put,O];refine zx (i:=12) (v:=.pointer (some ⟨kp,0,none⟩)) rfl (λw' hS'=>?_) q ?_
   . obtain⟨g0,g1,g2,g3,g4,g5,Y⟩:=hS';go_simp
   simp only[Act.put,O];refine zx (i:=13) (v:=.pointer (some ⟨d,0,none⟩)) rfl (λw' hS'=>?_) q ?_
   . obtain⟨g0,g1,g2,g3,g4,g5,Y⟩:=hS';go_simp
   simp only[Act.put,O];refine zx (i:=14) (v:=.int .i64 (k:Int)) rfl (λw' hS'=>?_) q ?_
   . obtain⟨g0,g1,g2,g3,g4,g5,Y⟩:=hS';go_simp
   simp only[Act.put,O];refine zx (i:=15) (v:=.pointer (some ⟨d,2,none⟩)) rfl (λw' hS'=>?_) q ?_
   . obtain⟨g0,g1,g2,g3,g4,g5,Y⟩:=hS';go_simp
   simp only[Act.put,O];refine zx (i:=16) (v:=.agg #[(rlAt c.rules j).ex.op,(rlAt c.rules j).ex.num,.string (rlAt c.rules j).ex.name,.slice Z (rlAt c.rules j).ex.args.length xc]) rfl (λw' hS'=>?_) q ?_
   . obtain⟨g0,g1,g2,g3,g4,g5,Y⟩:=hS';go_simp
   simp only[Act.put,O];refine zT (i:=21) (v:=.pointer (some ⟨s,0,none⟩)) rfl (λw'=>?_) ?_
   . go_simp
   simp only[Act.put,O];refine zT (i:=22) (v:=.pointer (some ⟨s,18,none⟩)) rfl (λw'=>?_) ?_
   . go_simp
   simp only[Act.put,O];refine zo (i:=17) (o:={dst:=some 96,op:=Op.call {callee:=Callee.value (Operand.func 59),args:=#[Operand.tmp 91,Operand.tmp 93,Operand.tmp 95],argTypes:=#[126,3,86]},type:=129,pos:= "setting.go:87",after:=_,guard:=none}) (by kernel_rfl) rfl (by rfl) (λK hK=>?_);go_simp;refine(d9.1 k (rlAt c.rules j).ex Z xc W1.drew (by omega) (I1.1.cmp.below ((ztT _ W1).drew)) c8.1 HW.1 c7 g7.1 (i5.1.keep ((ztT _ W1).drew))).mono ?_;rintro e y ⟨ya,yc,rfl,a1,a8,a9,A⟩;obtain⟨B,W⟩:∃B,B=cmpE (cvC c.consts c.consts.length) k (rlAt c.rules j).ex:=⟨_,rfl⟩;rw[<-W]at a1 a8;simp only[<-W];have d4:=I W;have b0:=I a1;have a2:=I a9;have m:=I A;clear W a1 a9;have C:y.cell? ⟨d,0,none⟩=some (.int .i64 (k:Int))/\y.cell? ⟨d,1,none⟩=some (.string (rlAt c.rules j).name)/\y.cell? ⟨d,2,none⟩=some (.int .i64 (rlAt c.rules j).ex.op)/\y.cell? ⟨d,3,none⟩=some (.int .i64 (rlAt c.rules j).ex.num)/\y.cell? ⟨d,4,none⟩=some (.string (rlAt c.rules j).ex.name)/\y.cell? ⟨d,5,none⟩=some (.slice Z (rlAt c.rules j).ex.args.length xc)/\y.cell? ⟨s,18+k,none⟩=some (U k):=⟨(A.cell_far ⟨d,0,none⟩ n (by simp;omega)).trans q.1,(A.cell_far ⟨d,1,none⟩ n (by simp;omega)).trans q.2.1,(A.cell_far ⟨d,2,none⟩ n (by simp;omega)).trans q.2.2.1,(A.cell_far ⟨d,3,none⟩ n (by simp;omega)).trans q.2.2.2.1,(A.cell_far ⟨d,4,none⟩ n (by simp;omega)).trans q.2.2.2.2.1,(A.cell_far ⟨d,5,none⟩ n (by simp;omega)).trans q.2.2.2.2.2.1,(A.cell_far ⟨s,18+k,none⟩ S (by simp;omega)).trans q.2.2.2.2.2.2⟩;clear A;refine hK.1 _ _ (λ_ _=>C) ?_;clear hK K;try simp only[Act.put,O]
   have j6:=I (I1.1.below ((ztT _ W1).drew));have I2:=I (j6.1.move m.1 a2.1);have LL:=(List.length_filter_le (λr:zcx=>decide (r.scope=(k:Int))) (c.rules.take j));obtain⟨cs,L,E⟩:=I2.1.rul k (by omega);have b1:=I L;have b2:=I E;clear L E;refine zo (i:=18) (o:={dst:=some 97,op:=Op.build 132 #[(0,Operand.tmp 90),(1,Operand.tmp 96)],type:=132,pos:= "setting.go:87",after:=_,guard:=none}) (by kernel_rfl) rfl (by rfl) (λK hK=>?_);go_simp;refine hK.1 _ _ (λ_ h=>h) ?_;clear hK K;try simp only[Act.put,O]
   refine zo (i:=19) (o:={dst:=some 98,op:=Op.buildSlice 118 1 #[(0,Operand.tmp 97)],type:=118,pos:= "setting.go:87",after:=_,guard:=none}) (by kernel_rfl) rfl (by rfl) (λK hK=>?_);go_simp;have R:(y.alloc (oV (rlAt c.rules j).name B.op B.num ya B.args.length yc)).cell? ⟨d,0,none⟩=some (.int .i64 (k:Int))/\(y.alloc (oV (rlAt c.rules j).name B.op B.num ya B.args.length yc)).cell? ⟨d,1,none⟩=some (.string (rlAt c.rules j).name)/\(y.alloc (oV (rlAt c.rules j).name B.op B.num ya B.args.length yc)).cell? ⟨d,2,none⟩=some (.int .i64 (rlAt c.rules j).ex.op)/\(y.alloc (oV (rlAt c.rules j).name B.op B.num ya B.args.length yc)).cell? ⟨d,3,none⟩=some (.int .i64 (rlAt c.rules j).ex.num)/\(y.alloc (oV (rlAt c.rules j).name B.op B.num ya B.args.length yc)).cell? ⟨d,4,none⟩=some (.string (rlAt c.rules j).ex.name)/\(y.alloc (oV (rlAt c.rules j).name B.op B.num ya B.args.length yc)).cell? ⟨d,5,none⟩=some (.slice Z (rlAt c.rules j).ex.args.length xc)/\(y.alloc (oV (rlAt c.rules j).name B.op B.num ya B.args.length yc)).cell? ⟨s,18+k,none⟩=some (U k):=⟨zj C.1 (ztU n m.1.size) (J y _),zj C.2.1 (ztU n m.1.size) (J y _),zj C.2.2.1 (ztU n m.1.size) (J y _),zj C.2.2.2.1 (ztU n m.1.size) (J y _),zj C.2.2.2.2.1 (ztU n m.1.size) (J y _),zj C.2.2.2.2.2.1 (ztU n m.1.size) (J y _),zj C.2.2.2.2.2.2 (ztU S m.1.size) (J y _)⟩;refine hK.1 _ _ (λ_ _=>R) ?_;clear hK K;try simp only[Act.put,O]
   refine zo (i:=20) (o:={dst:=some 99,op:=Op.call {callee:=Callee.builtin Builtin.append,args:=#[Operand.tmp 88,Operand.tmp 98],argTypes:=#[118,118]},type:=118,pos:= "setting.go:87",after:=_,guard:=none}) (by kernel_rfl) rfl (by rfl) (λK hK=>?_);refine wp_append_lies _ (Operand.tmp 88) (Operand.tmp 98) 118 rfl Q.heap.size 132 u7 (.agg #[.string ByteArray.empty,.int .i64 0,.int .i64 0,.slice none 0 0]) 4 56 underlying118 u8 n1 n2 n3 rfl (by decide) (U k) _ cs rfl (b1.1.alloc _) ⟨y.heap.size,0,none⟩ 1 1 [.string (rlAt c.rules j).name,.int .i64 B.op,.int .i64 B.num,.slice ya B.args.length yc] rfl rfl (zaa y [.string (rlAt c.rules j).name,.int .i64 B.op,.int .i64 B.num,.slice ya B.args.length yc] 132) ?q1 (by decide) ?q2 ?q3 ?q4 (y.heap.size+1) (by simp) ?q5
   case q1=>intro u hu;simp at hu;rcases hu with rfl|rfl|rfl|rfl <;> rfl
   case q2=>have:=zf7 c (c.rules.take j) k;have:=m1;simp only[List.length_take] at*;unfold maxLen;omega
   case q3=>have:=zf7 c (c.rules.take j) k;have:=m1;simp only[List.length_take] at*;omega
   case q4=>have:=m.1.size;have:=j6.1.size;simp;exact Nat.le_succ_of_le (ztV j6.1.size m.1.size)
   intro g T F x a b3 b4;have l:(U k).ownBlock≠some d:=λe=>by have:=(a0.1 d e).2;have:=c9.1;omega
   have z:(U k).ownBlock≠some s:=λe=>by have h1:Q.heap.size<=s:=(a0.1 s e).1;omega
   have a3:F.cell? ⟨d,0,none⟩=some (.int .i64 (k:Int))/\F.cell? ⟨d,1,none⟩=some (.string (rlAt c.rules j).name)/\F.cell? ⟨d,2,none⟩=some (.int .i64 (rlAt c.rules j).ex.op)/\F.cell? ⟨d,3,none⟩=some (.int .i64 (rlAt c.rules j).ex.num)/\F.cell? ⟨d,4,none⟩=some (.string (rlAt c.rules j).ex.name)/\F.cell? ⟨d,5,none⟩=some (.slice Z (rlAt c.rules j).ex.args.length xc)/\F.cell? ⟨s,18+k,none⟩=some (U k):=⟨(a.cell_far ⟨d,0,none⟩ (by simp;exact Nat.lt_succ_of_lt (ztU n m.1.size)) (Ne.symm l)).trans R.1,(a.cell_far ⟨d,1,none⟩ (by simp;exact Nat.lt_succ_of_lt (ztU n m.1.size)) (Ne.symm l)).trans R.2.1,(a.cell_far ⟨d,2,none⟩ (by simp;exact Nat.lt_succ_of_lt (ztU n m.1.size)) (Ne.symm l)).trans R.2.2.1,(a.cell_far ⟨d,3,none⟩ (by simp;exact Nat.lt_succ_of_lt (ztU n m.1.size)) (Ne.symm l)).trans R.2.2.2.1,(a.cell_far ⟨d,4,none⟩ (by simp;exact Nat.lt_succ_of_lt (ztU n m.1.size)) (Ne.symm l)).trans R.2.2.2.2.1,(a.cell_far ⟨d,5,none⟩ (by simp;exact Nat.lt_succ_of_lt (ztU n m.1.size)) (Ne.symm l)).trans R.2.2.2.2.2.1,(a.cell_far ⟨s,18+k,none⟩ (by simp;exact Nat.lt_succ_of_lt (ztU S m.1.size)) (Ne.symm z)).trans R.2.2.2.2.2.2⟩;refine hK.1 _ _ (λ_ _=>a3) ?_;clear hK K;try simp only[Act.put,O]
   refine zo (i:=23) (o:={dst:=some 102,op:=Op.indexAddr 119 (Operand.tmp 101) (Operand.tmp 81),type:=0,pos:= "setting.go:87",after:=_,guard:=none}) (by kernel_rfl) rfl (by rfl) (λK hK=>?_);go_simp;refine hK.1 _ _ (λ_ h=>h) ?_;clear hK K;try simp only[Act.put,O]
   have GR:=I (Grew.mk (Lib.grownBy_trans (zP _ (J y _)) a) (by show some g=(U k).ownBlock\/∃H,y.heap.size<=H/\some g=some H;rcases b3 with h|h;exact .inl h.symm;exact .inr ⟨_,Nat.le_succ _,by rw[h]⟩):Grew (⟨t,c,za,zc,aa,ac,fa,fc,p,zb,s,cb,kp,ib,vb,ps,w.heap.size,Q.heap.size⟩:NwP) y F U k (.slice (some ⟨g,0,none⟩) ((zaD c (c.rules.take j) k).length+1) T));have a4:F.heap[s]?=some (.cells (sbA (⟨t,c,za,zc,aa,ac,fa,fc,p,zb,s,cb,kp,ib,vb,ps,w.heap.size,Q.heap.size⟩:NwP) U false) 123 (0,0)):=(a.block s (by simp;exact Nat.lt_succ_of_lt (ztU S m.1.size)) (Ne.symm z)).trans (zd I2.1.box);have b9:F.cell? ⟨s,18+k,none⟩=some (U k):=a3.2.2.2.2.2.2;have c3:F.frozen? ⟨s,18+k,none⟩=false:=zQ a4;have a7:=ztW a4;refine zo (i:=24) (o:={dst:=none,op:=Op.store 118 (Operand.tmp 102) (Operand.tmp 99),type:=0,pos:= "setting.go:87",after:=_,guard:=none}) (by kernel_rfl) rfl (by rfl) (λK hK=>?_);go_simp;refine hK.1 _ _ (λh _=>absurd (by decide:(24:Nat)∈ [24]) h) ?_;clear hK K;try simp only[Act.put,O]
   have I4:=I (NInv.rule j6.1 (by omega) x2 m.1 a2.1 b2.1 b0.1 a8 GR.1 x);refine zM (by kernel_rfl) ?_;clear a4 b9 c3 a7 a3 R C q GR x a b3 b4 l z I2 b1 b2 b0 a2 m j6;have HU:=I (show zaD c (c.rules.take (j+1))=updL (zaD c (c.rules.take j)) k ((rlAt c.rules j).name,B) by rw[zpb _ _ V,znR c _ _ j2.1,d4.1];rfl);generalize F.setCell ⟨s,18+k,none⟩ (.slice (some ⟨g,0,none⟩) ((zaD c (c.rules.take j) k).length+1) T)=W4 at*;go_wp2_with fail;go_roundw
   case rel=>exact⟨j+1,_,by omega,by go_num,I (by rw[HU.1];exact I4.1)⟩
   case measure=>simp[intOf];omega
 obtain rfl:j=c.rules.length:=by omega
 rw[List.take_length]at G;obtain⟨W7,rfl⟩:∃W7:World,W7=wr:=⟨_,rfl⟩;have k8:=I (λi (hi:i<c.costs.length)=>zqO d7.1 hi);have t6:=zbr G.1.con;have t7:=ztW G.1.con;have y5:=(HC.1.costs).1;have h7:c.costs.length<=10000:=by have h:=(zch (zbV d7.1).g).1;simp[zdP]at h;omega
 clear t1 hj V;go_wp2_with fail;clear t6 t7;go_loopw [107] (λi wr=>∃(j:Nat) (U:Nat->Value),j<=c.costs.length/\i=.int .i64 j/\ztR (NInv (⟨t,c,za,zc,aa,ac,fa,fc,p,zb,s,cb,kp,ib,vb,ps,w.heap.size,Q.heap.size⟩:NwP) w Q wr U (zaD c c.rules) (zau c (c.costs.take j)) false)) (λi _=>c.costs.length-(intOf i).toNat)
 case atStart=>exact⟨0,U,ztX _,rfl,G⟩
 clear G;obtain⟨j,U,hj,rfl,G⟩:=hrel;by_cases V:j<c.costs.length
 . obtain⟨k,h6,x0,x1,f7,c7,f8⟩:=k8.1 j V;obtain⟨b,d8,t8,hb,a6⟩:=((HC.1.keep G.1.bel).costs).cells (by omega);obtain⟨r0,_,Z,xc,⟨r1,r2,r3,r4⟩,f9,d3⟩:=a6 j V;rw[h6]at r0;have t4:b<wr.heap.size:=ztU hb (ztV G.1.bs G.1.size);have HW:=I f7;have g7:=I f8;have j2:=I h6;rw[t8];clear a6 t8 h6 f7 f8;go_wp2_with fail;have I1:=I (G.1.below (J wr (oKx (k:Int) (coAt c.costs j).ex Z xc)));have QB:=I (zh wr (oKx (k:Int) (coAt c.costs j).ex Z xc));have i5:=I (d3.keep ((J wr (oKx (k:Int) (coAt c.costs j).ex Z xc)).mono (ztV G.1.bs G.1.size)));have c8:=I f9;obtain⟨d,a5⟩:∃d,d=wr.heap.size:=⟨_,rfl⟩;rw[<-a5]at QB;simp only[<-a5];have c9:=I a5;clear a5;generalize wr.alloc (oKx (k:Int) (coAt c.costs j).ex Z xc)=W1 at*;clear r0 r1 r2 r3 r4;go_region
   . have f0:=ztS (J W1 (Obj.cells #[.bool false] 4)) ((ztT _ (W1.alloc (Obj.cells #[.bool false] 4))).drew);have I2:=I (I1.1.below f0);have c4:=I ((f0.block _ (ztW QB.1)).trans QB.1);have j7:=I (i5.1.keep (f0.mono (ztV I1.1.bs I1.1.size)));go_wp2_with fail;generalize (W1.alloc (Obj.cells #[.bool false] 4)).drew=W2 at*;clear f0;have I3:=I (I2.1.below ((ztT _ W2).drew));have b6:=I (j7.1.keep ((ztT _ W2).drew));have q:W2.drew.cell? ⟨d,0,none⟩=some (.int .i64 (k:Int))/\W2.drew.cell? ⟨d,1,none⟩=some (.int .i64 (coAt c.costs j).ex.op)/\W2.drew.cell? ⟨d,2,none⟩=some (.int .i64 (coAt c.costs j).ex.num)/\W2.drew.cell? ⟨d,3,none⟩=some (.string (coAt c.costs j).ex.name)/\W2.drew.cell? ⟨d,4,none⟩=some (.slice Z (coAt c.costs j).ex.args.length xc)/\W2.drew.cell? ⟨s,22+k,none⟩=some (U (4+k)):=⟨zm (j:=0) c4.1 rfl,zm (j:=1) c4.1 rfl,zm (j:=2) c4.1 rfl,zm (j:=3) c4.1 rfl,zm (j:=4) c4.1 rfl,zm I2.1.box (by rw[show 22+k=18+(4+k) by omega];exact zgn _ U false (by omega))⟩;have k0:(0:Int)<=(k:Int):=by omega
     have k4:(k:Int)<4:=by omega
     have n:=ztW c4.1;have S:=ztW I2.1.box;have F1:s<Q.heap.size:=I2.1.fix.1;have F5:vb<Q.heap.size:=I2.1.fix.2.2.2.2.1;have j3:Q.heap.size<=wr.heap.size:=G.1.size;have a5:=c9.1;have j4:d≠vb:=by omega
     have j5:s≠vb:=I2.1.ne.1;have a0:=I (λb (hb:(U (4+k)).ownBlock=some b)=>G.1.owns (k:=4+k) (by omega) hb);clear a5;refine zfC (λw'=>w'.cell? ⟨d,0,none⟩=some (.int .i64 (k:Int))/\w'.cell? ⟨d,1,none⟩=some (.int .i64 (coAt c.costs j).ex.op)/\w'.cell? ⟨d,2,none⟩=some (.int .i64 (coAt c.costs j).ex.num)/\w'.cell? ⟨d,3,none⟩=some (.string (coAt c.costs j).ex.name)/\w'.cell? ⟨d,4,none⟩=some (.slice Z (coAt c.costs j).ex.args.length xc)/\w'.cell? ⟨s,22+k,none⟩=some (U (4+k))) [21] (by kernel_rfl) ?_;refine zx (i:=0) (v:=.pointer (some ⟨s,0,none⟩)) rfl (λw' hS'=>?_) q ?_
     . obtain⟨g0,g1,g2,g3,g4,Y⟩:=hS';go_simp
     simp only[Act.put,O];refine zx (i:=1) (v:=.pointer (some ⟨d,0,none⟩)) rfl (λw' hS'=>?_) q ?_
     . obtain⟨g0,g1,g2,g3,g4,Y⟩:=hS';go_simp
     simp only[Act.put,O];refine zx (i:=2) (v:=.int .i64 (k:Int)) rfl (λw' hS'=>?_) q ?_
     . obtain⟨g0,g1,g2,g3,g4,Y⟩:=hS';go_simp
     simp only[Act.put,O];refine zx (i:=3) (v:=.pointer (some ⟨s,0,none⟩)) rfl (λw' hS'=>?_) q ?_
     . obtain⟨g0,g1,g2,g3,g4,Y⟩:=hS';go_simp
     simp only[Act.put,O];refine zx (i:=4) (v:=.pointer (some ⟨d,0,none⟩)) rfl (λw' hS'=>?_) q ?_
     . obtain⟨g0,g1,g2,g3,g4,Y⟩:=hS';go_simp
     simp only[Act.put,O];refine zx (i:=5) (v:=.int .i64 (k:Int)) rfl (λw' hS'=>?_) q ?_
     . obtain⟨g0,g1,g2,g3,g4,Y⟩:=hS';go_simp
     simp only[Act.put,O];refine zx (i:=6) (v:=.pointer (some ⟨s,0,none⟩)) rfl (λw' hS'=>?_) q ?_
     . obtain⟨g0,g1,g2,g3,g4,Y⟩:=hS';go_simp
     simp only[Act.put,O];refine zx (i:=7) (v:=.pointer (some ⟨s,22,none⟩)) rfl (λw' hS'=>?_) q ?_
     . obtain⟨g0,g1,g2,g3,g4,Y⟩:=hS';go_simp
     simp only[Act.put,O];refine zx (i:=8) (v:=.pointer (some ⟨s,22+k,none⟩)) rfl (λw' hS'=>?_) q ?_
     . obtain⟨g0,g1,g2,g3,g4,Y⟩:=hS';go_simp
     simp only[Act.put,O];refine zx (i:=9) (v:=U (4+k)) rfl (λw' hS'=>?_) q ?_
     . obtain⟨g0,g1,g2,g3,g4,Y⟩:=hS';go_simp
     simp only[Act.put,O];refine zx (i:=10) (v:=.pointer (some ⟨kp,0,none⟩)) rfl (λw' hS'=>?_) q ?_
     . obtain⟨g0,g1,g2,g3,g4,Y⟩:=hS';go_simp
     simp only[Act.put,O];refine zx (i:=11) (v:=.pointer (some ⟨d,0,none⟩)) rfl (λw' hS'=>?_) q ?_
     . obtain⟨g0,g1,g2,g3,g4,Y⟩:=hS';go_simp
     simp only[Act.put,O];refine zx (i:=12) (v:=.int .i64 (k:Int)) rfl (λw' hS'=>?_) q ?_
     . obtain⟨g0,g1,g2,g3,g4,Y⟩:=hS';go_simp
     simp only[Act.put,O];refine zx (i:=13) (v:=.pointer (some ⟨d,1,none⟩)) rfl (λw' hS'=>?_) q ?_
     . obtain⟨g0,g1,g2,g3,g4,Y⟩:=hS';go_simp
     simp only[Act.put,O];refine zx (i:=14) (v:=.agg #[(coAt c.costs j).ex.op,(coAt c.costs j).ex.num,.string (coAt c.costs j).ex.name,.slice Z (coAt c.costs j).ex.args.length xc]) rfl (λw' hS'=>?_) q ?_
     . obtain⟨g0,g1,g2,g3,g4,Y⟩:=hS';go_simp
     simp only[Act.put,O];refine zT (i:=18) (v:=.pointer (some ⟨s,0,none⟩)) rfl (λw'=>?_) ?_
     . go_simp
     simp only[Act.put,O];refine zT (i:=19) (v:=.pointer (some ⟨s,22,none⟩)) rfl (λw'=>?_) ?_
     . go_simp
     simp only[Act.put,O];refine zo (i:=15) (o:={dst:=some 148,op:=Op.call {callee:=Callee.value (Operand.func 59),args:=#[Operand.tmp 143,Operand.tmp 145,Operand.tmp 147],argTypes:=#[126,3,86]},type:=129,pos:= "setting.go:90",after:=_,guard:=none}) (by kernel_rfl) rfl (by rfl) (λK hK=>?_);go_simp;refine(d9.1 k (coAt c.costs j).ex Z xc W2.drew (by omega) I3.1.cmp c8.1 HW.1 c7 g7.1 b6.1).mono ?_;rintro e y ⟨ya,yc,rfl,a1,a8,a9,A⟩;obtain⟨B,W⟩:∃B,B=cmpE (cvC c.consts c.consts.length) k (coAt c.costs j).ex:=⟨_,rfl⟩;rw[<-W]at a1 a8;simp only[<-W];have d4:=I W;have b0:=I a1;have a2:=I a9;have m:=I A;clear W a1 a9;have C:y.cell? ⟨d,0,none⟩=some (.int .i64 (k:Int))/\y.cell? ⟨d,1,none⟩=some (.int .i64 (coAt c.costs j).ex.op)/\y.cell? ⟨d,2,none⟩=some (.int .i64 (coAt c.costs j).ex.num)/\y.cell? ⟨d,3,none⟩=some (.string (coAt c.costs j).ex.name)/\y.cell? ⟨d,4,none⟩=some (.slice Z (coAt c.costs j).ex.args.length xc)/\y.cell? ⟨s,22+k,none⟩=some (U (4+k)):=⟨(A.cell_far ⟨d,0,none⟩ n (by simp;omega)).trans q.1,(A.cell_far ⟨d,1,none⟩ n (by simp;omega)).trans q.2.1,(A.cell_far ⟨d,2,none⟩ n (by simp;omega)).trans q.2.2.1,(A.cell_far ⟨d,3,none⟩ n (by simp;omega)).trans q.2.2.2.1,(A.cell_far ⟨d,4,none⟩ n (by simp;omega)).trans q.2.2.2.2.1,(A.cell_far ⟨s,22+k,none⟩ S (by simp;omega)).trans q.2.2.2.2.2⟩;clear A;refine hK.1 _ _ (λ_ _=>C) ?_;clear hK K;try simp only[Act.put,O]
     have I4:=I (I3.1.move m.1 a2.1);obtain⟨cs,L,E⟩:=I4.1.cos k (by omega);have b1:=I L;have b2:=I E;clear L E;refine zo (i:=16) (o:={dst:=some 149,op:=Op.buildSlice 120 1 #[(0,Operand.tmp 148)],type:=120,pos:= "setting.go:90",after:=_,guard:=none}) (by kernel_rfl) rfl (by rfl) (λK hK=>?_);go_simp;have R:(y.alloc (oFg B.op B.num ya B.args.length yc)).cell? ⟨d,0,none⟩=some (.int .i64 (k:Int))/\(y.alloc (oFg B.op B.num ya B.args.length yc)).cell? ⟨d,1,none⟩=some (.int .i64 (coAt c.costs j).ex.op)/\(y.alloc (oFg B.op B.num ya B.args.length yc)).cell? ⟨d,2,none⟩=some (.int .i64 (coAt c.costs j).ex.num)/\(y.alloc (oFg B.op B.num ya B.args.length yc)).cell? ⟨d,3,none⟩=some (.string (coAt c.costs j).ex.name)/\(y.alloc (oFg B.op B.num ya B.args.length yc)).cell? ⟨d,4,none⟩=some (.slice Z (coAt c.costs j).ex.args.length xc)/\(y.alloc (oFg B.op B.num ya B.args.length yc)).cell? ⟨s,22+k,none⟩=some (U (4+k)):=⟨zj C.1 (ztU n m.1.size) (J y _),zj C.2.1 (ztU n m.1.size) (J y _),zj C.2.2.1 (ztU n m.1.size) (J y _),zj C.2.2.2.1 (ztU n m.1.size) (J y _),zj C.2.2.2.2.1 (ztU n m.1.size) (J y _),zj C.2.2.2.2.2 (ztU S m.1.size) (J y _)⟩;refine hK.1 _ _ (λ_ _=>R) ?_;clear hK K;try simp only[Act.put,O]
     refine zo (i:=17) (o:={dst:=some 150,op:=Op.call {callee:=Callee.builtin Builtin.append,args:=#[Operand.tmp 142,Operand.tmp 149],argTypes:=#[120,120]},type:=120,pos:= "setting.go:90",after:=_,guard:=none}) (by kernel_rfl) rfl (by rfl) (λK hK=>?_);refine wp_append_lies _ (Operand.tmp 142) (Operand.tmp 149) 120 rfl Q.heap.size 129 i6 (.agg #[.int .i64 0,.int .i64 0,.slice none 0 0]) 3 40 underlying120 i7 f3 f4 f5 rfl (by decide) (U (4+k)) _ cs rfl (b1.1.alloc _) ⟨y.heap.size,0,none⟩ 1 1 [.int .i64 B.op,.int .i64 B.num,.slice ya B.args.length yc] rfl rfl (zaa y [.int .i64 B.op,.int .i64 B.num,.slice ya B.args.length yc] 129) ?p1 (by decide) ?p2 ?p3 ?p4 (y.heap.size+1) (by simp) ?p5
     case p1=>intro u hu;simp at hu;rcases hu with rfl|rfl|rfl <;> rfl
     case p2=>have:=zcC c (c.costs.take j) k;have:=h7;simp only[List.length_take] at*;unfold maxLen;omega
     case p3=>have:=zcC c (c.costs.take j) k;have:=h7;simp only[List.length_take] at*;omega
     case p4=>simp;exact Nat.le_succ_of_le (ztV I3.1.size m.1.size)
     intro g T F x a b3 b4;have l:(U (4+k)).ownBlock≠some d:=λe=>by have:=(a0.1 d e).2;have:=c9.1;omega
     have z:(U (4+k)).ownBlock≠some s:=λe=>by have h1:Q.heap.size<=s:=(a0.1 s e).1;omega
     have a3:F.cell? ⟨d,0,none⟩=some (.int .i64 (k:Int))/\F.cell? ⟨d,1,none⟩=some (.int .i64 (coAt c.costs j).ex.op)/\F.cell? ⟨d,2,none⟩=some (.int .i64 (coAt c.costs j).ex.num)/\F.cell? ⟨d,3,none⟩=some (.string (coAt c.costs j).ex.name)/\F.cell? ⟨d,4,none⟩=some (.slice Z (coAt c.costs j).ex.args.length xc)/\F.cell? ⟨s,22+k,none⟩=some (U (4+k)):=⟨(a.cell_far ⟨d,0,none⟩ (by simp;exact Nat.lt_succ_of_lt (ztU n m.1.size)) (Ne.symm l)).trans R.1,(a.cell_far ⟨d,1,none⟩ (by simp;exact Nat.lt_succ_of_lt (ztU n m.1.size)) (Ne.symm l)).trans R.2.1,(a.cell_far ⟨d,2,none⟩ (by simp;exact Nat.lt_succ_of_lt (ztU n m.1.size)) (Ne.symm l)).trans R.2.2.1,(a.cell_far ⟨d,3,none⟩ (by simp;exact Nat.lt_succ_of_lt (ztU n m.1.size)) (Ne.symm l)).trans R.2.2.2.1,(a.cell_far ⟨d,4,none⟩ (by simp;exact Nat.lt_succ_of_lt (ztU n m.1.size)) (Ne.symm l)).trans R.2.2.2.2.1,(a.cell_far ⟨s,22+k,none⟩ (by simp;exact Nat.lt_succ_of_lt (ztU S m.1.size)) (Ne.symm z)).trans R.2.2.2.2.2⟩;refine hK.1 _ _ (λ_ _=>a3) ?_;clear hK K;try simp only[Act.put,O]
     refine zo (i:=20) (o:={dst:=some 153,op:=Op.indexAddr 121 (Operand.tmp 152) (Operand.tmp 135),type:=0,pos:= "setting.go:90",after:=_,guard:=none}) (by kernel_rfl) rfl (by rfl) (λK hK=>?_);go_simp;refine hK.1 _ _ (λ_ h=>h) ?_;clear hK K;try simp only[Act.put,O]
     have GR:=I (Grew.mk (Lib.grownBy_trans (zP _ (J y _)) a) (by show some g=(U (4+k)).ownBlock\/∃H,y.heap.size<=H/\some g=some H;rcases b3 with h|h;exact .inl h.symm;exact .inr ⟨_,Nat.le_succ _,by rw[h]⟩):Grew (⟨t,c,za,zc,aa,ac,fa,fc,p,zb,s,cb,kp,ib,vb,ps,w.heap.size,Q.heap.size⟩:NwP) y F U (4+k) (.slice (some ⟨g,0,none⟩) ((zau c (c.costs.take j) k).length+1) T));have a4:F.heap[s]?=some (.cells (sbA (⟨t,c,za,zc,aa,ac,fa,fc,p,zb,s,cb,kp,ib,vb,ps,w.heap.size,Q.heap.size⟩:NwP) U false) 123 (0,0)):=(a.block s (by simp;exact Nat.lt_succ_of_lt (ztU S m.1.size)) (Ne.symm z)).trans (zd I4.1.box);have b9:F.cell? ⟨s,22+k,none⟩=some (U (4+k)):=a3.2.2.2.2.2;have c3:F.frozen? ⟨s,22+k,none⟩=false:=zQ a4;have a7:=ztW a4;refine zo (i:=21) (o:={dst:=none,op:=Op.store 120 (Operand.tmp 153) (Operand.tmp 150),type:=0,pos:= "setting.go:90",after:=_,guard:=none}) (by kernel_rfl) rfl (by rfl) (λK hK=>?_);go_simp;refine hK.1 _ _ (λh _=>absurd (by decide:(21:Nat)∈ [21]) h) ?_;clear hK K;try simp only[Act.put,O]
     have I5:=I (NInv.cost I3.1 (by omega) m.1 a2.1 b2.1 b0.1 a8 GR.1 x);rw[show 18+(4+k)=22+k by omega]at I5;refine zM (by kernel_rfl) ?_;clear a4 b9 c3 a7 a3 R C q GR x a b3 b4 l z I4 b1 b2 b0 a2 m I3;have HU:=I (show zau c (c.costs.take (j+1))=updL (zau c (c.costs.take j)) k B by rw[zjk _ _ V,zgg c _ _ j2.1,d4.1];rfl);generalize F.setCell ⟨s,22+k,none⟩ (.slice (some ⟨g,0,none⟩) ((zau c (c.costs.take j) k).length+1) T)=W4 at*;go_wp2_with fail;go_roundw
     case rel=>exact⟨j+1,_,by omega,by go_num,I (by rw[HU.1];exact I5.1)⟩
     case measure=>simp[intOf];omega
   have f0:=ztS (J W1 (Obj.cells #[.bool true] 4)) ((ztT _ (W1.alloc (Obj.cells #[.bool true] 4))).drew);have I2:=I (I1.1.below f0);have c4:=I ((f0.block _ (ztW QB.1)).trans QB.1);have j7:=I (i5.1.keep (f0.mono (ztV I1.1.bs I1.1.size)));go_wp2_with fail;generalize (W1.alloc (Obj.cells #[.bool true] 4)).drew=W2 at*;clear f0;have I3:=I (I2.1.below ((ztT _ W2).drew));have b6:=I (j7.1.keep ((ztT _ W2).drew));have q:W2.drew.cell? ⟨d,0,none⟩=some (.int .i64 (k:Int))/\W2.drew.cell? ⟨d,1,none⟩=some (.int .i64 (coAt c.costs j).ex.op)/\W2.drew.cell? ⟨d,2,none⟩=some (.int .i64 (coAt c.costs j).ex.num)/\W2.drew.cell? ⟨d,3,none⟩=some (.string (coAt c.costs j).ex.name)/\W2.drew.cell? ⟨d,4,none⟩=some (.slice Z (coAt c.costs j).ex.args.length xc)/\W2.drew.cell? ⟨s,22+k,none⟩=some (U (4+k)):=⟨zm (j:=0) c4.1 rfl,zm (j:=1) c4.1 rfl,zm (j:=2) c4.1 rfl,zm (j:=3) c4.1 rfl,zm (j:=4) c4.1 rfl,zm I2.1.box (by rw[show 22+k=18+(4+k) by omega];exact zgn _ U false (by omega))⟩;have k0:(0:Int)<=(k:Int):=by omega
   have k4:(k:Int)<4:=by omega
   have n:=ztW c4.1;have S:=ztW I2.1.box;have F1:s<Q.heap.size:=I2.1.fix.1;have F5:vb<Q.heap.size:=I2.1.fix.2.2.2.2.1;have j3:Q.heap.size<=wr.heap.size:=G.1.size;have a5:=c9.1;have j4:d≠vb:=by omega
   have j5:s≠vb:=I2.1.ne.1;have a0:=I (λb (hb:(U (4+k)).ownBlock=some b)=>G.1.owns (k:=4+k) (by omega) hb);clear a5
   have c5:=I (show ∃ua uc,U (4+k)=.slice ua (zau c (c.costs.take j) k).length uc by
    obtain⟨cs,ho,_⟩:=I2.1.cos k (by omega);exact zm7 ho)
   obtain⟨ua,uc,j8⟩:=c5.1;clear c5;have c5:=I j8;clear j8;refine zfC (λw'=>w'.cell? ⟨d,0,none⟩=some (.int .i64 (k:Int))/\w'.cell? ⟨d,1,none⟩=some (.int .i64 (coAt c.costs j).ex.op)/\w'.cell? ⟨d,2,none⟩=some (.int .i64 (coAt c.costs j).ex.num)/\w'.cell? ⟨d,3,none⟩=some (.string (coAt c.costs j).ex.name)/\w'.cell? ⟨d,4,none⟩=some (.slice Z (coAt c.costs j).ex.args.length xc)/\w'.cell? ⟨s,22+k,none⟩=some (U (4+k))) [19] (by kernel_rfl) ?_;refine zx (i:=0) (v:=.pointer (some ⟨s,0,none⟩)) rfl (λw' hS'=>?_) q ?_
   . obtain⟨g0,g1,g2,g3,g4,Y⟩:=hS';go_simp
   simp only[Act.put,O];refine zx (i:=1) (v:=.pointer (some ⟨d,0,none⟩)) rfl (λw' hS'=>?_) q ?_
   . obtain⟨g0,g1,g2,g3,g4,Y⟩:=hS';go_simp
   simp only[Act.put,O];refine zx (i:=2) (v:=.int .i64 (k:Int)) rfl (λw' hS'=>?_) q ?_
   . obtain⟨g0,g1,g2,g3,g4,Y⟩:=hS';go_simp
   simp only[Act.put,O];refine zx (i:=3) (v:=.pointer (some ⟨s,0,none⟩)) rfl (λw' hS'=>?_) q ?_
   . obtain⟨g0,g1,g2,g3,g4,Y⟩:=hS';go_simp
   simp only[Act.put,O];refine zx (i:=4) (v:=.pointer (some ⟨s,22,none⟩)) rfl (λw' hS'=>?_) q ?_
   . obtain⟨g0,g1,g2,g3,g4,Y⟩:=hS';go_simp
   simp only[Act.put,O];refine zx (i:=5) (v:=.pointer (some ⟨s,22+k,none⟩)) rfl (λw' hS'=>?_) q ?_
   . obtain⟨g0,g1,g2,g3,g4,Y⟩:=hS';go_simp
   simp only[Act.put,O];refine zx (i:=6) (v:=U (4+k)) rfl (λw' hS'=>?_) q ?_
   . obtain⟨g0,g1,g2,g3,g4,Y⟩:=hS';go_simp
   simp only[Act.put,O];refine zx (i:=7) (v:=.pointer (some ⟨kp,0,none⟩)) rfl (λw' hS'=>?_) q ?_
   . obtain⟨g0,g1,g2,g3,g4,Y⟩:=hS';go_simp
   simp only[Act.put,O];refine zx (i:=8) (v:=.pointer (some ⟨d,0,none⟩)) rfl (λw' hS'=>?_) q ?_
   . obtain⟨g0,g1,g2,g3,g4,Y⟩:=hS';go_simp
   simp only[Act.put,O];refine zx (i:=9) (v:=.int .i64 (k:Int)) rfl (λw' hS'=>?_) q ?_
   . obtain⟨g0,g1,g2,g3,g4,Y⟩:=hS';go_simp
   simp only[Act.put,O];refine zx (i:=10) (v:=.pointer (some ⟨d,1,none⟩)) rfl (λw' hS'=>?_) q ?_
   . obtain⟨g0,g1,g2,g3,g4,Y⟩:=hS';go_simp
   simp only[Act.put,O];refine zx (i:=11) (v:=.agg #[(coAt c.costs j).ex.op,(coAt c.costs j).ex.num,.string (coAt c.costs j).ex.name,.slice Z (coAt c.costs j).ex.args.length xc]) rfl (λw' hS'=>?_) q ?_
   . obtain⟨g0,g1,g2,g3,g4,Y⟩:=hS';go_simp
   simp only[Act.put,O];refine zT (i:=13) (v:=.int .i64 ((zau c (c.costs.take j) k).length:Nat)) rfl (λw'=>?_) ?_
   . have hu:=c5.1;go_simp
   simp only[Act.put,O];refine zT (i:=16) (v:=.pointer (some ⟨s,0,none⟩)) rfl (λw'=>?_) ?_
   . go_simp
   simp only[Act.put,O];refine zT (i:=17) (v:=.pointer (some ⟨s,22,none⟩)) rfl (λw'=>?_) ?_
   . go_simp
   simp only[Act.put,O];refine zaU (i:=12) (j:=14) (oi:={dst:=some 125,op:=Op.call {callee:=Callee.value (Operand.func 59),args:=#[Operand.tmp 120,Operand.tmp 122,Operand.tmp 124],argTypes:=#[126,3,86]},type:=129,pos:= "setting.go:90",after:=_,guard:=none}) (oj:={dst:=some 127,op:=Op.buildSlice 120 1 #[(0,Operand.const (Value.agg #[.int IntKind.i64 0,.int IntKind.i64 0,.slice none 0 0]))],type:=120,pos:= "setting.go:90",after:=_,guard:=none}) (by kernel_rfl) rfl rfl (by rfl) (by rfl) (λK hK=>?_) (λK hK=>?_)
   . go_simp;refine(d9.1 k (coAt c.costs j).ex Z xc W2.drew (by omega) I3.1.cmp c8.1 HW.1 c7 g7.1 b6.1).mono ?_;rintro e y ⟨ya,yc,rfl,a1,a8,a9,A⟩;obtain⟨B,W⟩:∃B,B=cmpE (cvC c.consts c.consts.length) k (coAt c.costs j).ex:=⟨_,rfl⟩;rw[<-W]at a1 a8;simp only[<-W];have d4:=I W;have b0:=I a1;have a2:=I a9;have m:=I A;clear W a1 a9;have C:y.cell? ⟨d,0,none⟩=some (.int .i64 (k:Int))/\y.cell? ⟨d,1,none⟩=some (.int .i64 (coAt c.costs j).ex.op)/\y.cell? ⟨d,2,none⟩=some (.int .i64 (coAt c.costs j).ex.num)/\y.cell? ⟨d,3,none⟩=some (.string (coAt c.costs j).ex.name)/\y.cell? ⟨d,4,none⟩=some (.slice Z (coAt c.costs j).ex.args.length xc)/\y.cell? ⟨s,22+k,none⟩=some (U (4+k)):=⟨(A.cell_far ⟨d,0,none⟩ n (by simp;omega)).trans q.1,(A.cell_far ⟨d,1,none⟩ n (by simp;omega)).trans q.2.1,(A.cell_far ⟨d,2,none⟩ n (by simp;omega)).trans q.2.2.1,(A.cell_far ⟨d,3,none⟩ n (by simp;omega)).trans q.2.2.2.1,(A.cell_far ⟨d,4,none⟩ n (by simp;omega)).trans q.2.2.2.2.1,(A.cell_far ⟨s,22+k,none⟩ S (by simp;omega)).trans q.2.2.2.2.2⟩;clear A;refine hK.1 _ _ (λ_ _=>C) ?_;clear hK K;try simp only[Act.put,O]
     have I4:=I (I3.1.move m.1 a2.1);obtain⟨cs,L,E⟩:=I4.1.cos k (by omega);have b1:=I L;have b2:=I E;clear L E;refine zo (i:=14) (o:={dst:=some 127,op:=Op.buildSlice 120 1 #[(0,Operand.const (Value.agg #[.int IntKind.i64 0,.int IntKind.i64 0,.slice none 0 0]))],type:=120,pos:= "setting.go:90",after:=_,guard:=none}) (by kernel_rfl) rfl (by rfl) (λK hK=>?_);go_simp;have R:(y.alloc jC).cell? ⟨d,0,none⟩=some (.int .i64 (k:Int))/\(y.alloc jC).cell? ⟨d,1,none⟩=some (.int .i64 (coAt c.costs j).ex.op)/\(y.alloc jC).cell? ⟨d,2,none⟩=some (.int .i64 (coAt c.costs j).ex.num)/\(y.alloc jC).cell? ⟨d,3,none⟩=some (.string (coAt c.costs j).ex.name)/\(y.alloc jC).cell? ⟨d,4,none⟩=some (.slice Z (coAt c.costs j).ex.args.length xc)/\(y.alloc jC).cell? ⟨s,22+k,none⟩=some (U (4+k)):=⟨zj C.1 (ztU n m.1.size) (J y _),zj C.2.1 (ztU n m.1.size) (J y _),zj C.2.2.1 (ztU n m.1.size) (J y _),zj C.2.2.2.1 (ztU n m.1.size) (J y _),zj C.2.2.2.2.1 (ztU n m.1.size) (J y _),zj C.2.2.2.2.2 (ztU S m.1.size) (J y _)⟩;refine hK.1 _ _ (λ_ _=>R) ?_;clear hK K;try simp only[Act.put,O]
     refine zo (i:=15) (o:={dst:=some 128,op:=Op.call {callee:=Callee.builtin Builtin.append,args:=#[Operand.tmp 119,Operand.tmp 127],argTypes:=#[120,120]},type:=120,pos:= "setting.go:90",after:=_,guard:=none}) (by kernel_rfl) rfl (by rfl) (λK hK=>?_);refine wp_append_lies _ (Operand.tmp 119) (Operand.tmp 127) 120 rfl Q.heap.size 129 i6 (.agg #[.int .i64 0,.int .i64 0,.slice none 0 0]) 3 40 underlying120 i7 f3 f4 f5 rfl (by decide) (U (4+k)) _ cs rfl (b1.1.alloc _) ⟨y.heap.size,0,none⟩ 1 1 [.int .i64 0,.int .i64 0,.slice none 0 0] rfl rfl (zaa y [.int .i64 0,.int .i64 0,.slice none 0 0] 129) ?ka1 (by decide) ?ka2 ?ka3 ?ka4 (y.heap.size+1) (by simp) ?ka5
     case ka1=>intro u hu;simp at hu;rcases hu with rfl|rfl|rfl <;> rfl
     case ka2=>have:=zcC c (c.costs.take j) k;have:=h7;simp only[List.length_take] at*;unfold maxLen;omega
     case ka3=>have:=zcC c (c.costs.take j) k;have:=h7;simp only[List.length_take] at*;omega
     case ka4=>simp;exact Nat.le_succ_of_le (ztV I3.1.size m.1.size)
     intro g T F x a b3 b4;have l:(U (4+k)).ownBlock≠some d:=λe=>by have:=(a0.1 d e).2;have:=c9.1;omega
     have z:(U (4+k)).ownBlock≠some s:=λe=>by have h1:Q.heap.size<=s:=(a0.1 s e).1;omega
     have a3:F.cell? ⟨d,0,none⟩=some (.int .i64 (k:Int))/\F.cell? ⟨d,1,none⟩=some (.int .i64 (coAt c.costs j).ex.op)/\F.cell? ⟨d,2,none⟩=some (.int .i64 (coAt c.costs j).ex.num)/\F.cell? ⟨d,3,none⟩=some (.string (coAt c.costs j).ex.name)/\F.cell? ⟨d,4,none⟩=some (.slice Z (coAt c.costs j).ex.args.length xc)/\F.cell? ⟨s,22+k,none⟩=some (U (4+k)):=⟨(a.cell_far ⟨d,0,none⟩ (by simp;exact Nat.lt_succ_of_lt (ztU n m.1.size)) (Ne.symm l)).trans R.1,(a.cell_far ⟨d,1,none⟩ (by simp;exact Nat.lt_succ_of_lt (ztU n m.1.size)) (Ne.symm l)).trans R.2.1,(a.cell_far ⟨d,2,none⟩ (by simp;exact Nat.lt_succ_of_lt (ztU n m.1.size)) (Ne.symm l)).trans R.2.2.1,(a.cell_far ⟨d,3,none⟩ (by simp;exact Nat.lt_succ_of_lt (ztU n m.1.size)) (Ne.symm l)).trans R.2.2.2.1,(a.cell_far ⟨d,4,none⟩ (by simp;exact Nat.lt_succ_of_lt (ztU n m.1.size)) (Ne.symm l)).trans R.2.2.2.2.1,(a.cell_far ⟨s,22+k,none⟩ (by simp;exact Nat.lt_succ_of_lt (ztU S m.1.size)) (Ne.symm z)).trans R.2.2.2.2.2⟩;refine hK.1 _ _ (λ_ _=>a3) ?_;clear hK K;try simp only[Act.put,O]
     refine zo (i:=18) (o:={dst:=some 131,op:=Op.indexAddr 121 (Operand.tmp 130) (Operand.tmp 115),type:=0,pos:= "setting.go:90",after:=_,guard:=none}) (by kernel_rfl) rfl (by rfl) (λK hK=>?_);go_simp;refine hK.1 _ _ (λ_ h=>h) ?_;clear hK K;try simp only[Act.put,O]
     have GR:=I (Grew.mk (Lib.grownBy_trans (zP _ (J y _)) a) (by show some g=(U (4+k)).ownBlock\/∃H,y.heap.size<=H/\some g=some H;rcases b3 with h|h;exact .inl h.symm;exact .inr ⟨_,Nat.le_succ _,by rw[h]⟩):Grew (⟨t,c,za,zc,aa,ac,fa,fc,p,zb,s,cb,kp,ib,vb,ps,w.heap.size,Q.heap.size⟩:NwP) y F U (4+k) (.slice (some ⟨g,0,none⟩) ((zau c (c.costs.take j) k).length+1) T));have a4:F.heap[s]?=some (.cells (sbA (⟨t,c,za,zc,aa,ac,fa,fc,p,zb,s,cb,kp,ib,vb,ps,w.heap.size,Q.heap.size⟩:NwP) U false) 123 (0,0)):=(a.block s (by simp;exact Nat.lt_succ_of_lt (ztU S m.1.size)) (Ne.symm z)).trans (zd I4.1.box);have b9:F.cell? ⟨s,22+k,none⟩=some (U (4+k)):=a3.2.2.2.2.2;have c3:F.frozen? ⟨s,22+k,none⟩=false:=zQ a4;have a7:=ztW a4;refine zo (i:=19) (o:={dst:=none,op:=Op.store 120 (Operand.tmp 131) (Operand.tmp 128),type:=0,pos:= "setting.go:90",after:=_,guard:=none}) (by kernel_rfl) rfl (by rfl) (λK hK=>?_);go_simp;refine hK.1 _ _ (λh _=>absurd (by decide:(19:Nat)∈ [19]) h) ?_;clear hK K;try simp only[Act.put,O]
     have I5:=I (NInv.cost (f:=zE.mk 0 0 []) (fa:=none) (fc:=0) I3.1 (by omega) m.1 a2.1 b2.1 ⟨0,0,λh=>absurd rfl h,.nil _ _⟩ (by decide) GR.1 x);have d5:=I (zax.past I3.1 I4.1 m.1.size (by omega) GR.1 b0.1);rw[show 18+(4+k)=22+k by omega]at I5 d5;refine zM (by kernel_rfl) ?_;have HU:=I (show zau c (c.costs.take (j+1))=updL (zau c (c.costs.take j)) k B by rw[zjk _ _ V,zgg c _ _ j2.1,d4.1];rfl);have j9:=I (show upd U (4+k) (.slice (some ⟨g,0,none⟩) ((zau c (c.costs.take j) k).length+1) T) (4+k)=(.slice (some ⟨g,0,none⟩) ((zau c (c.costs.take j) k).length+1) T) from zfw _ _ _);clear a4 b9 c3 a7 a3 q GR x a b3 b4 l z I4 b1 b2 b0 a2 m I3 c5;generalize F.setCell ⟨s,22+k,none⟩ (.slice (some ⟨g,0,none⟩) ((zau c (c.costs.take j) k).length+1) T)=W4 at*;generalize upd U (4+k) (.slice (some ⟨g,0,none⟩) ((zau c (c.costs.take j) k).length+1) T)=U5 at*;obtain⟨k1,d6,_⟩:=I5.1.cos k (by omega);have D:W4.ownsRow Q.heap.size 129 3 (.slice (some ⟨g,0,none⟩) ((zau c (c.costs.take j) k).length+1) T) ((zau c (c.costs.take j) k).length+1) k1:=by
      have h:=d6;rw[j9.1,zfc,zt2]at h;exact h
     obtain⟨N,hN⟩:∃N,N=(zau c (c.costs.take j) k).length:=⟨_,rfl⟩;have X:=I (NInv.fill (f:=B) (fa:=ya) (fc:=yc) I5.1 (by omega) j9.1 a8 d5.1);simp only[<-hN]at X D ⊢;have HN:=I hN;clear hN d6;have y0:=D.cellAt (N*3) (by omega);have y1:=D.cellAt (N*3+1) (by omega);have y2:=D.cellAt (N*3+2) (by omega);have f1:k1.length=(N+1)*3:=D.1;rw[zt1 (by omega)]at y0 y1 y2;have z0:=D.frozenAt (N*3);have z1:=D.frozenAt (N*3+1);have z2:=D.frozenAt (N*3+2);have lg:g<W4.heap.size:=(D.lt g rfl).2;clear D;go_wp2_with fail;go_roundw
     case rel=>exact⟨j+1,_,by omega,by go_num,I (by rw[HU.1];exact X.1)⟩
     case measure=>simp[intOf];omega
   go_simp;have b7:(W2.drew.alloc jC).cell? ⟨d,0,none⟩=some (.int .i64 (k:Int))/\(W2.drew.alloc jC).cell? ⟨d,1,none⟩=some (.int .i64 (coAt c.costs j).ex.op)/\(W2.drew.alloc jC).cell? ⟨d,2,none⟩=some (.int .i64 (coAt c.costs j).ex.num)/\(W2.drew.alloc jC).cell? ⟨d,3,none⟩=some (.string (coAt c.costs j).ex.name)/\(W2.drew.alloc jC).cell? ⟨d,4,none⟩=some (.slice Z (coAt c.costs j).ex.args.length xc)/\(W2.drew.alloc jC).cell? ⟨s,22+k,none⟩=some (U (4+k)):=⟨zj q.1 n (J W2.drew _),zj q.2.1 n (J W2.drew _),zj q.2.2.1 n (J W2.drew _),zj q.2.2.2.1 n (J W2.drew _),zj q.2.2.2.2.1 n (J W2.drew _),zj q.2.2.2.2.2 S (J W2.drew _)⟩;refine hK.1 _ _ (λ_ _=>b7) ?_;clear hK K;try simp only[Act.put,O]
   have c6:=I (I3.1.below (J W2.drew jC));have k2:=I (b6.1.keep ((J W2.drew jC).mono (ztV I3.1.bs I3.1.size)));have QZ:=I (zh W2.drew jC);obtain⟨zq,h8⟩:∃zq,zq=W2.drew.heap.size:=⟨_,rfl⟩;have m2:zq≠vb:=by have h1:vb<Q.heap.size:=F5;have h2:Q.heap.size<=W2.drew.heap.size:=I3.1.size;omega
   rw[<-h8]at QZ;replace n:d<(W2.drew.alloc jC).heap.size:=ztU n (by simp);replace S:s<(W2.drew.alloc jC).heap.size:=ztU S (by simp);have m3:=ztW QZ.1;simp only[show W2.heap.size=zq from h8.symm];simp only[show(W2.alloc jC).drew=W2.drew.alloc jC from rfl];generalize W2.drew.alloc jC=W5 at*;clear h8 I3 b6;refine zo (i:=12) (o:={dst:=some 125,op:=Op.call {callee:=Callee.value (Operand.func 59),args:=#[Operand.tmp 120,Operand.tmp 122,Operand.tmp 124],argTypes:=#[126,3,86]},type:=129,pos:= "setting.go:90",after:=_,guard:=none}) (by kernel_rfl) rfl (by rfl) (λK hK=>?_);go_simp;refine(d9.1 k (coAt c.costs j).ex Z xc W5 (by omega) c6.1.cmp c8.1 HW.1 c7 g7.1 k2.1).mono ?_;rintro e y ⟨ya,yc,rfl,a1,a8,a9,A⟩;obtain⟨B,W⟩:∃B,B=cmpE (cvC c.consts c.consts.length) k (coAt c.costs j).ex:=⟨_,rfl⟩;rw[<-W]at a1 a8;simp only[<-W];have d4:=I W;have b0:=I a1;have a2:=I a9;have m:=I A;clear W a1 a9;have C:y.cell? ⟨d,0,none⟩=some (.int .i64 (k:Int))/\y.cell? ⟨d,1,none⟩=some (.int .i64 (coAt c.costs j).ex.op)/\y.cell? ⟨d,2,none⟩=some (.int .i64 (coAt c.costs j).ex.num)/\y.cell? ⟨d,3,none⟩=some (.string (coAt c.costs j).ex.name)/\y.cell? ⟨d,4,none⟩=some (.slice Z (coAt c.costs j).ex.args.length xc)/\y.cell? ⟨s,22+k,none⟩=some (U (4+k)):=⟨(A.cell_far ⟨d,0,none⟩ n (by simp;omega)).trans b7.1,(A.cell_far ⟨d,1,none⟩ n (by simp;omega)).trans b7.2.1,(A.cell_far ⟨d,2,none⟩ n (by simp;omega)).trans b7.2.2.1,(A.cell_far ⟨d,3,none⟩ n (by simp;omega)).trans b7.2.2.2.1,(A.cell_far ⟨d,4,none⟩ n (by simp;omega)).trans b7.2.2.2.2.1,(A.cell_far ⟨s,22+k,none⟩ S (by simp;omega)).trans b7.2.2.2.2.2⟩;have m4:=I ((A.block zq m3 (by simpa using m2)).trans QZ.1);clear A;refine hK.1 _ _ (λ_ _=>C) ?_;clear hK K;try simp only[Act.put,O]
   have I4:=I (c6.1.move m.1 a2.1);obtain⟨cs,L,E⟩:=I4.1.cos k (by omega);have b1:=I L;have b2:=I E;clear L E;refine zo (i:=15) (o:={dst:=some 128,op:=Op.call {callee:=Callee.builtin Builtin.append,args:=#[Operand.tmp 119,Operand.tmp 127],argTypes:=#[120,120]},type:=120,pos:= "setting.go:90",after:=_,guard:=none}) (by kernel_rfl) rfl (by rfl) (λK hK=>?_);refine wp_append_lies _ (Operand.tmp 119) (Operand.tmp 127) 120 rfl Q.heap.size 129 i6 (.agg #[.int .i64 0,.int .i64 0,.slice none 0 0]) 3 40 underlying120 i7 f3 f4 f5 rfl (by decide) (U (4+k)) _ cs rfl (b1.1) ⟨zq,0,none⟩ 1 1 [.int .i64 0,.int .i64 0,.slice none 0 0] rfl rfl (zhZ m4.1) ?kb1 (by decide) ?kb2 ?kb3 ?kb4 (y.heap.size) rfl ?kb5
   case kb1=>intro u hu;simp at hu;rcases hu with rfl|rfl|rfl <;> rfl
   case kb2=>have:=zcC c (c.costs.take j) k;have:=h7;simp only[List.length_take] at*;unfold maxLen;omega
   case kb3=>have:=zcC c (c.costs.take j) k;have:=h7;simp only[List.length_take] at*;omega
   case kb4=>exact ztV c6.1.size m.1.size
   intro g T F x a b3 b4;have l:(U (4+k)).ownBlock≠some d:=λe=>by have:=(a0.1 d e).2;have:=c9.1;omega
   have z:(U (4+k)).ownBlock≠some s:=λe=>by have h1:Q.heap.size<=s:=(a0.1 s e).1;omega
   have a3:F.cell? ⟨d,0,none⟩=some (.int .i64 (k:Int))/\F.cell? ⟨d,1,none⟩=some (.int .i64 (coAt c.costs j).ex.op)/\F.cell? ⟨d,2,none⟩=some (.int .i64 (coAt c.costs j).ex.num)/\F.cell? ⟨d,3,none⟩=some (.string (coAt c.costs j).ex.name)/\F.cell? ⟨d,4,none⟩=some (.slice Z (coAt c.costs j).ex.args.length xc)/\F.cell? ⟨s,22+k,none⟩=some (U (4+k)):=⟨(a.cell_far ⟨d,0,none⟩ (ztU n m.1.size) (Ne.symm l)).trans C.1,(a.cell_far ⟨d,1,none⟩ (ztU n m.1.size) (Ne.symm l)).trans C.2.1,(a.cell_far ⟨d,2,none⟩ (ztU n m.1.size) (Ne.symm l)).trans C.2.2.1,(a.cell_far ⟨d,3,none⟩ (ztU n m.1.size) (Ne.symm l)).trans C.2.2.2.1,(a.cell_far ⟨d,4,none⟩ (ztU n m.1.size) (Ne.symm l)).trans C.2.2.2.2.1,(a.cell_far ⟨s,22+k,none⟩ (ztU S m.1.size) (Ne.symm z)).trans C.2.2.2.2.2⟩;refine hK.1 _ _ (λ_ _=>a3) ?_;clear hK K;try simp only[Act.put,O]
   refine zo (i:=18) (o:={dst:=some 131,op:=Op.indexAddr 121 (Operand.tmp 130) (Operand.tmp 115),type:=0,pos:= "setting.go:90",after:=_,guard:=none}) (by kernel_rfl) rfl (by rfl) (λK hK=>?_);go_simp;refine hK.1 _ _ (λ_ h=>h) ?_;clear hK K;try simp only[Act.put,O]
   have GR:=I (Grew.mk a (by show some g=(U (4+k)).ownBlock\/∃H,y.heap.size<=H/\some g=some H;rcases b3 with h|h;exact .inl h.symm;exact .inr ⟨_,ztY _,by rw[h]⟩):Grew (⟨t,c,za,zc,aa,ac,fa,fc,p,zb,s,cb,kp,ib,vb,ps,w.heap.size,Q.heap.size⟩:NwP) y F U (4+k) (.slice (some ⟨g,0,none⟩) ((zau c (c.costs.take j) k).length+1) T));have a4:F.heap[s]?=some (.cells (sbA (⟨t,c,za,zc,aa,ac,fa,fc,p,zb,s,cb,kp,ib,vb,ps,w.heap.size,Q.heap.size⟩:NwP) U false) 123 (0,0)):=(a.block s (ztU S m.1.size) (Ne.symm z)).trans (I4.1.box);have b9:F.cell? ⟨s,22+k,none⟩=some (U (4+k)):=a3.2.2.2.2.2;have c3:F.frozen? ⟨s,22+k,none⟩=false:=zQ a4;have a7:=ztW a4;refine zo (i:=19) (o:={dst:=none,op:=Op.store 120 (Operand.tmp 131) (Operand.tmp 128),type:=0,pos:= "setting.go:90",after:=_,guard:=none}) (by kernel_rfl) rfl (by rfl) (λK hK=>?_);go_simp;refine hK.1 _ _ (λh _=>absurd (by decide:(19:Nat)∈ [19]) h) ?_;clear hK K;try simp only[Act.put,O]
   have I5:=I (NInv.cost (f:=zE.mk 0 0 []) (fa:=none) (fc:=0) c6.1 (by omega) m.1 a2.1 b2.1 ⟨0,0,λh=>absurd rfl h,.nil _ _⟩ (by decide) GR.1 x);have d5:=I (zax.past c6.1 I4.1 m.1.size (by omega) GR.1 b0.1);rw[show 18+(4+k)=22+k by omega]at I5 d5;refine zM (by kernel_rfl) ?_;have HU:=I (show zau c (c.costs.take (j+1))=updL (zau c (c.costs.take j)) k B by rw[zjk _ _ V,zgg c _ _ j2.1,d4.1];rfl);have j9:=I (show upd U (4+k) (.slice (some ⟨g,0,none⟩) ((zau c (c.costs.take j) k).length+1) T) (4+k)=(.slice (some ⟨g,0,none⟩) ((zau c (c.costs.take j) k).length+1) T) from zfw _ _ _);clear a4 b9 c3 a7 a3 q GR x a b3 b4 l z I4 b1 b2 b0 a2 m c6 c5;generalize F.setCell ⟨s,22+k,none⟩ (.slice (some ⟨g,0,none⟩) ((zau c (c.costs.take j) k).length+1) T)=W4 at*;generalize upd U (4+k) (.slice (some ⟨g,0,none⟩) ((zau c (c.costs.take j) k).length+1) T)=U5 at*;obtain⟨k1,d6,_⟩:=I5.1.cos k (by omega);have D:W4.ownsRow Q.heap.size 129 3 (.slice (some ⟨g,0,none⟩) ((zau c (c.costs.take j) k).length+1) T) ((zau c (c.costs.take j) k).length+1) k1:=by
    have h:=d6;rw[j9.1,zfc,zt2]at h;exact h
   obtain⟨N,hN⟩:∃N,N=(zau c (c.costs.take j) k).length:=⟨_,rfl⟩;have X:=I (NInv.fill (f:=B) (fa:=ya) (fc:=yc) I5.1 (by omega) j9.1 a8 d5.1);simp only[<-hN]at X D ⊢;have HN:=I hN;clear hN d6;have y0:=D.cellAt (N*3) (by omega);have y1:=D.cellAt (N*3+1) (by omega);have y2:=D.cellAt (N*3+2) (by omega);have f1:k1.length=(N+1)*3:=D.1;rw[zt1 (by omega)]at y0 y1 y2;have z0:=D.frozenAt (N*3);have z1:=D.frozenAt (N*3+1);have z2:=D.frozenAt (N*3+2);have lg:g<W4.heap.size:=(D.lt g rfl).2;clear D;go_wp2_with fail;go_roundw
   case rel=>exact⟨j+1,_,by omega,by go_num,I (by rw[HU.1];exact X.1)⟩
   case measure=>simp[intOf];omega
 obtain rfl:j=c.costs.length:=by omega
 rw[List.take_length]at G;obtain⟨W8,rfl⟩:∃W8:World,W8=wr:=⟨_,rfl⟩;have t9:=I (λi (hi:i<c.credit.length)=>zhS d7.1 hi);have m5:=zbb G.1.con;have u0:=ztW G.1.con;have A8:c.credit.length<=1:=by have h:=(zch (zbV d7.1).g).1;simp[zdP]at h;omega
 rw[<-zqL d7.1]at G;clear k8 hj V;go_wp2_with fail;clear m5 u0;go_loopw [158] (λi wr=>∃(j:Nat) (U:Nat->Value),j<=c.credit.length/\i=.int .i64 j/\ztR (NInv (⟨t,c,za,zc,aa,ac,fa,fc,p,zb,s,cb,kp,ib,vb,ps,w.heap.size,Q.heap.size⟩:NwP) w Q wr U (zaD c c.rules) (creM c j) false)) (λi _=>c.credit.length-(intOf i).toNat)
 case atStart=>exact⟨0,U,ztX _,rfl,G⟩
 clear G;obtain⟨j,U,hj,rfl,G⟩:=hrel;by_cases V:j<c.credit.length
 . obtain⟨f7,c7,f8⟩:=t9.1 j V;obtain⟨b,d8,u1,hb,a6⟩:=((HC.1.keep G.1.bel).credit).cells (by omega);obtain⟨Z,xc,A9,⟨r1,r2,r3,r4⟩,f9,d3⟩:=a6.at j V;have t4:b<wr.heap.size:=ztU hb (ztV G.1.bs G.1.size);have HW:=I f7;have g7:=I f8;rw[u1];clear a6 u1 f7 f8;go_wp2_with fail;have I1:=I (G.1.below (J wr (oE (eAt c.credit j) Z xc)));have QB:=I (zh wr (oE (eAt c.credit j) Z xc));have i5:=I (d3.keep ((J wr (oE (eAt c.credit j) Z xc)).mono (ztV G.1.bs G.1.size)));have c8:=I f9;obtain⟨d,a5⟩:∃d,d=wr.heap.size:=⟨_,rfl⟩;rw[<-a5]at QB;simp only[<-a5];have c9:=I a5;clear a5;generalize wr.alloc (oE (eAt c.credit j) Z xc)=W1 at*;clear r1 r2 r3 r4;have I3:=I (I1.1.below ((ztT _ W1).drew));have b6:=I (i5.1.keep ((ztT _ W1).drew));have q:W1.drew.cell? ⟨d,0,none⟩=some (.int .i64 (eAt c.credit j).op)/\W1.drew.cell? ⟨d,1,none⟩=some (.int .i64 (eAt c.credit j).num)/\W1.drew.cell? ⟨d,2,none⟩=some (.string (eAt c.credit j).name)/\W1.drew.cell? ⟨d,3,none⟩=some (.slice Z (eAt c.credit j).args.length xc)/\W1.drew.cell? ⟨s,26,none⟩=some (U 8):=⟨zm (j:=0) QB.1 rfl,zm (j:=1) QB.1 rfl,zm (j:=2) QB.1 rfl,zm (j:=3) QB.1 rfl,zm I1.1.box (zgn _ U false (k:=8) (by omega))⟩;have n:=ztW QB.1;have S:=ztW I1.1.box;have F1:s<Q.heap.size:=I1.1.fix.1;have F5:vb<Q.heap.size:=I1.1.fix.2.2.2.2.1;have j3:Q.heap.size<=wr.heap.size:=G.1.size;have a5:=c9.1;have j4:d≠vb:=by omega
   have t5:d≠s:=by omega
   have j5:s≠vb:=I1.1.ne.1;have a0:=I (λb (hb:(U 8).ownBlock=some b)=>G.1.owns (k:=8) (by omega) hb);clear a5
   have c5:=I (show ∃ua uc,U 8=.slice ua (creM c j 4).length uc by
    obtain⟨cs,ho,_⟩:=I1.1.cos 4 (by omega);exact zm7 ho)
   obtain⟨ua,uc,j8⟩:=c5.1;clear c5;have c5:=I j8;clear j8;have k7:=I (show(creM c j 4).length<=1 by show((c.credit.take j).map (cmpX c 1)).length<=1;simp;omega);refine zfC (λw'=>w'.cell? ⟨d,0,none⟩=some (.int .i64 (eAt c.credit j).op)/\w'.cell? ⟨d,1,none⟩=some (.int .i64 (eAt c.credit j).num)/\w'.cell? ⟨d,2,none⟩=some (.string (eAt c.credit j).name)/\w'.cell? ⟨d,3,none⟩=some (.slice Z (eAt c.credit j).args.length xc)/\w'.cell? ⟨s,26,none⟩=some (U 8)) [11,14] (by kernel_rfl) ?_;refine zx (i:=0) (v:=.pointer (some ⟨s,0,none⟩)) rfl (λw' hS'=>?_) q ?_
   . obtain⟨g0,g1,g2,g3,Y⟩:=hS';go_simp
   simp only[Act.put,O];refine zx (i:=1) (v:=.pointer (some ⟨s,0,none⟩)) rfl (λw' hS'=>?_) q ?_
   . obtain⟨g0,g1,g2,g3,Y⟩:=hS';go_simp
   simp only[Act.put,O];refine zx (i:=2) (v:=.pointer (some ⟨s,26,none⟩)) rfl (λw' hS'=>?_) q ?_
   . obtain⟨g0,g1,g2,g3,Y⟩:=hS';go_simp
   simp only[Act.put,O];refine zx (i:=3) (v:=U 8) rfl (λw' hS'=>?_) q ?_
   . obtain⟨g0,g1,g2,g3,Y⟩:=hS';go_simp
   simp only[Act.put,O];refine zx (i:=4) (v:=.pointer (some ⟨kp,0,none⟩)) rfl (λw' hS'=>?_) q ?_
   . obtain⟨g0,g1,g2,g3,Y⟩:=hS';go_simp
   simp only[Act.put,O];refine zx (i:=5) (v:=.agg #[(eAt c.credit j).op,(eAt c.credit j).num,.string (eAt c.credit j).name,.slice Z (eAt c.credit j).args.length xc]) rfl (λw' hS'=>?_) q ?_
   . obtain⟨g0,g1,g2,g3,Y⟩:=hS';go_simp
   simp only[Act.put,O];refine zT (i:=7) (v:=.int .i64 ((creM c j 4).length:Nat)) rfl (λw'=>?_) ?_
   . have hu:=c5.1;go_simp
   simp only[Act.put,O];refine zaU (i:=6) (j:=8) (oi:={dst:=some 168,op:=Op.call {callee:=Callee.value (Operand.func 59),args:=#[Operand.tmp 166,Operand.const (Value.int IntKind.i64 1),Operand.tmp 167],argTypes:=#[126,3,86]},type:=129,pos:= "setting.go:93",after:=_,guard:=none}) (oj:={dst:=some 170,op:=Op.buildSlice 120 1 #[(0,Operand.const (Value.agg #[.int IntKind.i64 0,.int IntKind.i64 0,.slice none 0 0]))],type:=120,pos:= "setting.go:93",after:=_,guard:=none}) (by kernel_rfl) rfl rfl (by rfl) (by rfl) (λK hK=>?_) (λK hK=>?_)
   . go_simp;refine(d9.1 1 (eAt c.credit j) Z xc W1.drew (by omega) I3.1.cmp c8.1 HW.1 c7 g7.1 b6.1).mono ?_;rintro e y ⟨ya,yc,rfl,a1,a8,a9,A⟩;obtain⟨B,W⟩:∃B,B=cmpE (cvC c.consts c.consts.length) (1:Nat) (eAt c.credit j):=⟨_,rfl⟩;rw[<-W]at a1 a8;simp only[<-W];have d4:=I W;have b0:=I a1;have a2:=I a9;have m:=I A;clear W a1 a9;have C:y.cell? ⟨d,0,none⟩=some (.int .i64 (eAt c.credit j).op)/\y.cell? ⟨d,1,none⟩=some (.int .i64 (eAt c.credit j).num)/\y.cell? ⟨d,2,none⟩=some (.string (eAt c.credit j).name)/\y.cell? ⟨d,3,none⟩=some (.slice Z (eAt c.credit j).args.length xc)/\y.cell? ⟨s,26,none⟩=some (U 8):=⟨(A.cell_far ⟨d,0,none⟩ n (by simp;omega)).trans q.1,(A.cell_far ⟨d,1,none⟩ n (by simp;omega)).trans q.2.1,(A.cell_far ⟨d,2,none⟩ n (by simp;omega)).trans q.2.2.1,(A.cell_far ⟨d,3,none⟩ n (by simp;omega)).trans q.2.2.2.1,(A.cell_far ⟨s,26,none⟩ S (by simp;omega)).trans q.2.2.2.2⟩;clear A;refine hK.1 _ _ (λ_ _=>C) ?_;clear hK K;try simp only[Act.put,O]
     have I4:=I (I3.1.move m.1 a2.1);obtain⟨cs,L,E⟩:=I4.1.cos 4 (by omega);have b1:=I (show y.ownsRow Q.heap.size 129 3 (U 8) (creM c j 4).length cs from L);have b2:=I E;clear L E;refine zo (i:=8) (o:={dst:=some 170,op:=Op.buildSlice 120 1 #[(0,Operand.const (Value.agg #[.int IntKind.i64 0,.int IntKind.i64 0,.slice none 0 0]))],type:=120,pos:= "setting.go:93",after:=_,guard:=none}) (by kernel_rfl) rfl (by rfl) (λK hK=>?_);go_simp;have R:(y.alloc jC).cell? ⟨d,0,none⟩=some (.int .i64 (eAt c.credit j).op)/\(y.alloc jC).cell? ⟨d,1,none⟩=some (.int .i64 (eAt c.credit j).num)/\(y.alloc jC).cell? ⟨d,2,none⟩=some (.string (eAt c.credit j).name)/\(y.alloc jC).cell? ⟨d,3,none⟩=some (.slice Z (eAt c.credit j).args.length xc)/\(y.alloc jC).cell? ⟨s,26,none⟩=some (U 8):=⟨zj C.1 (ztU n m.1.size) (J y _),zj C.2.1 (ztU n m.1.size) (J y _),zj C.2.2.1 (ztU n m.1.size) (J y _),zj C.2.2.2.1 (ztU n m.1.size) (J y _),zj C.2.2.2.2 (ztU S m.1.size) (J y _)⟩;refine hK.1 _ _ (λ_ _=>R) ?_;clear hK K;try simp only[Act.put,O]
     refine zo (i:=9) (o:={dst:=some 171,op:=Op.call {callee:=Callee.builtin Builtin.append,args:=#[Operand.tmp 165,Operand.tmp 170],argTypes:=#[120,120]},type:=120,pos:= "setting.go:93",after:=_,guard:=none}) (by kernel_rfl) rfl (by rfl) (λK hK=>?_);refine wp_append_lies _ (Operand.tmp 165) (Operand.tmp 170) 120 rfl Q.heap.size 129 i6 (.agg #[.int .i64 0,.int .i64 0,.slice none 0 0]) 3 40 underlying120 i7 f3 f4 f5 rfl (by decide) (U 8) _ cs rfl (b1.1.alloc _) ⟨y.heap.size,0,none⟩ 1 1 [.int .i64 0,.int .i64 0,.slice none 0 0] rfl rfl (zaa y [.int .i64 0,.int .i64 0,.slice none 0 0] 129) ?xa1 (by decide) ?xa2 ?xa3 ?xa4 (y.heap.size+1) (by simp) ?xa5
     case xa1=>intro u hu;simp at hu;rcases hu with rfl|rfl|rfl <;> rfl
     case xa2=>have:=k7.1;unfold maxLen;omega
     case xa3=>have:=k7.1;omega
     case xa4=>simp;exact Nat.le_succ_of_le (ztV I3.1.size m.1.size)
     intro g T F x a b3 b4;have l:(U 8).ownBlock≠some d:=λe=>by have:=(a0.1 d e).2;have:=c9.1;omega
     have z:(U 8).ownBlock≠some s:=λe=>by have h1:Q.heap.size<=s:=(a0.1 s e).1;omega
     have a3:F.cell? ⟨d,0,none⟩=some (.int .i64 (eAt c.credit j).op)/\F.cell? ⟨d,1,none⟩=some (.int .i64 (eAt c.credit j).num)/\F.cell? ⟨d,2,none⟩=some (.string (eAt c.credit j).name)/\F.cell? ⟨d,3,none⟩=some (.slice Z (eAt c.credit j).args.length xc)/\F.cell? ⟨s,26,none⟩=some (U 8):=⟨(a.cell_far ⟨d,0,none⟩ (by simp;exact Nat.lt_succ_of_lt (ztU n m.1.size)) (Ne.symm l)).trans R.1,(a.cell_far ⟨d,1,none⟩ (by simp;exact Nat.lt_succ_of_lt (ztU n m.1.size)) (Ne.symm l)).trans R.2.1,(a.cell_far ⟨d,2,none⟩ (by simp;exact Nat.lt_succ_of_lt (ztU n m.1.size)) (Ne.symm l)).trans R.2.2.1,(a.cell_far ⟨d,3,none⟩ (by simp;exact Nat.lt_succ_of_lt (ztU n m.1.size)) (Ne.symm l)).trans R.2.2.2.1,(a.cell_far ⟨s,26,none⟩ (by simp;exact Nat.lt_succ_of_lt (ztU S m.1.size)) (Ne.symm z)).trans R.2.2.2.2⟩;refine hK.1 _ _ (λ_ _=>a3) ?_;clear hK K;try simp only[Act.put,O]
     have GR:=I (Grew.mk (Lib.grownBy_trans (zP _ (J y _)) a) (by show some g=(U 8).ownBlock\/∃H,y.heap.size<=H/\some g=some H;rcases b3 with h|h;exact .inl h.symm;exact .inr ⟨_,Nat.le_succ _,by rw[h]⟩):Grew (⟨t,c,za,zc,aa,ac,fa,fc,p,zb,s,cb,kp,ib,vb,ps,w.heap.size,Q.heap.size⟩:NwP) y F U (4+4) (.slice (some ⟨g,0,none⟩) ((creM c j 4).length+1) T));have a4:F.heap[s]?=some (.cells (sbA (⟨t,c,za,zc,aa,ac,fa,fc,p,zb,s,cb,kp,ib,vb,ps,w.heap.size,Q.heap.size⟩:NwP) U false) 123 (0,0)):=(a.block s (by simp;exact Nat.lt_succ_of_lt (ztU S m.1.size)) (Ne.symm z)).trans (zd I4.1.box);have I5:=I (NInv.cost (k:=4) (f:=zE.mk 0 0 []) (fa:=none) (fc:=0) I3.1 (by omega) m.1 a2.1 b2.1 ⟨0,0,λh=>absurd rfl h,.nil _ _⟩ (by decide) GR.1 x);have d5:=I (zax.past I3.1 I4.1 m.1.size (by omega) GR.1 b0.1);have X:=I (NInv.fill (k:=4) (f:=B) (fa:=ya) (fc:=yc) I5.1 (by omega) (zfw _ _ _) a8 d5.1);have HU:=I (show creM c (j+1)=updL (creM c j) 4 B by rw[zlu V,d4.1];rfl);have h9:=x.lt g rfl;have m6:g≠s:=by have h1:Q.heap.size<=g:=h9.1;omega
     obtain⟨N,hN⟩:∃N,N=(creM c j 4).length:=⟨_,rfl⟩;have f1:=x.1;simp only[<-hN]at X x f1 ⊢;clear hN;have y0:=x.cellAt (N*3) (by omega);have y1:=x.cellAt (N*3+1) (by omega);have y2:=x.cellAt (N*3+2) (by omega);rw[zt1 (by omega)]at y0 y1 y2;have z0:=x.frozenAt (N*3);have z1:=x.frozenAt (N*3+1);have z2:=x.frozenAt (N*3+2);have lg:g<F.heap.size:=b4;have b9:F.cell? ⟨s,26,none⟩=some (U 8):=a3.2.2.2.2;have c3:F.frozen? ⟨s,26,none⟩=false:=zQ a4;have a7:=ztW a4;clear I5 d5 GR a b3 l z I4 b1 b2 b0 a2 m I3 c5 x a4 a3;have b8:ztR (NInv (⟨t,c,za,zc,aa,ac,fa,fc,p,zb,s,cb,kp,ib,vb,ps,w.heap.size,Q.heap.size⟩:NwP) w Q ((((F.setCell ⟨s,26,none⟩ (.slice (some ⟨g,0,none⟩) (N+1) T)).setCell ⟨g,N*3,none⟩ (.int .i64 B.op)).setCell ⟨g,N*3+1,none⟩ (.int .i64 B.num)).setCell ⟨g,N*3+2,none⟩ (.slice ya B.args.length yc)) (upd U 8 (.slice (some ⟨g,0,none⟩) (N+1) T)) (zaD c c.rules) (updL (creM c j) 4 B) false):=X;clear X;refine zT (i:=10) (v:=.pointer (some ⟨g,N*3,none⟩)) rfl (λw'=>?_) ?_
     . go_simp;intro h;omega
     simp only[Act.put,O];refine zT (i:=12) (v:=.pointer (some ⟨s,0,none⟩)) rfl (λw'=>?_) ?_
     . go_simp
     simp only[Act.put,O];refine zT (i:=13) (v:=.pointer (some ⟨s,26,none⟩)) rfl (λw'=>?_) ?_
     . go_simp
     simp only[Act.put,O];refine zaU (i:=11) (j:=14) (oi:={dst:=none,op:=Op.store 129 (Operand.tmp 172) (Operand.tmp 168),type:=0,pos:= "setting.go:93",after:=_,guard:=none}) (oj:={dst:=none,op:=Op.store 120 (Operand.tmp 174) (Operand.tmp 171),type:=0,pos:= "setting.go:93",after:=_,guard:=none}) (by kernel_rfl) rfl rfl (by rfl) (by rfl) (λK hK=>?_) (λK hK=>?_)
     . go_simp;refine hK.1 _ _ (λh _=>absurd (by decide:(11:Nat)∈ [11,14]) h) ?_;clear hK K;try simp only[Act.put,O]
       refine zo (i:=14) (o:={dst:=none,op:=Op.store 120 (Operand.tmp 174) (Operand.tmp 171),type:=0,pos:= "setting.go:93",after:=_,guard:=none}) (by kernel_rfl) rfl (by rfl) (λK hK=>?_);go_simp;refine hK.1 _ _ (λh _=>absurd (by decide:(14:Nat)∈ [11,14]) h) ?_;clear hK K;try simp only[Act.put,O]
       rw[zpo _ m6];refine zM (by kernel_rfl) ?_;generalize (((F.setCell ⟨s,26,none⟩ (.slice (some ⟨g,0,none⟩) (N+1) T)).setCell ⟨g,N*3,none⟩ (.int .i64 B.op)).setCell ⟨g,N*3+1,none⟩ (.int .i64 B.num)).setCell ⟨g,N*3+2,none⟩ (.slice ya B.args.length yc)=W9 at*;clear y0 y1 y2 z0 z1 z2 lg b9 c3 a7 f1 h9;go_wp2_with fail;go_roundw
       case rel=>exact⟨j+1,_,by omega,by go_num,I (by rw[HU.1];exact b8.1)⟩
       case measure=>simp[intOf];omega
     go_simp;refine hK.1 _ _ (λh _=>absurd (by decide:(14:Nat)∈ [11,14]) h) ?_;clear hK K;try simp only[Act.put,O]
     refine zo (i:=11) (o:={dst:=none,op:=Op.store 129 (Operand.tmp 172) (Operand.tmp 168),type:=0,pos:= "setting.go:93",after:=_,guard:=none}) (by kernel_rfl) rfl (by rfl) (λK hK=>?_);go_simp;refine hK.1 _ _ (λh _=>absurd (by decide:(11:Nat)∈ [11,14]) h) ?_;clear hK K;try simp only[Act.put,O]
     refine zM (by kernel_rfl) ?_;generalize (((F.setCell ⟨s,26,none⟩ (.slice (some ⟨g,0,none⟩) (N+1) T)).setCell ⟨g,N*3,none⟩ (.int .i64 B.op)).setCell ⟨g,N*3+1,none⟩ (.int .i64 B.num)).setCell ⟨g,N*3+2,none⟩ (.slice ya B.args.length yc)=W9 at*;clear y0 y1 y2 z0 z1 z2 lg b9 c3 a7 f1 h9;go_wp2_with fail;go_roundw
     case rel=>exact⟨j+1,_,by omega,by go_num,I (by rw[HU.1];exact b8.1)⟩
     case measure=>simp[intOf];omega
   go_simp;have b7:(W1.drew.alloc jC).cell? ⟨d,0,none⟩=some (.int .i64 (eAt c.credit j).op)/\(W1.drew.alloc jC).cell? ⟨d,1,none⟩=some (.int .i64 (eAt c.credit j).num)/\(W1.drew.alloc jC).cell? ⟨d,2,none⟩=some (.string (eAt c.credit j).name)/\(W1.drew.alloc jC).cell? ⟨d,3,none⟩=some (.slice Z (eAt c.credit j).args.length xc)/\(W1.drew.alloc jC).cell? ⟨s,26,none⟩=some (U 8):=⟨zj q.1 n (J W1.drew _),zj q.2.1 n (J W1.drew _),zj q.2.2.1 n (J W1.drew _),zj q.2.2.2.1 n (J W1.drew _),zj q.2.2.2.2 S (J W1.drew _)⟩;refine hK.1 _ _ (λ_ _=>b7) ?_;clear hK K;try simp only[Act.put,O]
   have c6:=I (I3.1.below (J W1.drew jC));have k2:=I (b6.1.keep ((J W1.drew jC).mono (ztV I3.1.bs I3.1.size)));have QZ:=I (zh W1.drew jC);obtain⟨zq,h8⟩:∃zq,zq=W1.drew.heap.size:=⟨_,rfl⟩;have m2:zq≠vb:=by have h1:vb<Q.heap.size:=F5;have h2:Q.heap.size<=W1.drew.heap.size:=I3.1.size;omega
   rw[<-h8]at QZ;replace n:d<(W1.drew.alloc jC).heap.size:=ztU n (by simp);replace S:s<(W1.drew.alloc jC).heap.size:=ztU S (by simp);have m3:=ztW QZ.1;simp only[show W1.heap.size=zq from h8.symm];simp only[show(W1.alloc jC).drew=W1.drew.alloc jC from rfl];generalize W1.drew.alloc jC=W5 at*;clear h8 I3 b6;refine zo (i:=6) (o:={dst:=some 168,op:=Op.call {callee:=Callee.value (Operand.func 59),args:=#[Operand.tmp 166,Operand.const (Value.int IntKind.i64 1),Operand.tmp 167],argTypes:=#[126,3,86]},type:=129,pos:= "setting.go:93",after:=_,guard:=none}) (by kernel_rfl) rfl (by rfl) (λK hK=>?_);go_simp;refine(d9.1 1 (eAt c.credit j) Z xc W5 (by omega) c6.1.cmp c8.1 HW.1 c7 g7.1 k2.1).mono ?_;rintro e y ⟨ya,yc,rfl,a1,a8,a9,A⟩;obtain⟨B,W⟩:∃B,B=cmpE (cvC c.consts c.consts.length) (1:Nat) (eAt c.credit j):=⟨_,rfl⟩;rw[<-W]at a1 a8;simp only[<-W];have d4:=I W;have b0:=I a1;have a2:=I a9;have m:=I A;clear W a1 a9;have C:y.cell? ⟨d,0,none⟩=some (.int .i64 (eAt c.credit j).op)/\y.cell? ⟨d,1,none⟩=some (.int .i64 (eAt c.credit j).num)/\y.cell? ⟨d,2,none⟩=some (.string (eAt c.credit j).name)/\y.cell? ⟨d,3,none⟩=some (.slice Z (eAt c.credit j).args.length xc)/\y.cell? ⟨s,26,none⟩=some (U 8):=⟨(A.cell_far ⟨d,0,none⟩ n (by simp;omega)).trans b7.1,(A.cell_far ⟨d,1,none⟩ n (by simp;omega)).trans b7.2.1,(A.cell_far ⟨d,2,none⟩ n (by simp;omega)).trans b7.2.2.1,(A.cell_far ⟨d,3,none⟩ n (by simp;omega)).trans b7.2.2.2.1,(A.cell_far ⟨s,26,none⟩ S (by simp;omega)).trans b7.2.2.2.2⟩;have m4:=I ((A.block zq m3 (by simpa using m2)).trans QZ.1);clear A;refine hK.1 _ _ (λ_ _=>C) ?_;clear hK K;try simp only[Act.put,O]
   have I4:=I (c6.1.move m.1 a2.1);obtain⟨cs,L,E⟩:=I4.1.cos 4 (by omega);have b1:=I (show y.ownsRow Q.heap.size 129 3 (U 8) (creM c j 4).length cs from L);have b2:=I E;clear L E;refine zo (i:=9) (o:={dst:=some 171,op:=Op.call {callee:=Callee.builtin Builtin.append,args:=#[Operand.tmp 165,Operand.tmp 170],argTypes:=#[120,120]},type:=120,pos:= "setting.go:93",after:=_,guard:=none}) (by kernel_rfl) rfl (by rfl) (λK hK=>?_);refine wp_append_lies _ (Operand.tmp 165) (Operand.tmp 170) 120 rfl Q.heap.size 129 i6 (.agg #[.int .i64 0,.int .i64 0,.slice none 0 0]) 3 40 underlying120 i7 f3 f4 f5 rfl (by decide) (U 8) _ cs rfl (b1.1) ⟨zq,0,none⟩ 1 1 [.int .i64 0,.int .i64 0,.slice none 0 0] rfl rfl (zhZ m4.1) ?xb1 (by decide) ?xb2 ?xb3 ?xb4 (y.heap.size) rfl ?xb5
   case xb1=>intro u hu;simp at hu;rcases hu with rfl|rfl|rfl <;> rfl
   case xb2=>have:=k7.1;unfold maxLen;omega
   case xb3=>have:=k7.1;omega
   case xb4=>exact ztV c6.1.size m.1.size
   intro g T F x a b3 b4;have l:(U 8).ownBlock≠some d:=λe=>by have:=(a0.1 d e).2;have:=c9.1;omega
   have z:(U 8).ownBlock≠some s:=λe=>by have h1:Q.heap.size<=s:=(a0.1 s e).1;omega
   have a3:F.cell? ⟨d,0,none⟩=some (.int .i64 (eAt c.credit j).op)/\F.cell? ⟨d,1,none⟩=some (.int .i64 (eAt c.credit j).num)/\F.cell? ⟨d,2,none⟩=some (.string (eAt c.credit j).name)/\F.cell? ⟨d,3,none⟩=some (.slice Z (eAt c.credit j).args.length xc)/\F.cell? ⟨s,26,none⟩=some (U 8):=⟨(a.cell_far ⟨d,0,none⟩ (ztU n m.1.size) (Ne.symm l)).trans C.1,(a.cell_far ⟨d,1,none⟩ (ztU n m.1.size) (Ne.symm l)).trans C.2.1,(a.cell_far ⟨d,2,none⟩ (ztU n m.1.size) (Ne.symm l)).trans C.2.2.1,(a.cell_far ⟨d,3,none⟩ (ztU n m.1.size) (Ne.symm l)).trans C.2.2.2.1,(a.cell_far ⟨s,26,none⟩ (ztU S m.1.size) (Ne.symm z)).trans C.2.2.2.2⟩;refine hK.1 _ _ (λ_ _=>a3) ?_;clear hK K;try simp only[Act.put,O]
   have GR:=I (Grew.mk a (by show some g=(U 8).ownBlock\/∃H,y.heap.size<=H/\some g=some H;rcases b3 with h|h;exact .inl h.symm;exact .inr ⟨_,ztY _,by rw[h]⟩):Grew (⟨t,c,za,zc,aa,ac,fa,fc,p,zb,s,cb,kp,ib,vb,ps,w.heap.size,Q.heap.size⟩:NwP) y F U (4+4) (.slice (some ⟨g,0,none⟩) ((creM c j 4).length+1) T));have a4:F.heap[s]?=some (.cells (sbA (⟨t,c,za,zc,aa,ac,fa,fc,p,zb,s,cb,kp,ib,vb,ps,w.heap.size,Q.heap.size⟩:NwP) U false) 123 (0,0)):=(a.block s (ztU S m.1.size) (Ne.symm z)).trans (I4.1.box);have I5:=I (NInv.cost (k:=4) (f:=zE.mk 0 0 []) (fa:=none) (fc:=0) c6.1 (by omega) m.1 a2.1 b2.1 ⟨0,0,λh=>absurd rfl h,.nil _ _⟩ (by decide) GR.1 x);have d5:=I (zax.past c6.1 I4.1 m.1.size (by omega) GR.1 b0.1);have X:=I (NInv.fill (k:=4) (f:=B) (fa:=ya) (fc:=yc) I5.1 (by omega) (zfw _ _ _) a8 d5.1);have HU:=I (show creM c (j+1)=updL (creM c j) 4 B by rw[zlu V,d4.1];rfl);have h9:=x.lt g rfl;have m6:g≠s:=by have h1:Q.heap.size<=g:=h9.1;omega
   obtain⟨N,hN⟩:∃N,N=(creM c j 4).length:=⟨_,rfl⟩;have f1:=x.1;simp only[<-hN]at X x f1 ⊢;clear hN;have y0:=x.cellAt (N*3) (by omega);have y1:=x.cellAt (N*3+1) (by omega);have y2:=x.cellAt (N*3+2) (by omega);rw[zt1 (by omega)]at y0 y1 y2;have z0:=x.frozenAt (N*3);have z1:=x.frozenAt (N*3+1);have z2:=x.frozenAt (N*3+2);have lg:g<F.heap.size:=b4;have b9:F.cell? ⟨s,26,none⟩=some (U 8):=a3.2.2.2.2;have c3:F.frozen? ⟨s,26,none⟩=false:=zQ a4;have a7:=ztW a4;clear I5 d5 GR a b3 l z I4 b1 b2 b0 a2 m c6 c5 x a4 a3;have b8:ztR (NInv (⟨t,c,za,zc,aa,ac,fa,fc,p,zb,s,cb,kp,ib,vb,ps,w.heap.size,Q.heap.size⟩:NwP) w Q ((((F.setCell ⟨s,26,none⟩ (.slice (some ⟨g,0,none⟩) (N+1) T)).setCell ⟨g,N*3,none⟩ (.int .i64 B.op)).setCell ⟨g,N*3+1,none⟩ (.int .i64 B.num)).setCell ⟨g,N*3+2,none⟩ (.slice ya B.args.length yc)) (upd U 8 (.slice (some ⟨g,0,none⟩) (N+1) T)) (zaD c c.rules) (updL (creM c j) 4 B) false):=X;clear X;refine zT (i:=10) (v:=.pointer (some ⟨g,N*3,none⟩)) rfl (λw'=>?_) ?_
   . go_simp;intro h;omega
   simp only[Act.put,O];refine zT (i:=12) (v:=.pointer (some ⟨s,0,none⟩)) rfl (λw'=>?_) ?_
   . go_simp
   simp only[Act.put,O];refine zT (i:=13) (v:=.pointer (some ⟨s,26,none⟩)) rfl (λw'=>?_) ?_
   . go_simp
   simp only[Act.put,O];refine zaU (i:=11) (j:=14) (oi:={dst:=none,op:=Op.store 129 (Operand.tmp 172) (Operand.tmp 168),type:=0,pos:= "setting.go:93",after:=_,guard:=none}) (oj:={dst:=none,op:=Op.store 120 (Operand.tmp 174) (Operand.tmp 171),type:=0,pos:= "setting.go:93",after:=_,guard:=none}) (by kernel_rfl) rfl rfl (by rfl) (by rfl) (λK hK=>?_) (λK hK=>?_)
   . go_simp;refine hK.1 _ _ (λh _=>absurd (by decide:(11:Nat)∈ [11,14]) h) ?_;clear hK K;try simp only[Act.put,O]
     refine zo (i:=14) (o:={dst:=none,op:=Op.store 120 (Operand.tmp 174) (Operand.tmp 171),type:=0,pos:= "setting.go:93",after:=_,guard:=none}) (by kernel_rfl) rfl (by rfl) (λK hK=>?_);go_simp;refine hK.1 _ _ (λh _=>absurd (by decide:(14:Nat)∈ [11,14]) h) ?_;clear hK K;try simp only[Act.put,O]
     rw[zpo _ m6];refine zM (by kernel_rfl) ?_;generalize (((F.setCell ⟨s,26,none⟩ (.slice (some ⟨g,0,none⟩) (N+1) T)).setCell ⟨g,N*3,none⟩ (.int .i64 B.op)).setCell ⟨g,N*3+1,none⟩ (.int .i64 B.num)).setCell ⟨g,N*3+2,none⟩ (.slice ya B.args.length yc)=W9 at*;clear y0 y1 y2 z0 z1 z2 lg b9 c3 a7 f1 h9;go_wp2_with fail;go_roundw
     case rel=>exact⟨j+1,_,by omega,by go_num,I (by rw[HU.1];exact b8.1)⟩
     case measure=>simp[intOf];omega
   go_simp;refine hK.1 _ _ (λh _=>absurd (by decide:(14:Nat)∈ [11,14]) h) ?_;clear hK K;try simp only[Act.put,O]
   refine zo (i:=11) (o:={dst:=none,op:=Op.store 129 (Operand.tmp 172) (Operand.tmp 168),type:=0,pos:= "setting.go:93",after:=_,guard:=none}) (by kernel_rfl) rfl (by rfl) (λK hK=>?_);go_simp;refine hK.1 _ _ (λh _=>absurd (by decide:(11:Nat)∈ [11,14]) h) ?_;clear hK K;try simp only[Act.put,O]
   refine zM (by kernel_rfl) ?_;generalize (((F.setCell ⟨s,26,none⟩ (.slice (some ⟨g,0,none⟩) (N+1) T)).setCell ⟨g,N*3,none⟩ (.int .i64 B.op)).setCell ⟨g,N*3+1,none⟩ (.int .i64 B.num)).setCell ⟨g,N*3+2,none⟩ (.slice ya B.args.length yc)=W9 at*;clear y0 y1 y2 z0 z1 z2 lg b9 c3 a7 f1 h9;go_wp2_with fail;go_roundw
   case rel=>exact⟨j+1,_,by omega,by go_num,I (by rw[HU.1];exact b8.1)⟩
   case measure=>simp[intOf];omega
 obtain rfl:j=c.credit.length:=by omega
 obtain⟨m7,rfl⟩:∃m7:World,m7=wr:=⟨_,rfl⟩;obtain⟨x3,x4,u2,E⟩:=G.1.rules (k:=2) (by omega);have u3:m7.cell? ⟨s,20,none⟩=some (.slice x3 (zaD c c.rules 2).length x4):=by rw[<-u2];exact zm G.1.box (zgn _ U false (k:=2) (by omega))
 have f2:=ztW G.1.box;have B0:(zaD c c.rules 2).length<=10000:=ztV (zf7 c c.rules 2) m1;clear E;go_wp2_with fail;clear u3 f2 u2;go_loopw [182] (λi wr=>∃(j:Nat),j<=(zaD c c.rules 2).length/\i=.int .i64 j/\ztR (NInv (⟨t,c,za,zc,aa,ac,fa,fc,p,zb,s,cb,kp,ib,vb,ps,w.heap.size,Q.heap.size⟩:NwP) w Q wr U (zaD c c.rules) (creM c c.credit.length) (zhb ((zaD c c.rules 2).take j)))) (λi _=>(zaD c c.rules 2).length-(intOf i).toNat)
 case atStart=>exact⟨0,ztX _,rfl,G⟩
 clear G;obtain⟨j,hj,rfl,G⟩:=hrel;have f2:=ztW G.1.box;by_cases V:j<(zaD c c.rules 2).length
 . obtain⟨ra,rc,u2,g8⟩:=G.1.rules (k:=2) (by omega);obtain⟨b,d8,rfl,hb,a6⟩:=zhn g8 (by omega);obtain⟨_,_,hF⟩:=a6 j V;have m8:=I hF;have u3:wr.cell? ⟨s,20,none⟩=some (.slice (some ⟨b,d8,none⟩) (zaD c c.rules 2).length rc):=by rw[<-u2];exact zm G.1.box (zgn _ U _ (k:=2) (by omega))
   obtain⟨bq,i0⟩:∃bq,bq=(zhb ((zaD c c.rules 2).take j)):=⟨_,rfl⟩;rw[<-i0]at G;have x5:wr.cell? ⟨s,27,none⟩=some (.bool bq):=zm G.1.box rfl;have x6:wr.frozen? ⟨s,27,none⟩=false:=zQ G.1.box;have k3:=I i0;clear a6 g8 u2 hF i0;cases bq
   . go_wp2_with fail;refine(zmW 1 noX (ruAt (zaD c c.rules 2) j).2 b (d8+j*4+1) wr m8.1).mono ?_;rintro e w1 ⟨rfl,rfl⟩;go_wp2_with fail;go_roundw
     case rel=>exact⟨j+1,by omega,by go_num,I (by rw[ziD V,<-k3.1];simpa using G.1.night (zfv 1 (ruAt (zaD c c.rules 2) j).2))⟩
     case measure=>simp[intOf];omega
   go_wp2_with fail;go_roundw
   case rel=>exact⟨j+1,by omega,by go_num,I (by rw[ziD V,<-k3.1];simpa using G.1.night true)⟩
   case measure=>simp[intOf];omega
 obtain rfl:j=(zaD c c.rules 2).length:=by omega
 rw[List.take_length]at G;obtain⟨m9,rfl⟩:∃m9:World,m9=wr:=⟨_,rfl⟩;obtain⟨ka2,x7,u6,n0⟩:=G.1.rows (k:=2) (by omega);have u4:m9.cell? ⟨s,24,none⟩=some (.slice ka2 (creM c c.credit.length 2).length x7):=by rw[<-u6];exact zm G.1.box (zgn _ U _ (k:=6) (by omega))
 have B1:(creM c c.credit.length 2).length<=10000:=ztV (zcC c c.costs 2) h7;clear n0;go_wp2_with fail;clear u4 f2 u6;go_loopw [210] (λi wr=>∃(j:Nat),j<=(creM c c.credit.length 2).length/\i=.int .i64 j/\ztR (NInv (⟨t,c,za,zc,aa,ac,fa,fc,p,zb,s,cb,kp,ib,vb,ps,w.heap.size,Q.heap.size⟩:NwP) w Q wr U (zaD c c.rules) (creM c c.credit.length) (zhb (zaD c c.rules 2) || zkF ((creM c c.credit.length 2).take j)))) (λi _=>(creM c c.credit.length 2).length-(intOf i).toNat)
 case atStart=>exact⟨0,ztX _,rfl,I (by rw[show(zhb (zaD c c.rules 2) || zkF ((creM c c.credit.length 2).take 0))=zhb (zaD c c.rules 2) from by rw[List.take_zero];exact Bool.or_false _];exact G.1)⟩
 clear G;obtain⟨j,hj,rfl,G⟩:=hrel;have f2:=ztW G.1.box;by_cases V:j<(creM c c.credit.length 2).length
 . obtain⟨ra,rc,u6,g8⟩:=G.1.rows (k:=2) (by omega);obtain⟨b,d8,rfl,hb,a6⟩:=g8.cells (by omega);have m8:=I (a6.at j V);have u4:wr.cell? ⟨s,24,none⟩=some (.slice (some ⟨b,d8,none⟩) (creM c c.credit.length 2).length rc):=by rw[<-u6];exact zm G.1.box (zgn _ U _ (k:=6) (by omega))
   obtain⟨bq,i0⟩:∃bq,bq=(zhb (zaD c c.rules 2) || zkF ((creM c c.credit.length 2).take j)):=⟨_,rfl⟩;rw[<-i0]at G;have x5:wr.cell? ⟨s,27,none⟩=some (.bool bq):=zm G.1.box rfl;have x6:wr.frozen? ⟨s,27,none⟩=false:=zQ G.1.box;have k3:=I i0;clear a6 g8 u6 i0;cases bq
   . go_wp2_with fail;refine(zmW 1 noX (gAt (creM c c.credit.length 2) j) b (d8+j*3) wr m8.1).mono ?_;rintro e w1 ⟨rfl,rfl⟩;go_wp2_with fail;go_roundw
     case rel=>exact⟨j+1,by omega,by go_num,I (by rw[ziE V,<-Bool.or_assoc,<-k3.1];simpa using G.1.night (zfv 1 (gAt (creM c c.credit.length 2) j)))⟩
     case measure=>simp[intOf];omega
   go_wp2_with fail;go_roundw
   case rel=>exact⟨j+1,by omega,by go_num,I (by rw[ziE V,<-Bool.or_assoc,<-k3.1];simpa using G.1.night true)⟩
   case measure=>simp[intOf];omega
 obtain rfl:j=(creM c c.credit.length 2).length:=by omega
 rw[List.take_length]at G;obtain⟨P,u5,k9⟩:=G.1.set rfl HV.1 d7.1 (λk=>rfl) (λk hk=>ztj c _ hk) (zqM c) HF.1 w9.1 AM.1;have HP:=I u5;have x8:=I k9;have x9:=I G.1.bel;have y3:=I G.1.fix.2.2.2.2.2.2.1;clear u5 k9 G;go_wp2_with fail;go_ret2;exact⟨.ok s P rfl x8.1 y3.1 (HP.1.trans (zp8 c)),x9.1⟩
end Go.Proofs.YtbhhejkolnigfaaGreat
