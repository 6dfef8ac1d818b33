/- a part of the proof -/
import Derived.Test.YtafdcbmgdfliiaaGreatM1
set_option linter.all false
set_option maxRecDepth 100000
set_option maxHeartbeats 3000000
namespace Go.Proofs.YtafdcbmgdfliiaaGreat
open Go.RowKit Go.Sort Go.Proofs.Tryz
variable {a:BA}{i k:Nat}
def NetV(lo:Nat)(base:BA)(L:List gF)(K:List CP)(S E:LI)(w:Wd)(v:Value):Prop:=∃(a1 a3 a5 a7:Ae) (a2 a4 a6 a8:Nat),v=.agg #[.string base,.slice a1 L.length a2,.slice a3 K.length a4,.slice a5 S.length a6,.slice a7 E.length a8]/\FrK lo (λw=>zzU w a1 L) w/\FrK lo (λw=>zz2 w a3 K) w/\FrK lo (λw=>zW w a5 S) w/\FrK lo (λw=>zW w a7 E) w
def zzW(base:BA)(L:List gF):LI:=JB (λk=>(Qa L k).src.toList==base.toList) L.length
def zzZ(base:BA)(L:List gF):LI:=JB (λk=>(Qa L k).dst.toList==base.toList) L.length
def zeroN:Value:=.agg #[.string ⟨#[]⟩,.slice none 0 0,.slice none 0 0,.slice none 0 0,.slice none 0 0]
def NetR(t:At)(c:Ad)(base:BA)(L:List gF)(er:Int)(w:Wd)(e:Ending)(w':Wd):Prop:=∃(v:Value) (z:Int),e=.returned (.tuple #[v,z])/\z=er/\(z=0->NetV w.heap.size base L (SB t c base L L.length) (zzW base L) (zzZ base L) w' v)/\(z≠0->v=zeroN)/\Below w.heap.size w w'
def zA4{e:Func}{a:Array Value}{W:Wd}{b:Nat}{v0 v1 v2 v3 g y:Value}{f:Nat×Nat}(h:e.results=#[.cell 8 42,.tmp 9])(i:a.getD 8 undef=Ua b 0)(k:a.getD 9 undef=y) 
 (q:W.heap[b]?=some (.cells #[v0,v1,v2,v3,g] 42 f)):(results e a).run prog W=.ok (.tuple #[.agg #[v0,v1,v2,v3,g],y]) W:=by
 have c:a[8]?.getD undef=Ua b 0:=by simpa using i
 have d:a[9]?.getD undef=y:=by simpa using k
 simp[results,h,go_sem,c,d,D_ q]
def zAZ:EI 40 94 (.agg #[Bn 0,Bn 0,Bn 0]) 3 24:=⟨underlying40,by kernel_rfl,rfl,by decide⟩
theorem zBu{t:At}{c:Ad}{L:List gF}(h:zAc t c a (Qa L i) (Qa L k)=false):zz1 t c a L i (k+1)=zz1 t c a L i k:=by grind[zz1]
def zB5{t:At}{c:Ad}{L:List gF}(h:zAc t c a (Qa L i) (Qa L k)=true):zz1 t c a L i (k+1)=zz1 t c a L i k++ [⟨i,k,zCm t c a (Qa L i) (Qa L k)⟩]:=by rw[zz1,iP h]
def netO(v0 v1 v2 v3 v4:Value):Obj:=Obj.cells #[v0,v1,v2,v3,v4] 42
structure NSt(w:Wd)(lo mb:Nat)(base:BA)(keep:List (Nat×Obj))(lv kv:Value)(U:Nat->Value)(L:List gF)(K:List CP)(Q:Nat->LI)(wx:Wd):Prop where
 bel:Below w.heap.size w wx
 wm:w.heap.size<=mb
 ml:mb<lo
 hk:∀p∈keep,p.1≠mb/\wx.heap[p.1]?=some p.2/\lv.ownBlock≠some p.1/\kv.ownBlock≠some p.1/\∀i,(U i).ownBlock≠some p.1
 qm:wx.heap[mb]?=some (netO (.string base) lv kv (U 0) (U 1))
 br:zAi lo wx lv kv U L K Q
 sz:lo<=wx.heap.size
section
variable {w wx wy:Wd} {lo mb:Nat} {base:BA} {keep:List (Nat×Obj)} {lv kv v:Value} {U:Nat→Value} {L:List gF} {K:List CP} {Q:Nat→LI} {o:Obj} {b i:Nat} (S:NSt w lo mb base keep lv kv U L K Q wx)
include S
theorem NSt.at(i:Nat)(h:keep[i]?=some (b,o)):wx.heap[b]?=some o:=(S.hk _ (List.mem_of_getElem? h)).2.1
theorem NSt.call(h:Bw wx wy):NSt w lo mb base keep lv kv U L K Q wy where
 bel:=Ab S.bel h
 wm:=S.wm
 ml:=S.ml
 hk p hp:=by
  have⟨a,b,c⟩:=S.hk p hp;grind[Ac]
 qm:=Ac h S.qm
 br:=S.br.agr (Agr.of h)
 sz:=Bf S.sz h.size
theorem NSt.add(h:Bw wx wy)(f:wx.heap.size<=b)(c:wy.heap[b]?=some o):NSt w lo mb base ((b,o)::keep) lv kv U L K Q wy where
 bel:=Ab S.bel h
 wm:=S.wm
 ml:=S.ml
 hk p a:=by
  rcases List.mem_cons.1 a with rfl|a
  . have:=Ag S.qm;refine⟨by omega,c,λe=>?_,λe=>?_,λi e=>?_⟩
    . have⟨g,j,d,k⟩:=S.br.lg;have:=(d.lt b e).2;omega
    . have:=(S.br.lk.lt b e).2;omega
    have:=(S.br.iv.lt e).2;omega
  exact(S.call h).hk p a
 qm:=Ac h S.qm
 br:=S.br.agr (Agr.of h)
 sz:=Bf S.sz h.size
theorem NSt.drop{p:Nat×Obj}{l:List (Nat×Obj)}(e:keep=p::l):NSt w lo mb base l lv kv U L K Q wx where
 bel:=S.bel
 wm:=S.wm
 ml:=S.ml
 hk q hq:=S.hk q (by simp_all)
 qm:=S.qm
 br:=S.br
 sz:=S.sz
theorem NSt.grow{e:TypeId}{s n:Nat}{xs:LV}(a:wx.ownsRow lo e s v n xs)(b:(wx.alloc o).grownBy wy v.ownBlock)(i:Nat)(u:Value):Bw w (wy.setCell (aD mb i) u):=by
 have c:=S.bel.size;have f:=S.ml;have d:=S.wm;exact((S.bel.alloc c o).grown b (by simp;omega) (λk hk=>by have:=(a.lt k hk).1;omega)).setCell (p:=aD mb i) d u
theorem NSt.szs{r:Option Nat}(a:(wx.alloc o).grownBy wy r)(i:Nat)(u:Value):lo<=(wy.setCell (aD mb i) u).heap.size:=by
 have b:=a.size;have c:=S.sz;simp[World.setCell]at b ⊢;omega
theorem NSt.stay{e:TypeId}{s n c:Nat}{xs:LV}{q:Obj}(f:wx.ownsRow lo e s v n xs)(b:(wx.alloc o).grownBy wy v.ownBlock)(a:wx.heap[c]?=some q)(d:v.ownBlock≠some c):wy.heap[c]?=some q:=
 (b.block c (by have:=Ag a;simp;omega) (λh=>d h.symm)).trans (Ac (J wx o) a)
theorem NSt.staym{e:TypeId}{s n:Nat}{xs:LV}(a:wx.ownsRow lo e s v n xs)(b:(wx.alloc o).grownBy wy v.ownBlock):wy.heap[mb]?=some (netO (.string base) lv kv (U 0) (U 1)):=
 S.stay a b S.qm λh=>by have:=(a.lt mb h).1;have:=S.ml;omega
theorem NSt.keeps{e:TypeId}{s n i:Nat}{xs:LV}{u:Value}(b:wx.ownsRow lo e s v n xs)(c:(wx.alloc o).grownBy wy v.ownBlock){p:Nat×Obj}(a:p∈keep)(d:v.ownBlock≠some p.1):(wy.setCell (aD mb i) u).heap[p.1]?=some p.2:=
 (Below.heap_setCell _ (aD mb i) _ _ (S.hk p a).1).trans (S.stay b c (S.hk p a).2.1 d)
theorem NSt.lt{p:Nat×Obj}(b:p∈keep){e:Obj}{g:Nat}{v:Value}(c:v.ownBlock=some g\/g=wx.heap.size+1)(d:v.ownBlock≠some p.1):g≠p.1:=λh=>by
 have:=Ag (S.hk p b).2.1;grind
theorem NSt.leg{x:gF}{f:LV}{a:List (LV)}{g c:Nat}(k:a.length=L.length)(d:wx.ownsRow lo 92 7 lv L.length a.flatten)(l:∀i (h:i<a.length),LgC lo wx (Qa L i) a[i])(b:(wx.alloc o).grownBy wy lv.ownBlock)(m:LgC lo wx x f) 
 (n:wy.ownsRow lo 92 7 (Kx g 0 (L.length+1) c) (L.length+1) (a.flatten++f)) (q:lv.ownBlock=some g\/g=wx.heap.size+1):NSt w lo mb base keep (Kx g 0 (L.length+1) c) kv U (L++ [x]) K Q (wy.setCell (aD mb 1) (Kx g 0 (L.length+1) c)) where
 bel:=S.grow d b _ _
 wm:=S.wm
 ml:=S.ml
 hk p hp:=by
  obtain⟨r,u,j,s,t⟩:=S.hk p hp;exact⟨r,S.keeps d b hp j,λe=>S.lt (e:=o) hp q j (by simpa[Value.ownBlock] using e),s,t⟩
 qm:=(zg (S.staym d b)).trans rfl
 br:=(S.br.leg k d l b m n).agr (Agr.set _ S.ml _ _)
 sz:=S.szs b _ _
theorem NSt.legK{x:gF}{b:LV}{a:List (LV)}{g c n:Nat}{d:List gF}(e:L.length=n)(f:L++ [x]=d)(j:a.length=L.length)(k:wx.ownsRow lo 92 7 lv L.length a.flatten)(l:∀i (h:i<a.length),LgC lo wx (Qa L i) a[i])(m:(wx.alloc o).grownBy wy lv.ownBlock)(p:LgC lo wx x b) 
 (q:wy.ownsRow lo 92 7 (Kx g 0 (n+1) c) (n+1) (a.flatten++b)) (r:lv.ownBlock=some g\/g=wx.heap.size+1):NSt w lo mb base keep (Kx g 0 (n+1) c) kv U d K Q (wy.setCell (aD mb 1) (Kx g 0 (n+1) c)):=by
 subst e f;exact S.leg j k l m p q r
theorem NSt.int{i g c:Nat}{x:Int}(n:i<2)(a:(wx.alloc o).grownBy wy (U i).ownBlock)(f:wy.ownsRow lo 3 1 (Kx g 0 ((Q i).length+1) c) ((Q i).length+1) ((Q i).map (Value.int .i64)++ [Bn x]))(d:(U i).ownBlock=some g\/g=wx.heap.size+1):
 NSt w lo mb base keep lv kv (updV U i (Kx g 0 ((Q i).length+1) c)) L K (SX Q i (Q i++ [x])) (wy.setCell (aD mb (3+i)) (Kx g 0 ((Q i).length+1) c)) where
 bel:=S.grow (S.br.iv.own i) a _ _
 wm:=S.wm
 ml:=S.ml
 hk p hp:=by
  obtain⟨k,q,l,m,b⟩:=S.hk p hp;refine⟨k,S.keeps (S.br.iv.own i) a hp (b i),l,m,λj e=>?_⟩;unfold updV at e
  by_cases h:j=i
  . rw[iP h]at e;exact S.lt (e:=o) hp d (b i) (by simpa[Value.ownBlock] using e)
  rw[iN h]at e;exact b j e
 qm:=by
  refine(zg (S.staym (S.br.iv.own i) a)).trans ?_;obtain rfl|rfl:i=0\/i=1:=by omega
  . rfl
  rfl
 br:=(S.br.int a f d).agr (Agr.set _ S.ml _ _)
 sz:=S.szs a _ _
theorem NSt.link{x:CP}{g c:Nat}(a:(wx.alloc o).grownBy wy kv.ownBlock)(d:wy.ownsRow lo 94 3 (Kx g 0 (K.length+1) c) (K.length+1) ((K.map lnkC).flatten++lnkC x))(f:kv.ownBlock=some g\/g=wx.heap.size+1):
 NSt w lo mb base keep lv (Kx g 0 (K.length+1) c) U L (K++ [x]) Q (wy.setCell (aD mb 2) (Kx g 0 (K.length+1) c)) where
 bel:=S.grow S.br.lk a _ _
 wm:=S.wm
 ml:=S.ml
 hk p hp:=by
  obtain⟨h,k,i,b,j⟩:=S.hk p hp;exact⟨h,S.keeps S.br.lk a hp b,i,λe=>S.lt (e:=o) hp f b (by simpa[Value.ownBlock] using e),j⟩
 qm:=(zg (S.staym S.br.lk a)).trans rfl
 br:=(S.br.link a d).agr (Agr.set _ S.ml _ _)
 sz:=S.szs a _ _
theorem NSt.linkK{x:CP}{g c n:Nat}{a:List CP}(b:K.length=n)(d:K++ [x]=a)(e:(wx.alloc o).grownBy wy kv.ownBlock)(f:wy.ownsRow lo 94 3 (Kx g 0 (n+1) c) (n+1) ((K.map lnkC).flatten++lnkC x))(h:kv.ownBlock=some g\/g=wx.heap.size+1):
 NSt w lo mb base keep lv (Kx g 0 (n+1) c) U L a Q (wy.setCell (aD mb 2) (Kx g 0 (n+1) c)):=by
 subst b d;exact S.link e f h
theorem NSt.net:∃(a b c d:Ae) (e f g h:Nat),lv=CU a L.length e/\kv=CU b K.length f/\U 0=CU c (Q 0).length g/\U 1=CU d (Q 1).length h/\FrK lo (λw=>zzU w a L) wx/\FrK lo (λw=>zz2 w b K) wx/\FrK lo (λw=>zW w c (Q 0)) wx/\FrK lo (λw=>zW w d (Q 1)) wx:=by
 have⟨a,e,i,j⟩:=S.br.lg.fr;have⟨b,f,k,l⟩:=zBt S.br.lk;have⟨c,g,m,n⟩:=S.br.iv.form 0;have⟨d,h,o,p⟩:=S.br.iv.form 1;simp_all
end
theorem NSt.nil{w c:Wd}{lo d:Nat}{b:List (Nat×Obj)}(f:Bw w c)(g:w.heap.size<=d)(h:d<lo)(i:lo<=c.heap.size)(e:∀p∈b,p.1≠d/\c.heap[p.1]?=some p.2)(j:c.heap[d]?=some (netO (B_ a) Ls Ls Ls Ls)):
 NSt w lo d a b Ls Ls (λ_=>Ls) [] [] (λ_=> []) c where
 bel:=f
 wm:=g
 ml:=h
 hk p hp:=⟨(e p hp).1,(e p hp).2,by simp[Value.ownBlock],by simp[Value.ownBlock],λ_=>by simp[Value.ownBlock]⟩
 qm:=j
 br:=zAi.nil _ _
 sz:=i
