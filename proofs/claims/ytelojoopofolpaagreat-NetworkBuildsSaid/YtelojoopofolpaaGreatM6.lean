/- a part of the proof -/
import Derived.Test.YtelojoopofolpaaGreatM5
set_option linter.all false
set_option maxRecDepth 100000
set_option maxHeartbeats 3000000
namespace Go.Proofs.YtelojoopofolpaaGreat
open Go.RowKit Go.Sort Go.Proofs.Tryz
variable {a b g i j lo n sb:Nat}{w w':Wd}{U:Nat->Value}{Q:Nat->List (Int×Int)}{f:Nat->Bool}{v0 v1 v2 v3 v4:Value}{q:LI}{base:BA}
def stC(x:Int×Int):LV:= [.int .i64 x.1,.int .i64 x.2]
def zCY(lo:Nat)(w:Wd)(v:Value)(q:List (Int×Int)):Prop:=w.ownsRow lo 285 2 v q.length (q.map stC).flatten
def updS(Q:Nat->List (Int×Int))(i:Nat)(l:List (Int×Int)):Nat->List (Int×Int):=λj=>if j=i then l else Q j
structure zAM(lo:Nat)(w:Wd)(U:Nat->Value)(Q:Nat->List (Int×Int)):Prop where
 own:∀i,zCY lo w (U i) (Q i)
 apart:∀i j b,(U i).ownBlock=some b->(U j).ownBlock=some b->i=j
theorem zAM.nil(lo:Nat)(w:Wd):zAM lo w (λ_=>Hn) (λ_=> []) where
 own _:=World.ownsRow_nil ..
 apart i j b h:=by cases h
theorem zAM.agr(h:zAM lo w U Q)(a:jR lo w w'):zAM lo w' U Q where
 own i:=zz3 (h.own i) a
 apart:=h.apart
theorem zAM.lt(h:zAM lo w U Q)(e:(U i).ownBlock=some b):lo<=b/\b<w.heap.size:=World.ownsRow.lt (h.own i) b e
theorem zAM.app{cap:Nat}{x:Int×Int}{o:Obj}(h:zAM lo w U Q)(q:(w.alloc o).grownBy w' (U i).ownBlock) 
 (r:w'.ownsRow lo 285 2 (Hy g 0 ((Q i).length+1) cap) ((Q i).length+1) (((Q i).map stC).flatten++stC x)) (p:(U i).ownBlock=some g\/g=w.heap.size+1):zAM lo w' (BW U i (Hy g 0 ((Q i).length+1) cap)) (updS Q i (Q i++ [x])) where
 own j:=by
  unfold BW updS zCY
  by_cases e:j=i
  . rw[iP e,iP e,Gh,Ii,List.flatten_append];simpa using r
  rw[iN e,iN e];refine World.ownsRow.kept ((h.own j).alloc _) q ?_;cases s:(U j).ownBlock with
  |none=>exact .inl rfl
  |some b=>exact .inr λd=>e (h.apart j i b s (by rw[<-d]))
 apart a b c:=by
  unfold BW
  intro k f;by_cases m:a=i
  . by_cases d:b=i
    . rw[m,d]
    rw[iP m]at k;rw[iN d]at f;have n:c=g:=by cases k;rfl
    rcases p with l|l
    . exact aB (h.apart b i c f (by rw[l,n])) d
    have:=(h.lt f).2;omega
  rw[iN m]at k;by_cases d:b=i
  . rw[iP d]at f;have n:c=g:=by cases f;rfl
    rcases p with l|l
    . exact aB (h.apart a i c k (by rw[l,n])) m
    have:=(h.lt k).2;omega
  rw[iN d]at f;exact h.apart a b c k f
theorem zBm:EI 283 285 (.agg #[Bn 0,Bn 0]) 2 16:=⟨underlying283,by kernel_rfl,rfl,by decide⟩
theorem BoF.setV{f':Nat->Bool}(h:BoF w g n f){b:Bool}(e:∀j:Nat,f' j=if j=i then b else f j):BoF (w.setCell (aD g i) (.bool b)) g n f':=by
 obtain⟨l,rfl,c,h⟩:=h;refine⟨l.set i b,by simp,λj hj=>?_,?_⟩;rw[e j,List.getElem?_set];by_cases a:i=j;subst a;simp[hj];rw[iN a,iN (λh=>a h.symm),c j hj];rw[zg h];simp
theorem BoF.blk(h:BoF w g n f)(e:w'.heap[g]?=w.heap[g]?):BoF w' g n f:=by
 obtain⟨l,a,b,c⟩:=h;exact⟨l,a,b,e.trans c⟩
def zz0(K:List DW)(i:Nat):List (Int×Int):=(K.filter λl=>decide (l.i=(i:Int))).map λl=>(l.k,l.cost)
theorem zA7(K:List DW)(i:Nat):(zz0 K i).length<=K.length:=by
 unfold zz0;rw[List.length_map];exact List.length_filter_le _ _
theorem zBI(K:List DW)(x:DW)(i:Nat):zz0 (K++ [x]) i=if x.i=(i:Int) then zz0 K i++ [(x.k,x.cost)] else zz0 K i:=by
 unfold zz0;rw[List.filter_append,Ii];by_cases h:x.i=(i:Int);rw[iP h];simp[h];rw[iN h];simp[h]
def zAl(sb:Nat)(v0 v1 v2 v3 v4:Value)(n stb enb opb vlb:Nat):Obj:=Obj.cells #[.pointer (some (aD sb 0)),v0,v1,v2,v3,v4,.slice (some (aD stb 0)) n n,.slice (some (aD enb 0)) n n,.slice (some (aD opb 0)) n n,.slice (some (aD vlb 0)) n n] 280
structure oP(w:Wd)(lo sb nb stb enb opb vlb gb n:Nat)(t:At)(c:Ad)(L:List Sd)(v0 v1 v2 v3 v4:Value)(U:Nat->Value)(Q:Nat->List (Int×Int))(fE fO:Nat->Bool)(kv:Nat)(svals vals:LV)(wx:Wd):Prop where
 bel:Below w.heap.size w wx
 sz:lo<=wx.heap.size
 ord:w.heap.size<=nb/\w.heap.size<=stb/\w.heap.size<=enb/\w.heap.size<=opb/\w.heap.size<=vlb/\nb<lo/\stb<lo/\enb<lo/\opb<lo/\vlb<lo/\gb<lo
 dis:(nb≠stb/\nb≠enb/\nb≠opb/\nb≠vlb)/\(gb≠stb/\gb≠enb/\gb≠opb/\gb≠vlb)/\stb≠enb/\stb≠opb/\stb≠vlb/\enb≠opb/\enb≠vlb/\opb≠vlb
 qn:wx.heap[nb]?=some (PF v0 v1 v2 v3 v4)
 qg:wx.heap[gb]?=some (zAl sb v0 v1 v2 v3 v4 n stb enb opb vlb)
 qs:wx.heap[stb]?=some (.cells svals.toArray 283 (0,0))
 ls:svals.length=n
 sv:∀i,i<n->svals[i]?=some (U i)
 qe:BoF wx enb n fE
 qo:BoF wx opb n fO
 qv:wx.heap[vlb]?=some (.cells vals.toArray 22 (0,0))
 lv:vals.length=n
 rows:zAM lo wx U Q
 vl:∀i,i<kv->∃b,vals[i]?=some (.slice (some (aD b 0)) 11 11)/\lo<=b/\b<wx.heap.size/\zW wx (some (aD b 0)) (Bo t c (Hx L i).duty)/\∀j,(U j).ownBlock≠some b
section
variable {w wx wy:Wd} {lo sb nb stb enb opb vlb gb n:Nat} {t:At} {c:Ad} {L:List Sd} {v0 v1 v2 v3 v4:Value} {U:Nat→Value} {Q:Nat→List (Int×Int)} {fE fO:Nat→Bool} {kv:Nat} {svals vals:LV} {o:Obj}
theorem oP.call(S:oP w lo sb nb stb enb opb vlb gb n t c L v0 v1 v2 v3 v4 U Q fE fO kv svals vals wx)(h:Bw wx wy):oP w lo sb nb stb enb opb vlb gb n t c L v0 v1 v2 v3 v4 U Q fE fO kv svals vals wy where
 bel:=Ab S.bel h
 sz:=Bf S.sz h.size
 ord:=S.ord
 dis:=S.dis
 qn:=Ac h S.qn
 qg:=Ac h S.qg
 qs:=Ac h S.qs
 ls:=S.ls
 sv:=S.sv
 qe:=S.qe.call h
 qo:=S.qo.call h
 qv:=Ac h S.qv
 lv:=S.lv
 rows:=S.rows.agr (jR.of h)
 vl i hi:=by
  obtain⟨b,a,d,e,f,g⟩:=S.vl i hi;exact⟨b,a,d,As e h.size,f.below h,g⟩
theorem oP.vals'(S:oP w lo sb nb stb enb opb vlb gb n t c L v0 v1 v2 v3 v4 U Q fE fO kv svals vals wx)(a:jR lo wx wy)(i:Nat)(f:i<kv):∃b,vals[i]?=some (Hy b 0 11 11)/\lo<=b/\b<wy.heap.size/\zW wy (some (aD b 0)) (Bo t c (Hx L i).duty)/\∀j,(U j).ownBlock≠some b:=by
 obtain⟨b,g,e,d,h,k⟩:=S.vl i f;exact⟨b,g,e,As d a.1,h.blk (a.2 b e d) (As d a.1),k⟩
theorem oP.link(S:oP w lo sb nb stb enb opb vlb gb n t c L v0 v1 v2 v3 v4 U Q fE fO 0 svals vals wx){i g cap m:Nat}{x:Int×Int}(q:i<n)(r:(Q i).length=m)(d:(wx.alloc o).grownBy wy (U i).ownBlock) 
 (s:wy.ownsRow lo 285 2 (Hy g 0 (m+1) cap) (m+1) (((Q i).map stC).flatten++stC x)) (u:(U i).ownBlock=some g\/g=wx.heap.size+1):
 (wy.heap[stb]?=some (.cells svals.toArray 283 (0,0)))/\oP w lo sb nb stb enb opb vlb gb n t c L v0 v1 v2 v3 v4 (BW U i (Hy g 0 (m+1) cap)) (updS Q i (Q i++ [x])) fE fO 0 (svals.set i (Hy g 0 (m+1) cap)) vals (wy.setCell (aD stb i) (Hy g 0 (m+1) cap)):=by
 subst r;obtain⟨F,G,H,K,M,N,P,R,T,v,y⟩:=S.ord;obtain⟨⟨V,W,X,Y⟩,⟨Z,d6,d7,d8⟩,d9,z,A,B,C,D⟩:=S.dis;have sz:=S.sz;have E:wx.heap.size+1<=wy.heap.size:=by have:=d.size;simpa using this
 have a:∀{x:Nat},x<lo->wy.heap[x]?=wx.heap[x]?:=fun{x} h=>(d.block _ (by simp;omega) (λe=>by have:=(S.rows.lt e.symm).1;omega)).trans (heap_alloc_old wx o (by omega))
 have b:∀{x:Nat},x≠stb->(wy.setCell (aD stb i) (Hy g 0 ((Q i).length+1) cap)).heap[x]?=wy.heap[x]?:=λh=>Below.heap_setCell _ (aD stb i) _ _ h;have f:=jR.set (lo:=lo) wy (show stb<lo by omega) i (Hy g 0 ((Q i).length+1) cap);have l:=(a (show stb<lo by omega)).trans S.qs;refine⟨l,((S.bel.alloc S.bel.size o).grown d (by have:=S.bel.size;simp;omega) (λk hk=>by have:=(S.rows.lt hk).1;omega)).setCell (p:=aD stb i) (show w.heap.size<=stb by omega) _,Bf (show lo<=wy.heap.size by omega) f.1,S.ord,S.dis,(b (by first|assumption|exact Ne.symm (by assumption))).trans ((a (by omega)).trans S.qn),(b (by first|assumption|exact Ne.symm (by assumption))).trans ((a (by omega)).trans S.qg),?_,by simpa using S.ls,λj hj=>?_,S.qe.blk ((b (by first|assumption|exact Ne.symm (by assumption))).trans (a (by omega))),S.qo.blk ((b (by first|assumption|exact Ne.symm (by assumption))).trans (a (by omega))),(b (by first|assumption|exact Ne.symm (by assumption))).trans ((a (by omega)).trans S.qv),S.lv,(S.rows.app d s u).agr f,λj hj=>aB hj (Nat.not_lt_zero j)⟩;rw[zg l];simp;unfold BW;by_cases e:j=i;subst e;rw[iP rfl,List.getElem?_set];simp[S.ls,q];rw[iN e,List.getElem?_set_ne (λh=>e h.symm)];exact S.sv j hj
theorem oP.grG(S:oP w lo sb nb stb enb opb vlb gb n t c L v0 v1 v2 v3 v4 U Q fE fO kv svals vals wx){i:Nat}(a:(wx.alloc o).grownBy wy (U i).ownBlock):wy.heap[gb]?=some (zAl sb v0 v1 v2 v3 v4 n stb enb opb vlb):=by
 have d:=S.sz;have b:=S.ord;exact(a.block gb (by simp;omega) (λe=>by have:=(S.rows.lt e.symm).1;omega)).trans (Ac (J wx o) S.qg)
theorem oP.setE(S:oP w lo sb nb stb enb opb vlb gb n t c L v0 v1 v2 v3 v4 U Q fE fO kv svals vals wx){i:Nat}{b:Bool}{f':Nat->Bool}(e:∀j:Nat,f' j=if j=i then b else fE j):oP w lo sb nb stb enb opb vlb gb n t c L v0 v1 v2 v3 v4 U Q f' fO kv svals vals (wx.setCell (aD enb i) (.bool b)):=by
 obtain⟨r,s,u,v,y,z,A,B,C,f,g⟩:=S.ord;obtain⟨⟨D,E,F,G⟩,⟨H,K,M,N⟩,P,k,l,m,o,q⟩:=S.dis;have d:=jR.set (lo:=lo) wx (show enb<lo by omega) i (.bool b);have a:∀{x:Nat},x≠enb->(wx.setCell (aD enb i) (.bool b)).heap[x]?=wx.heap[x]?:=λh=>Below.heap_setCell _ (aD enb i) _ _ h;exact⟨S.bel.setCell (p:=aD enb i) (show w.heap.size<=enb by omega) _,Bf S.sz d.1,S.ord,S.dis,(a (by first|assumption|exact Ne.symm (by assumption))).trans S.qn,(a (by first|assumption|exact Ne.symm (by assumption))).trans S.qg,(a (by first|assumption|exact Ne.symm (by assumption))).trans S.qs,S.ls,S.sv,S.qe.setV e,S.qo.blk (a (by first|assumption|exact Ne.symm (by assumption))),(a (by first|assumption|exact Ne.symm (by assumption))).trans S.qv,S.lv,S.rows.agr d,S.vals' d⟩
theorem oP.setO(S:oP w lo sb nb stb enb opb vlb gb n t c L v0 v1 v2 v3 v4 U Q fE fO kv svals vals wx){i:Nat}{b:Bool}{f':Nat->Bool}(e:∀j:Nat,f' j=if j=i then b else fO j):oP w lo sb nb stb enb opb vlb gb n t c L v0 v1 v2 v3 v4 U Q fE f' kv svals vals (wx.setCell (aD opb i) (.bool b)):=by
 obtain⟨r,s,u,v,y,z,A,B,C,f,g⟩:=S.ord;obtain⟨⟨D,E,F,G⟩,⟨H,K,M,N⟩,P,k,l,m,o,q⟩:=S.dis;have d:=jR.set (lo:=lo) wx (show opb<lo by omega) i (.bool b);have a:∀{x:Nat},x≠opb->(wx.setCell (aD opb i) (.bool b)).heap[x]?=wx.heap[x]?:=λh=>Below.heap_setCell _ (aD opb i) _ _ h;exact⟨S.bel.setCell (p:=aD opb i) (show w.heap.size<=opb by omega) _,Bf S.sz d.1,S.ord,S.dis,(a (by first|assumption|exact Ne.symm (by assumption))).trans S.qn,(a (by first|assumption|exact Ne.symm (by assumption))).trans S.qg,(a (by first|assumption|exact Ne.symm (by assumption))).trans S.qs,S.ls,S.sv,S.qe.blk (a (by first|assumption|exact Ne.symm (by assumption))),S.qo.setV e,(a (by first|assumption|exact Ne.symm (by assumption))).trans S.qv,S.lv,S.rows.agr d,S.vals' d⟩
theorem oP.val(S:oP w lo sb nb stb enb opb vlb gb n t c L v0 v1 v2 v3 v4 U Q fE fO kv svals vals wx)(k:kv<n){b:Nat}(g:lo<=b)(f:b<wx.heap.size)(l:zW wx (some (aD b 0)) (Bo t c (Hx L kv).duty))(m:∀j,(U j).ownBlock≠some b):
 oP w lo sb nb stb enb opb vlb gb n t c L v0 v1 v2 v3 v4 U Q fE fO (kv+1) svals (vals.set kv (Hy b 0 11 11)) (wx.setCell (aD vlb kv) (Hy b 0 11 11)):=by
 obtain⟨B,C,D,E,F,G,H,K,M,o,r⟩:=S.ord;obtain⟨⟨N,P,R,T⟩,⟨V,W,X,Y⟩,Z,s,u,v,y,z⟩:=S.dis;have a:=jR.set (lo:=lo) wx (show vlb<lo by omega) kv (Hy b 0 11 11);have d:∀{x:Nat},x≠vlb->(wx.setCell (aD vlb kv) (Hy b 0 11 11)).heap[x]?=wx.heap[x]?:=λh=>Below.heap_setCell _ (aD vlb kv) _ _ h;refine⟨S.bel.setCell (p:=aD vlb kv) (show w.heap.size<=vlb by omega) _,Bf S.sz a.1,S.ord,S.dis,(d (by first|assumption|exact Ne.symm (by assumption))).trans S.qn,(d (by first|assumption|exact Ne.symm (by assumption))).trans S.qg,(d (by first|assumption|exact Ne.symm (by assumption))).trans S.qs,S.ls,S.sv,S.qe.blk (d (by first|assumption|exact Ne.symm (by assumption))),S.qo.blk (d (by first|assumption|exact Ne.symm (by assumption))),?_,by simpa using S.lv,S.rows.agr a,λi hi=>?_⟩;rw[zg S.qv];simp;by_cases e:i=kv;subst e;exact⟨b,by rw[List.getElem?_set];simp[S.lv,k],g,As f a.1,l.blk (a.2 b g f) (As f a.1),m⟩;obtain⟨A,q⟩:=S.vals' a i (by omega);exact⟨A,by rw[List.getElem?_set_ne (by omega)];exact q.1,q.2⟩
end
def DvT(t:At)(c:Ad)(d:Ai)(B:Nat)(v:Value)(w:Wd):Prop:=∃b,v=.slice (some (aD b 0)) 11 11/\B<=b/\b<w.heap.size/\zW w (some (aD b 0)) (Bo t c d)
theorem DvT.call{t:At}{c:Ad}{d:Ai}{B:Nat}{v:Value}(h:DvT t c d B v w)(a:Bw w w'):DvT t c d B v w':=by
 obtain⟨b,e,f,g,i⟩:=h;exact⟨b,e,f,As g a.size,i.below a⟩
theorem oP.start{d e:Nat}{t:At}{c:Ad}{L:List Sd}(B:Below (w.alloc (PF v0 v1 v2 v3 v4)).heap.size (w.alloc (PF v0 v1 v2 v3 v4)) w')(F:w.heap.size+1<=a/\a<w'.heap.size)(G:w.heap.size+1<=b/\b<w'.heap.size)(H:w.heap.size+1<=d/\d<w'.heap.size)(K:w.heap.size+1<=e/\e<w'.heap.size) 
 (h:w'.heap[a]?=some (.cells (Array.replicate n Hn) 283)) (k:w'.heap[b]?=some (.cells (Array.replicate n (Value.bool false)) 4)) (l:w'.heap[d]?=some (.cells (Array.replicate n (Value.bool false)) 4)) (m:w'.heap[e]?=some (.cells (Array.replicate n Hn) 22))
 (o:a≠b) (r:a≠d) (s:a≠e) (u:b≠d) (v:b≠e) (x:d≠e):
 oP w (w'.heap.size+1) sb w.heap.size a b d e w'.heap.size n t c L v0 v1 v2 v3 v4 (λ_=>Hn) (λ_=> []) (λ_=>false) (λ_=>false) 0 (List.replicate n Hn) (List.replicate n Hn) (w'.alloc (zAl sb v0 v1 v2 v3 v4 n a b d e)):=by
 have y:=zh w (PF v0 v1 v2 v3 v4);have z:=J w (PF v0 v1 v2 v3 v4);have f:=J w' (zAl sb v0 v1 v2 v3 v4 n a b d e);have A:=zh w' (zAl sb v0 v1 v2 v3 v4 n a b d e);have C:=B.size;have D:=zr w (PF v0 v1 v2 v3 v4);have E:=zr w' (zAl sb v0 v1 v2 v3 v4 n a b d e);have g:∀{p:Nat},w'.heap[p]?=some (.cells (Array.replicate n (Value.bool false)) 4)->BoF (w'.alloc (zAl sb v0 v1 v2 v3 v4 n a b d e)) p n (λ_=>false):=λq=>⟨List.replicate n false,by simp,λj hj=>by simp[hj],by simpa using Ac f q⟩;refine⟨Ab (Ab z B) f,by omega,by omega,?_,Ac f (Ac B y),A,by simpa using Ac f h,by simp,λi hi=>by simp[hi],g k,g l,by simpa using Ac f m,by simp,zAM.nil _ _,λi hi=>aB hi (Nat.not_lt_zero i)⟩;refine⟨⟨?_,?_,?_,?_⟩,⟨?_,?_,?_,?_⟩,o,r,s,u,v,x⟩ <;> omega
theorem zB4(n:Nat)(a:n<=1000)(w:Wd):(Instr.makeSlice 278 (Bn (n:Int)) (Bn (n:Int))).run prog w=.ok (Hy w.heap.size 0 n n) (w.alloc (.cells (Array.replicate n Hn) 283)):=by
 rw[show ∀v k,Array.replicate k v=madeCells #[v] k from λv k=>by rw[sA];simp];exact run_make_row' (P:=prog) 278 283 Hn 24 underlying278 (by kernel_rfl) rfl .i64 .i64 n (by omega) (by omega) w
theorem zCl(n:Nat)(a:n<=1000)(w:Wd):(Instr.makeSlice 77 (Bn (n:Int)) (Bn (n:Int))).run prog w=.ok (Hy w.heap.size 0 n n) (w.alloc (.cells (Array.replicate n (Value.bool false)) 4)):=by
 rw[show ∀v k,Array.replicate k v=madeCells #[v] k from λv k=>by rw[sA];simp];exact run_make_row' (P:=prog) 77 4 (.bool false) 1 underlying77 (by kernel_rfl) rfl .i64 .i64 n (by omega) (by omega) w
theorem zCk(n:Nat)(a:n<=1000)(w:World):(Instr.makeSlice 81 (.int .i64 (n:Int)) (.int .i64 (n:Int))).run prog w=.ok (.slice (some ⟨w.heap.size,0,none⟩) n n) (w.alloc (.cells (Array.replicate n (Value.slice none 0 0)) 22)):=by
 rw[show ∀v k,Array.replicate k v=madeCells #[v] k from λv k=>by rw[sA];simp];exact run_make_row' (P:=prog) 81 22 (.slice none 0 0) 24 underlying81 ZS rfl .i64 .i64 n (by omega) (by omega) w
def GrR(w:Wd)(sb:Nat)(t:At)(c:Ad)(L:List Sd)(K:List DW)(E:LI)(v0 v1 v2 v3 v4:Value)(e:Ending)(w':Wd):Prop:=∃(gb lo nb stb enb opb vlb:Nat) (U:Nat->Value) (svals vals:LV),e=.returned (.pointer (some (aD gb 0)))/\oP w lo sb nb stb enb opb vlb gb L.length t c L v0 v1 v2 v3 v4 U (zz0 K) (λj=>decide ((j:Int)∈E)) (λj=>decide (j<L.length)&&Rj (Hx L j).duty) L.length svals vals w'
theorem zBr(w:Wd)(sb:Nat)(t:At)(c:Ad)(P:Dh)(C:Hl w sb t c P)(base:BA)(L:List Sd)(K:List DW)(S E:LI)(G Y N H:Ae)(c1 Q R T:Nat)(hL:L.length<=1000)(hK:K.length<=1000000)(hE:E.length<=1000000)(h1:zzU w G L)(h3:zz2 w Y K)(h7:zW w H E) 
 (hD:∀i,i<L.length->Cc t c (Hx L i).duty=0) (f0:∀j,j<K.length->0<=(PB K j).i/\(PB K j).i<(L.length:Int)) (f3:∀x∈E,0<=x/\x<(L.length:Int)):
 Calls prog 196 #[.pointer (some (aD sb 0)),.agg #[.string base,.slice G L.length c1,.slice Y K.length Q,.slice N S.length R,.slice H E.length T]] w (GrR w sb t c L K E (.string base) (.slice G L.length c1) (.slice Y K.length Q) (.slice N S.length R) (.slice H E.length T)):=by
 have HS:=I C;have h6:=I h1;have h8:=I h3;have i1:=I h7;have HD:=I hD;have i2:=I f0;have i3:=I f3;clear C h1 h3 h7 hD f0 f3;have i4:=zB4 L.length hL;have i5:=zCl L.length hL;have i6:=zCk L.length hL;go_enter func196,ntmps196
 go_upto_region 2 with fail
 have q1:=zh w (Obj.cells #[.string base,.slice G L.length c1,.slice Y K.length Q,.slice N S.length R,.slice H E.length T] 65);have b1:=J w (Obj.cells #[.string base,.slice G L.length c1,.slice Y K.length Q,.slice N S.length R,.slice H E.length T] 65);have c8:=zr w (Obj.cells #[.string base,.slice G L.length c1,.slice Y K.length Q,.slice N S.length R,.slice H E.length T] 65);obtain⟨W1,b5⟩:∃W1,W1=w.alloc (Obj.cells #[.string base,.slice G L.length c1,.slice Y K.length Q,.slice N S.length R,.slice H E.length T] 65):=⟨_,rfl⟩;rw[<-b5]at q1 b1 c8;rw[<-b5];obtain⟨nb,b6⟩:∃nb,nb=w.heap.size:=⟨_,rfl⟩;rw[<-b6]at q1;simp only[<-b6];have i7:=I b6;have i8:=I b5;have QN:=I q1;have i9:=I c8;clear b6 b5 q1 c8;refine aE λA0 hA0=>?_
 have a:A0.tmps.size=101:=by rw[hA0];rfl
 refine aF [] [(0,.pointer (some (aD sb 0))),(3,.pointer (some (aD nb 0))),(5,.int .i64 (L.length:Nat))] a (by rw[hA0];rfl) ?_;have b7:=I (dr W1 1);refine De 0 16 (.pointer (some (aD sb 0))) rfl a ?_;refine Vk 1 17 (.agg #[.string base,.slice G L.length c1,.slice Y K.length Q,.slice N S.length R,.slice H E.length T]) [] rfl a b7.1 ?_ ?_
 . intro A D e C;obtain⟨l,r,s⟩:=e.at (t:=3) (V:=.pointer (some (aD nb 0))) rfl;have q:=Ac C QN.1;have x0:=D_ q;have x1:=zm (j:=1) q rfl;have x2:=zm (j:=2) q rfl;have x4:=zm (j:=4) q rfl;have xl:=Ag q;go_simp
 refine De 2 18 (.int .i64 (L.length:Nat)) rfl a ?_;refine De 4 20 (.int .i64 (L.length:Nat)) rfl a ?_;refine De 6 22 (.int .i64 (L.length:Nat)) rfl a ?_;refine De 8 24 (.int .i64 (L.length:Nat)) rfl a ?_;refine rgFree (n:=3) [3,5,7,9] (λi=>16+i) (λi=>if i=3 then .cells (Array.replicate L.length (Value.slice none 0 0)) 283 else if i=9 then .cells (Array.replicate L.length (Value.slice none 0 0)) 22 else .cells (Array.replicate L.length (Value.bool false)) 4) (λ_ b=>.slice (some (aD b 0)) L.length L.length) a ?_ b7.1 ?_
 . intro i hi;simp only[List.mem_cons,List.not_mem_nil,or_false]at hi;rcases hi with rfl|rfl|rfl|rfl
   . refine⟨_,rfl,rfl,rfl,λA D e=>?_⟩;obtain⟨l,r,s⟩:=e 18 rfl;replace l:A.eval (.tmp 18)=.int .i64 (L.length:Nat):=l;replace r:A.tmps.getD 18 undef=.int .i64 (L.length:Nat):=r;replace s:A.tmps[18]?.getD undef=.int .i64 (L.length:Nat):=s;clear e hA0;go_simp
   . refine⟨_,rfl,rfl,rfl,λA D e=>?_⟩;obtain⟨l,r,s⟩:=e 20 rfl;replace l:A.eval (.tmp 20)=.int .i64 (L.length:Nat):=l;replace r:A.tmps.getD 20 undef=.int .i64 (L.length:Nat):=r;replace s:A.tmps[20]?.getD undef=.int .i64 (L.length:Nat):=s;clear e hA0;go_simp
   . refine⟨_,rfl,rfl,rfl,λA D e=>?_⟩;obtain⟨l,r,s⟩:=e 22 rfl;replace l:A.eval (.tmp 22)=.int .i64 (L.length:Nat):=l;replace r:A.tmps.getD 22 undef=.int .i64 (L.length:Nat):=r;replace s:A.tmps[22]?.getD undef=.int .i64 (L.length:Nat):=s;clear e hA0;go_simp
   refine⟨_,rfl,rfl,rfl,λA D e=>?_⟩;obtain⟨l,r,s⟩:=e 24 rfl;replace l:A.eval (.tmp 24)=.int .i64 (L.length:Nat):=l;replace r:A.tmps.getD 24 undef=.int .i64 (L.length:Nat):=r;replace s:A.tmps[24]?.getD undef=.int .i64 (L.length:Nat):=s;clear e hA0;go_simp
 intro p w2 hp a0 B2;have h3:=hp 3 (by decide);have h5:=hp 5 (by decide);have h7:=hp 7 (by decide);have h9:=hp 9 (by decide);have d1:p 3≠p 5:=λe=>by have:=a0 3 (by decide) 5 (by decide) e;omega
 have d2:p 3≠p 7:=λe=>by have:=a0 3 (by decide) 7 (by decide) e;omega
 have d3:p 3≠p 9:=λe=>by have:=a0 3 (by decide) 9 (by decide) e;omega
 have d4:p 5≠p 7:=λe=>by have:=a0 5 (by decide) 7 (by decide) e;omega
 have d5:p 5≠p 9:=λe=>by have:=a0 5 (by decide) 9 (by decide) e;omega
 have d6:p 7≠p 9:=λe=>by have:=a0 7 (by decide) 9 (by decide) e;omega
 simp only[Nat.reduceEqDiff,if_true,if_false]at h3 h5 h7 h9;simp only[List.map_cons,List.map_nil,List.cons_append,List.nil_append,Nat.reduceAdd];generalize p 3=d at*;generalize p 5=z at*;generalize p 7=y at*;generalize p 9=B at*
 have GS:=I (show oP w (w2.heap.size+1) sb nb d z y B w2.heap.size L.length t c L (.string base) (.slice G L.length c1) (.slice Y K.length Q) (.slice N S.length R) (.slice H E.length T) (λ_=>.slice none 0 0) (zz0 (K.take 0)) (λj=>decide ((j:Int)∈E.take 0)) (λj=>decide (j<0)&&Rj (Hx L j).duty) 0 (List.replicate L.length (.slice none 0 0)) (List.replicate L.length (.slice none 0 0)) (w2.alloc (Obj.cells #[.pointer (some (aD sb 0)),.string base,.slice G L.length c1,.slice Y K.length Q,.slice N S.length R,.slice H E.length T,.slice (some (aD d 0)) L.length L.length,.slice (some (aD z 0)) L.length L.length,.slice (some (aD y 0)) L.length L.length,.slice (some (aD B 0)) L.length L.length] 280)) from by
  have hw:=i8.1;have hn:=i7.1;subst hn;have hB:Bw W1 w2:=Ab b7.1 B2;have hz:W1.drew.heap.size=w.heap.size+1:=i9.1;rw[hw]at hB;have h:=oP.start (n:=L.length) (sb:=sb) (t:=t) (c:=c) (L:=L) (v0:=.string base) (v1:=.slice G L.length c1) (v2:=.slice Y K.length Q) (v3:=.slice N S.length R) (v4:=.slice H E.length T) hB ⟨by omega,h3.2.1⟩ ⟨by omega,h5.2.1⟩ ⟨by omega,h7.2.1⟩ ⟨by omega,h9.2.1⟩ h3.2.2 h5.2.2 h7.2.2 h9.2.2 d1 d2 d3 d4 d5 d6;rw[show zz0 (K.take 0)=(λ_=> []) from rfl,show(λj:Nat=>decide ((j:Int)∈E.take 0))=(λ_=>false) from by funext j;simp,show(λj:Nat=>decide (j<0)&&Rj (Hx L j).duty)=(λ_=>false) from by funext j;simp];exact h)
 have b8:W1.heap.size<=w2.heap.size:=(Ab b7.1 B2).size;clear h3 h5 h7 h9 d1 d2 d3 d4 d5 d6 hp a0;refine Kr 10 26 (.agg #[.pointer (some (aD sb 0)),.string base,.slice G L.length c1,.slice Y K.length Q,.slice N S.length R,.slice H E.length T,.slice (some (aD d 0)) L.length L.length,.slice (some (aD z 0)) L.length L.length,.slice (some (aD y 0)) L.length L.length,.slice (some (aD B 0)) L.length L.length]) rfl a ?_ ?_
 . intro A D e;obtain⟨l,r,s⟩:=e.at (t:=16) (V:=.pointer (some (aD sb 0))) rfl;obtain⟨f4,f5,f6⟩:=e.at (t:=17) (V:=.agg #[.string base,.slice G L.length c1,.slice Y K.length Q,.slice N S.length R,.slice H E.length T]) rfl;obtain⟨l4,l5,l6⟩:=e.at (t:=19) (V:=.slice (some (aD d 0)) L.length L.length) rfl;obtain⟨l7,l8,l9⟩:=e.at (t:=21) (V:=.slice (some (aD z 0)) L.length L.length) rfl;obtain⟨m0,m1,m2⟩:=e.at (t:=23) (V:=.slice (some (aD y 0)) L.length L.length) rfl;obtain⟨m3,m4,m5⟩:=e.at (t:=25) (V:=.slice (some (aD B 0)) L.length L.length) rfl;clear e hA0;go_simp
 refine Rz 11 27 rfl a (λA e Kx hK=>?_);obtain⟨l,r,s⟩:=e.at (t:=26) (V:=.agg #[.pointer (some (aD sb 0)),.string base,.slice G L.length c1,.slice Y K.length Q,.slice N S.length R,.slice H E.length T,.slice (some (aD d 0)) L.length L.length,.slice (some (aD z 0)) L.length L.length,.slice (some (aD y 0)) L.length L.length,.slice (some (aD B 0)) L.length L.length]) rfl;go_simp;refine hK.1 _ _ (λ_ h=>Ab h (J _ _)) ?_;clear hK e A Kx l r s;refine De 12 6 (.pointer (some (aD w2.heap.size 0))) rfl a ?_;refine Wn ?_;rw[hA0];clear hA0 a;simp only[Dj,Act.put,O];obtain⟨lo,f7⟩:∃lo,lo=w2.heap.size+1:=⟨_,rfl⟩;obtain⟨W,b8⟩:∃W,W=w2.heap.size:=⟨_,rfl⟩;rw[<-f7,<-b8]at GS;simp only[<-b8];clear f7 b8 i4 i5 i6 B2 b1;generalize w2.alloc (Obj.cells #[.pointer (some (aD sb 0)),.string base,.slice G L.length c1,.slice Y K.length Q,.slice N S.length R,.slice H E.length T,.slice (some (aD d 0)) L.length L.length,.slice (some (aD z 0)) L.length L.length,.slice (some (aD y 0)) L.length L.length,.slice (some (aD B 0)) L.length L.length] 280)=W3 at*;obtain⟨M,a4⟩:∃v,v=List.replicate L.length (Value.slice none 0 0):=⟨_,rfl⟩;rw[<-a4]at GS;clear a4;have x2:=zm (j:=2) GS.1.qn rfl;have xl:=Ag GS.1.qn;go_wp2_with fail;clear x2 xl;go_loopw [31] (λv wr=>∃(m:Nat) (U:Nat->Value) (f:LV),m<=K.length/\v=.int .i64 m/\Af (oP w lo sb nb d z y B W L.length t c L (.string base) (.slice G L.length c1) (.slice Y K.length Q) (.slice N S.length R) (.slice H E.length T) U (zz0 (K.take m)) (λj=>decide ((j:Int)∈E.take 0)) (λj=>decide (j<0)&&Rj (Hx L j).duty) 0 f M wr)) (λv _=>K.length-(intOf v).toNat)
 case atStart=>exact⟨0,_,_,Bg _,rfl,GS⟩
 obtain⟨m,U,f,hm,rfl,S1⟩:=hrel;obtain⟨w3,j0⟩:∃v:Wd,v=wr:=⟨_,rfl⟩;subst j0;by_cases c9:m<K.length
 rotate_left
 . obtain rfl:m=K.length:=by omega
   have S2:=I (show oP w lo sb nb d z y B W L.length t c L (.string base) (.slice G L.length c1) (.slice Y K.length Q) (.slice N S.length R) (.slice H E.length T) U (zz0 K) (λj=>decide ((j:Int)∈E.take 0)) (λj=>decide (j<0)&&Rj (Hx L j).duty) 0 f M w3 from by have h:=S1.1;rw[List.take_length]at h;exact h);have x4:=zm (j:=4) S2.1.qn rfl;have xl:=Ag S2.1.qn;clear S1 GS hm;go_wp2_with fail;clear x4 xl;go_loopw [61] (λv wr=>∃m:Nat,m<=E.length/\v=.int .i64 m/\Af (oP w lo sb nb d z y B W L.length t c L (.string base) (.slice G L.length c1) (.slice Y K.length Q) (.slice N S.length R) (.slice H E.length T) U (zz0 K) (λj=>decide ((j:Int)∈E.take m)) (λj=>decide (j<0)&&Rj (Hx L j).duty) 0 f M wr)) (λv _=>E.length-(intOf v).toNat)
   case atStart=>exact⟨0,Bg _,rfl,S2⟩
   obtain⟨m,hm,rfl,S3⟩:=hrel;obtain⟨w4,j1⟩:∃v:Wd,v=wr:=⟨_,rfl⟩;subst j1;clear S2;by_cases a6:m<E.length
   rotate_left
   . obtain rfl:m=E.length:=by omega
     have S4:=I (show oP w lo sb nb d z y B W L.length t c L (.string base) (.slice G L.length c1) (.slice Y K.length Q) (.slice N S.length R) (.slice H E.length T) U (zz0 K) (λj=>decide ((j:Int)∈E)) (λj=>decide (j<0)&&Rj (Hx L j).duty) 0 f M w4 from by have h:=S3.1;rw[List.take_length]at h;exact h);have x1:=zm (j:=1) S4.1.qn rfl;have xl:=Ag S4.1.qn;clear S3 hm;go_wp2_with fail;clear x1 xl;go_loopw [75] (λv wr=>∃(k:Nat) (Z:LV),k<=L.length/\v=.int .i64 k/\Af (oP w lo sb nb d z y B W L.length t c L (.string base) (.slice G L.length c1) (.slice Y K.length Q) (.slice N S.length R) (.slice H E.length T) U (zz0 K) (λj=>decide ((j:Int)∈E)) (λj=>decide (j<k)&&Rj (Hx L j).duty) k f Z wr)) (λv _=>L.length-(intOf v).toNat)
     case atStart=>exact⟨0,M,Bg _,rfl,S4⟩
     obtain⟨k,Z,hk,rfl,S5⟩:=hrel;obtain⟨w5,j2⟩:∃v:Wd,v=wr:=⟨_,rfl⟩;subst j2;clear S4;by_cases b9:k<L.length
     rotate_left
     . obtain rfl:k=L.length:=by omega
       go_wp2;go_ret;exact⟨W,lo,nb,d,z,y,B,U,f,Z,rfl,S5.1⟩
     have l1:(k:Int)<(L.length:Int):=by omega
     obtain⟨g,o,rfl,hg,hc⟩:=h6.1.cells (by omega);obtain⟨da,dc,z0,z1,z2,z3,z4,z5,z6,c4,d0⟩:=hc k b9;obtain⟨x,hx⟩:∃x,x=Hx L k:=⟨_,rfl⟩;have hd:=HD.1 k b9;rw[<-hx]at z0 z1 z2 z3 z4 z5 z6 c4 d0 hd;replace z0:=zD z0 hg S5.1.bel;replace z1:=zD z1 hg S5.1.bel;replace z2:=zD z2 hg S5.1.bel;replace z3:=zD z3 hg S5.1.bel;replace z4:=zD z4 hg S5.1.bel;replace z5:=zD z5 hg S5.1.bel;replace z6:=zD z6 hg S5.1.bel;replace hg:=As hg S5.1.bel.size;have HX:=I hx;have j3:=I hd;have T1:=I d0;clear hc hx hd d0;go_upto_region 16 with fail
     have b2:=I (S5.1.call (J w5 (Obj.cells #[.slice da x.duty.length dc,x.rep,x.rel,.string x.src,.string x.dst,x.cost,x.cred] 50)));have T2:=I (T1.1.below b2.1.bel);have q1:=zh w5 (Obj.cells #[.slice da x.duty.length dc,x.rep,x.rel,.string x.src,.string x.dst,x.cost,x.cred] 50);obtain⟨F,a2⟩:∃F,F=w5.heap.size:=⟨_,rfl⟩;rw[<-a2]at q1;simp only[<-a2];have d7:=I (show lo<=F by have:=S5.1.sz;omega);have QX:=I q1;clear z0 z1 z2 z3 z4 z5 z6 a2 S5 q1;generalize w5.alloc (Obj.cells #[.slice da x.duty.length dc,x.rep,x.rel,.string x.src,.string x.dst,x.cost,x.cred] 50)=m6 at*;have g8:=zm (j:=8) b2.1.qg rfl;have gl:=Ag b2.1.qg;have y0:=zm (j:=0) QX.1 rfl;have yl:=Ag QX.1;refine' lK [⟨80, [],.kn _⟩,⟨81, [80],.kn _⟩,⟨82, [81],.kn _⟩,⟨83, [82],.kn _⟩,⟨84, [],.kn _⟩,⟨85, [],.kn _⟩,⟨86, [85],.kn _⟩,⟨87, [86],.kn (.bool (Rj x.duty))⟩] [6,11,12] [83,84,87] (λ_ h=>aI (zD g8 gl h) (aI (zD y0 yl h) (aI (As gl h.size) (As yl h.size)))) ?h1 ?c1 ?f1
     case h1=>
      intro u;simp only[Df,Jm,↓reduceIte,Nat.reduceEqDiff];intros
      and_intros
      all_goals try (first|trivial|(intros;refine Fy (by assumption) ?_;go_simp <;> rfl))
      intro A w9 e hb g f1 Kx k2;clear g;go_simp;refine ca (WV x.duty da dc w9 c4 (T2.1.below hb)) λj4 h=>?_;exact k2.1 _ _ ⟨h,rfl⟩
     case c1=>kernel_rfl
     intro u w6 hb;simp only[Df,Hu,Jm,Act.put,O,↓reduceIte,Nat.reduceEqDiff];rintro e1 e2 e3;rw[e1,e2,e3];have a8:=I (b2.1.call hb);have f8:=jT QX hb;obtain⟨bq,s0,s1,s2⟩:=a8.1.qo.cell b9
     have S7:=I (a8.1.setO (i:=k) (b:=Rj x.duty) (f':=λj=>decide (j<k+1)&&Rj (Hx L j).duty) (λj=>by
      by_cases e:j=k
      . subst e;simp[HX.1]
      rw[iN e];congr 1
      exact decide_eq_decide.2 (by omega)))
     have j5:=I (show F≠y/\y<lo by have:=a8.1.ord;have:=d7.1;omega);have f9:=I ((Below.heap_setCell w6 (aD y k) (.bool (Rj x.duty)) F j5.1.1).trans f8.1);have j6:=D_ a8.1.qg;have j7:=Ag a8.1.qg;clear hb e1 e2 e3 g8 gl y0 yl b2 a8 T2 QX f8;go_simp;go_upto_region 17 with fail
     generalize w6.setCell (aD y k) (.bool (Rj x.duty))=j8 at*;obtain⟨w6,j9⟩:∃v:Wd,v=j8:=⟨_,rfl⟩;subst j9;have S6:=S7;have T3:=I (T1.1.below S6.1.bel);have g9:=zm (j:=9) S6.1.qg rfl;have gl:=Ag S6.1.qg;have y0:=zm (j:=0) f9.1 rfl;have yl:=Ag f9.1;clear s0 s1 s2 j6 j7 S7;refine' lK [⟨89, [],.kn _⟩,⟨90, [89],.kn _⟩,⟨91, [90],.kn _⟩,⟨92, [91],.kn _⟩,⟨93, [],.kn _⟩,⟨94, [],.kn _⟩,⟨95, [],.kn _⟩,⟨96, [95],.kn _⟩,⟨97, [94,96],.ow (DvT t c x.duty w6.heap.size) (λ_ _ _=>DvT.call)⟩] [0,6,11,12] [92,93,97] (λ_ h=>aI (zD g9 gl h) (aI (zD y0 yl h) (aI (As gl h.size) (As yl h.size)))) ?h2 ?c2 ?f2
     case h2=>
      intro u;simp only[Df,Jm,↓reduceIte,Nat.reduceEqDiff];intros
      and_intros
      all_goals try (first|trivial|(intros;refine Fy (by assumption) ?_;go_simp <;> rfl))
      intro A w9 e hb g f1 f2 Kx k2;clear g;go_simp;refine(zAa w9 sb t c P (HS.1.below (Ab S6.1.bel hb)) x.duty da dc j3.1 (T3.1.below hb)).mono ?_;rintro e' j4 ⟨b,d8,rfl,hI,h⟩;exact k2.1 _ _ ⟨h,b,rfl,Bf hb.size d8,hI.lt (by simp[Bo]),hI⟩
     case c2=>kernel_rfl
     intro u w8 hb;simp only[Df,Hu,Jm,Act.put,O,↓reduceIte,Nat.reduceEqDiff];rintro e1 e2 ⟨b,e3,d8,g0,hI⟩;rw[e1,e2,e3];have S8:=I (S6.1.call hb);have lv:=S8.1.lv;have v1:=zm (j:=k) S8.1.qv (show Z.toArray[k]?=some (Z[k]'(by omega)) by simp);have v2:=zQ (j:=k) S8.1.qv;have v3:=Ag S8.1.qv;have S9:=I (S8.1.val b9 (show lo<=b by have:=S6.1.sz;omega) g0 (by rw[<-HX.1];exact hI) (λj e=>by have:=(S6.1.rows.lt e).2;omega));clear e1 e2 e3 hb d8 g0 hI g9 gl y0 yl S6 S8 T3;go_simp;go_wp2;go_roundw
     case rel=>exact⟨k+1,_,by omega,by go_num,S9⟩
     case measure=>simp[intOf];omega
   have l2:(m:Int)<(E.length:Int):=by omega
   obtain⟨g,o,rfl,hg,hc⟩:=(i1.1.below S3.1.bel).resolve_left (λh=>by rw[h]at a6;exact aB a6 (Nat.not_lt_zero m));have c0:=hc m a6;rw[zAX a6]at c0;have hr:=i3.1 _ (gM a6);obtain⟨i,hi⟩:∃i:Nat,E[m]=i:=⟨E[m].toNat,by omega⟩;rw[hi]at c0 hr;have HI:=I hi;have b3:i<L.length:=by omega
   have g2:(i:Int)<(L.length:Int):=by omega
   obtain⟨bq,e0,e1,e2⟩:=S3.1.qe.cell b3;have g7:=D_ S3.1.qg;have gl:=Ag S3.1.qg
   have S4:=I (S3.1.setE (i:=i) (b:=true) (f':=λj=>decide ((j:Int)∈E.take (m+1))) (λj=>by
    rw[tS a6,hi];by_cases e:j=i
    . subst e;simp
    have:¬ (j:Int)=(i:Int):=by omega
    simp[e,this]))
   clear hc hi S3;go_wp2;go_roundw
   case rel=>exact⟨m+1,by omega,by go_num,S4⟩
   case measure=>simp[intOf];omega
 have l3:(m:Int)<(K.length:Int):=by omega
 obtain⟨g,o,rfl,hg,hc⟩:=(h8.1.below S1.1.bel).cells (by omega);obtain⟨c0,g3,g4⟩:=hc m c9;obtain⟨x,hx⟩:∃x,x=PB K m:=⟨_,rfl⟩;have hr:=i2.1 m c9;rw[<-hx]at c0 g3 g4 hr;obtain⟨i,hi⟩:∃i:Nat,x.i=i:=⟨x.i.toNat,by omega⟩;rw[hi]at c0 hr;have HX:=I hx;have HI:=I hi;have b3:i<L.length:=by omega
 have g2:(i:Int)<(L.length:Int):=by omega
 clear hc hx hi;go_upto_region 6 with fail
 have S2:=I (S1.1.call (J w3 (Obj.cells #[.int .i64 (i:Nat),x.k,x.cost] 144)));have q1:=zh w3 (Obj.cells #[.int .i64 (i:Nat),x.k,x.cost] 144);obtain⟨F,a2⟩:∃F,F=w3.heap.size:=⟨_,rfl⟩;rw[<-a2]at q1;simp only[<-a2];have k0:=S1;have d7:=I (show w3.heap.size<=F by omega);clear c0 g3 g4 a2 S1 GS;generalize w3.alloc (Obj.cells #[.int .i64 (i:Nat),x.k,x.cost] 144)=w4 at*;have k1:=I S2.1.qg;have d9:=I q1;obtain⟨qn,c6⟩:∃qn,qn=(zz0 (K.take m) i).length:=⟨_,rfl⟩;have ow:=S2.1.rows.own i;unfold zCY at ow
 rw[<-c6]at ow;have m7:qn<=1000000:=by
  rw[c6];have:=zA7 (K.take m) i;have h2:(K.take m).length<=K.length:=by rw[List.length_take];omega
  omega
 have k3:=I c6
 have g5:=I (show(U i).ownBlock≠some F from λe=>by
  have h1:=(k0.1.rows.lt e).2;have h2:=d7.1;omega)
 clear q1 c6;obtain⟨i0,k4,k5,k6,k7⟩:=info_parts zBm.info;have a9:=I (dr w4 1);have b4:=I (S2.1.call a9.1);have X:=I (show(λD:Wd=>D.heap[W]?=some (zAl sb (.string base) (.slice G L.length c1) (.slice (some (aD g o)) K.length Q) (.slice N S.length R) (.slice H E.length T) L.length d z y B)/\D.heap[F]?=some (Obj.cells #[.int .i64 (i:Nat),x.k,x.cost] 144)/\D.heap[d]?=some (.cells f.toArray 283 (0,0))) w4.drew from⟨Ac a9.1 k1.1,Ac a9.1 d9.1,b4.1.qs⟩);have h0:w4.drew.ownsRow lo 285 2 (U i) qn ((zz0 (K.take m) i).map stC).flatten:=zz3 ow (jR.of a9.1);refine aE λA0 hA0=>?_
 have a:A0.tmps.size=101:=by rw[hA0];rfl
 have h4:=I hA0;have c4:([(6,.pointer (some (aD W 0))),(8,.pointer (some (aD F 0)))]:List (Nat×Value)).map (λp=>fr A0 p.1)=([(6,.pointer (some (aD W 0))),(8,.pointer (some (aD F 0)))]:List (Nat×Value)).map Prod.snd:=by rw[hA0];rfl
 clear hA0;refine zCP (λD:Wd=>D.heap[W]?=some (zAl sb (.string base) (.slice G L.length c1) (.slice (some (aD g o)) K.length Q) (.slice N S.length R) (.slice H E.length T) L.length d z y B)/\D.heap[F]?=some (Obj.cells #[.int .i64 (i:Nat),x.k,x.cost] 144)/\D.heap[d]?=some (.cells f.toArray 283 (0,0))) [22] [(6,.pointer (some (aD W 0))),(8,.pointer (some (aD F 0)))] a c4 ?_;refine rxQ 0 35 (.pointer (some (aD W 0))) rfl a ?_;refine rxQ 1 36 (.pointer (some (aD W 0))) rfl a ?_;refine rxQ 2 37 (.pointer (some (aD W 6))) rfl a ?_;refine rxT 3 38 (.slice (some (aD d 0)) L.length L.length) [[]] rfl a X.1 ?_ ?_
 . intro A D e C;obtain⟨m8,m9,n0⟩:=e.at (t:=37) (V:=.pointer (some (aD W 6))) rfl;have g6:=zm (j:=6) C.1 rfl;have gl:=Ag C.1;clear e;go_simp
 refine rxQ 4 39 (.pointer (some (aD F 0))) rfl a ?_;refine rxT 5 40 (.int .i64 (i:Nat)) [[]] rfl a X.1 ?_ ?_
 . intro A D e C;obtain⟨n1,n2,n3⟩:=e.at (t:=39) (V:=.pointer (some (aD F 0))) rfl;have g6:=zm (j:=0) C.2.1 rfl;have gl:=Ag C.2.1;clear e;go_simp
 refine rxQ 6 41 (.pointer (some (aD W 0))) rfl a ?_;refine rxQ 7 42 (.pointer (some (aD W 0))) rfl a ?_;refine rxQ 8 43 (.pointer (some (aD W 6))) rfl a ?_;refine rxT 9 44 (.slice (some (aD d 0)) L.length L.length) [[]] rfl a X.1 ?_ ?_
 . intro A D e C;obtain⟨n4,n5,n6⟩:=e.at (t:=43) (V:=.pointer (some (aD W 6))) rfl;have g6:=zm (j:=6) C.1 rfl;have gl:=Ag C.1;clear e;go_simp
 refine rxQ 10 45 (.pointer (some (aD F 0))) rfl a ?_;refine rxT 11 46 (.int .i64 (i:Nat)) [[]] rfl a X.1 ?_ ?_
 . intro A D e C;obtain⟨n7,n8,n9⟩:=e.at (t:=45) (V:=.pointer (some (aD F 0))) rfl;have g6:=zm (j:=0) C.2.1 rfl;have gl:=Ag C.2.1;clear e;go_simp
 refine rxT 12 47 (.pointer (some (aD d i))) [[]] rfl a X.1 ?_ ?_
 . intro A D e C;obtain⟨o0,o1,o2⟩:=e.at (t:=44) (V:=.slice (some (aD d 0)) L.length L.length) rfl;obtain⟨o3,o4,o5⟩:=e.at (t:=46) (V:=.int .i64 (i:Nat)) rfl;clear e;go_simp
 refine rxT 13 48 (U i) [[]] rfl a X.1 ?_ ?_
 . intro A D e C;obtain⟨o6,o7,o8⟩:=e.at (t:=47) (V:=.pointer (some (aD d i))) rfl;have g6:=zm (j:=i) C.2.2 (show f.toArray[i]?=some (U i) by simpa using S2.1.sv i b3);have gl:=Ag C.2.2;clear e;go_simp
 refine rxQ 14 49 (.pointer (some (aD F 1))) rfl a ?_;refine rxT 15 50 (.int .i64 x.k) [[]] rfl a X.1 ?_ ?_
 . intro A D e C;obtain⟨o9,p0,p1⟩:=e.at (t:=49) (V:=.pointer (some (aD F 1))) rfl;have g6:=zm (j:=1) C.2.1 rfl;have gl:=Ag C.2.1;clear e;go_simp
 refine rxQ 16 51 (.pointer (some (aD F 2))) rfl a ?_;refine rxT 17 52 (.int .i64 x.cost) [[]] rfl a X.1 ?_ ?_
 . intro A D e C;obtain⟨p2,p3,p4⟩:=e.at (t:=51) (V:=.pointer (some (aD F 2))) rfl;have g6:=zm (j:=2) C.2.1 rfl;have gl:=Ag C.2.1;clear e;go_simp
 refine rxT 18 53 (.agg #[x.k,x.cost]) [[]] rfl a X.1 ?_ ?_
 . intro A D e C;obtain⟨p5,p6,p7⟩:=e.at (t:=50) (V:=.int .i64 x.k) rfl;obtain⟨p8,p9,q0⟩:=e.at (t:=52) (V:=.int .i64 x.cost) rfl;clear e;go_simp
 refine rxO 19 54 rfl a (λA e Kx hK=>?_);obtain⟨l,r,s⟩:=e.at (t:=53) (V:=.agg #[x.k,x.cost]) rfl;clear e;go_simp;refine hK.1 _ _ (λ_ h=>⟨Ac (J _ _) h.1,Ac (J _ _) h.2.1,Ac (J _ _) h.2.2⟩) ?_;clear hK A Kx l r s;refine rxO 20 55 rfl a (λA e Kx hK=>?_);refine wp_append_lies _ (.tmp 48) (.tmp 54) 283 rfl lo 285 i0 (.agg #[.int .i64 0,.int .i64 0]) 2 16 zBm.ht k4 k5 k6 k7 zBm.zs zBm.pos (U i) qn ((zz0 (K.take m) i).map stC).flatten ((e.1 48).trans rfl) (h0.alloc _) (aD w4.drew.heap.size 0) 1 1 [.int .i64 x.k,.int .i64 x.cost] ((e.1 54).trans rfl) rfl (Hh w4.drew [.int .i64 x.k,.int .i64 x.cost] 285) (by intro u hu;simp at hu;rcases hu with rfl|rfl <;> rfl) (by decide) (by unfold maxLen;omega) (by omega) (Bf b4.1.sz (J _ _).size) (w4.drew.heap.size+1) (by simp) ?_;intro g1 k8 w5 hO hG hA _;have SL:=b4.1.link (x:=(x.k,x.cost)) b3 k3.1.symm hG hO hA;have q6:=b4.1.grG hG;have q7:w5.heap[F]?=some (Obj.cells #[.int .i64 (i:Nat),x.k,x.cost] 144):=(hG.block F (As (Ag (Ac a9.1 d9.1)) (J _ _).size) (λh=>g5.1 h.symm)).trans (Ac (J _ _) (Ac a9.1 d9.1));have b0:=I (show(λD:Wd=>D.heap[W]?=some (zAl sb (.string base) (.slice G L.length c1) (.slice (some (aD g o)) K.length Q) (.slice N S.length R) (.slice H E.length T) L.length d z y B)/\D.heap[F]?=some (Obj.cells #[.int .i64 (i:Nat),x.k,x.cost] 144)/\D.heap[d]?=some (.cells f.toArray 283 (0,0))) w5 from⟨q6,q7,SL.1⟩);have S3:=I SL.2;refine hK.1 _ _ (λ_ _=>b0.1) ?_;clear hK e A Kx hO hG hA SL q6 q7;refine rxT 21 56 (.pointer (some (aD d i))) [[]] rfl a b0.1 ?_ ?_
 . intro A D e C;obtain⟨q2,q3,q4⟩:=e.at (t:=38) (V:=.slice (some (aD d 0)) L.length L.length) rfl;obtain⟨q5,q8,q9⟩:=e.at (t:=40) (V:=.int .i64 (i:Nat)) rfl;clear e;go_simp
 refine rxS 22 rfl a (λA e Kx hK=>?_);obtain⟨l,r,s⟩:=e.at (t:=56) (V:=.pointer (some (aD d i))) rfl;obtain⟨f4,f5,f6⟩:=e.at (t:=55) (V:=.slice (some (aD g1 0)) (qn+1) k8) rfl;have s1:=zm (j:=i) b0.1.2.2 (show f.toArray[i]?=some (U i) by simpa using S2.1.sv i b3);have f1:=zQ (j:=i) b0.1.2.2;have k9:=Ag b0.1.2.2;clear e;go_simp;refine hK.1 _ (λh=>aB (by decide) h) ?_;clear hK A Kx l r s f4 f5 f6 s1 f1 k9 b0 X h0 ow b4;refine zCQ ?_;rw[h4.1];simp only[Dj,Act.put,O];clear h4 a
 have l0:=I (show updS (zz0 (K.take m)) i (zz0 (K.take m) i++ [(x.k,x.cost)])=zz0 (K.take (m+1)) from funext λj=>by
  rw[show K.take (m+1)=K.take m++ [x] by rw[HX.1,PB,Cr,Cz c9];simp,zBI,HI.1];unfold updS
  by_cases e:j=i
  . rw[iP e,iP (by rw[e]),e]
  rw[iN e,iN (by omega)])
 go_wp2;go_roundw
 case rel=>exact⟨m+1,_,_,by omega,by go_num,I (by have h:=S3.1;rw[l0.1]at h;exact h)⟩
 case measure=>simp[intOf];omega
def zzY(f:Nat->Bool)(i:Nat):Nat:=if f i=true then 1 else 0
theorem zB0(f:Nat->Bool)(i:Nat):zzY f i<2:=by unfold zzY;split <;> decide
def zA6(q:LI)(j:Nat)(x:Int):LI:=q.set j (wrap64 (Am q j+x))
theorem zA1(q:LI)(j:Nat)(x:Int):(zA6 q j x).length=q.length:=by simp[zA6]
def zAn(fO:Nat->Bool)(S:LI)(q:LI):LI:=S.foldl (λq s=>zA6 q (s.toNat*2+zzY fO s.toNat) 1) q
def zAR(fO:Nat->Bool)(x0 x1:Int)(st:List (Int×Int))(q:LI):LI:=st.foldl (λq p=>zA6 (zA6 q (p.1.toNat*2+zzY fO p.1.toNat) x0) (p.1.toNat*2+1) x1) q
def rowQ(fO:Nat->Bool)(Q:Nat->List (Int×Int))(now:LI)(i:Nat)(q:LI):LI:=if Am now (i*2)=0/\Am now (i*2+1)=0 then q else zAR fO (Am now (i*2)) (Am now (i*2+1)) (Q i) q
def zAh(n:Nat):LI:=List.replicate (n*2) 0
def zz6(n:Nat)(fO:Nat->Bool)(Q:Nat->List (Int×Int))(now:LI):Nat->LI
 |0=>zAh n
 |i+1=>rowQ fO Q now i (zz6 n fO Q now i)
def totQ(fE:Nat->Bool)(now:LI)(z:Int):Nat->Int
 |0=>z
 |i+1=>if fE i=true then wrap64 (totQ fE now z i+Am now (i*2+1)) else totQ fE now z i
def cntQ(n:Nat)(S:LI)(Q:Nat->List (Int×Int))(fE fO:Nat->Bool):Nat->List Int×Int
 |0=>(zAn fO S (zAh n),0)
 |k+1=>(zz6 n fO Q (cntQ n S Q fE fO k).1 n,totQ fE (cntQ n S Q fE fO k).1 (cntQ n S Q fE fO k).2 n)
def cntP(n:Nat)(S:LI)(Q:Nat->List (Int×Int))(fE fO:Nat->Bool):Int:=(cntQ n S Q fE fO 6).2
theorem zAQ(a:Nat->Bool)(b c:Int):∀(st:List (Int×Int)) (q:LI),(zAR a b c st q).length=q.length
 |[],q=>rfl
 |p::st,q=>by
  show(zAR a b c st _).length=_
  rw[zAQ a b c st,zA1,zA1]
theorem zAq(a:Nat->Bool):∀(S q:LI),(zAn a S q).length=q.length
 |[],q=>rfl
 |s::S,q=>by
  show(zAn a S _).length=_
  rw[zAq a S,zA1]
theorem zBK(a:Nat->Bool)(S:LI)(s:Int)(q:LI):zAn a (S++ [s]) q=zA6 (zAn a S q) (s.toNat*2+zzY a s.toNat) 1:=by
 unfold zAn;rw[List.foldl_append];rfl
theorem zB1(a:Nat->Bool)(b c:Int)(d:List (Int×Int))(p:Int×Int)(q:LI):zAR a b c (d++ [p]) q=zA6 (zA6 (zAR a b c d q) (p.1.toNat*2+zzY a p.1.toNat) b) (p.1.toNat*2+1) c:=by
 unfold zAR;rw[List.foldl_append];rfl
theorem zAk(n:Nat)(b:Nat->Bool)(Q:Nat->List (Int×Int))(a:LI):∀i,(zz6 n b Q a i).length=n*2
 |0=>by simp[zz6,zAh]
 |i+1=>by
  rw[zz6,rowQ];split
  . exact zAk n b Q a i
  rw[zAQ];exact zAk n b Q a i
def BP(w:Wd)(b:Nat)(q:LI):Prop:=w.heap[b]?=some (.cells (q.map (Value.int .i64)).toArray 281 (0,0))
theorem BP.call(h:BP w b q)(a:Bw w w'):BP w' b q:=Ac a h
theorem BP.cell(h:BP w b q)(a:j<q.length):w.cell? (aD b j)=some (Bn (Am q j))/\w.frozen? (aD b j)=false/\b<w.heap.size:=⟨zm h (by simp[Am,Cr,Cz a,a]),zQ h,Ag h⟩
theorem BP.set(h:BP w b q)(j:Nat)(x:Int):BP (w.setCell (aD b j) (Bn x)) b (q.set j x):=by
 unfold BP;rw[zg h];simp
theorem zCT(v:Value)(n:Nat):madeCells #[v,v] n=(List.replicate n v).toArray:=by
 apply Array.ext;simp[size_madeCells];intro i b c;have a:i%2=0\/i%2=1:=by omega
 rcases a with h|h <;> simp[madeCells,h]
theorem zCS(n:Nat)(g:n<=1000)(w:Wd):(Instr.makeSlice 277 (Bn (n:Int)) (Bn (n:Int))).run prog w=.ok (Hy w.heap.size 0 n n) (w.alloc (.cells ((zAh n).map (Value.int .i64)).toArray 281)):=by
 obtain⟨e,f,a,b,c⟩:=info_parts (show(prog.info? 281).map (λi=>(i.zero,i.size,i.bytes))=some (some (.agg #[Bn 0,Bn 0]),2,16) by kernel_rfl);have d:=run_make (P:=prog) w 277 281 e _ underlying277 f a .i64 .i64 n n (by omega) (Int.le_refl _) (by rw[c];omega) (by omega);simp only[Int.toNat_natCast,b]at d;rw[show(Value.agg #[Bn 0,Bn 0]).cells=#[Bn 0,Bn 0] from rfl,zCT]at d;rw[d];simp[zAh]
theorem zBy{x:Wd}{y o p q s:Nat}{t:At}{c:Ad}{L:List Sd}{z h:Nat->Bool}{A:Nat}{b k:LV}(u:oP x lo sb y o p a q s L.length t c L v0 v1 v2 v3 v4 U Q z h A b k w)(i:Nat)(v:i<L.length)(G:L.length<=1000):CV 197 #[hZ s 0,Bn (i:Nat)] w ((zzY h i:Nat):Int):=by
 have f:=I u;have B:(i:Int)<(L.length:Int):=by omega
 cases g:h i
 . have m:=I (show zzY h i=0 by unfold zzY;rw[g];rfl);rw[m.1];have C:=zm (j:=8) f.1.qg rfl;have D:=Ag f.1.qg;obtain⟨l,r,n,d⟩:=f.1.qo;have E:w.cell? (aD a i)=some (.bool false):=zm d (by have:=n i v;rw[g]at this;simpa using congrArg (Option.map Value.bool) this);have F:=Ag d;delta CV;go_in;go_wp2;go_ret;exact⟨rfl,An _ _⟩
 have m:=I (show zzY h i=1 by unfold zzY;rw[g];rfl);rw[m.1];have C:=zm (j:=8) f.1.qg rfl;have D:=Ag f.1.qg;obtain⟨l,r,n,d⟩:=f.1.qo;have E:w.cell? (aD a i)=some (.bool true):=zm d (by have:=n i v;rw[g]at this;simpa using congrArg (Option.map Value.bool) this);have F:=Ag d;delta CV;go_in;go_wp2;go_ret;exact⟨rfl,An _ _⟩
theorem zA5{w0:Wd}{nb i4 f6 i5 i6 gb:Nat}{t:At}{c:Ad}{L:List Sd}{K d:Nat->Bool}{kv:Nat}{a0 f7:LV}(hG:oP w0 lo sb nb i4 f6 i5 i6 gb L.length t c L v0 v1 v2 v3 v4 U Q K d kv a0 f7 w)(S:LI)(a5:Ae)(c5:Nat)(i7:v3=.slice a5 S.length c5)(hS:zW w a5 S)(hn:L.length<=1000)(m6:S.length<=1000000)(f8:∀x∈S,0<=x/\x<(L.length:Int))(f9:∀i,(Q i).length<=1000000)(g0:∀i,∀p∈Q i,0<=p.1/\p.1<(L.length:Int)):
 CV 133 #[.pointer (some (aD gb 0))] w (cntP L.length S Q K d):=by
 subst i7;have R:=I hG;have HS:=I hS;have i8:=I f8;have i9:=I f9;have j0:=I g0;clear hG hS f8 f9 g0;have mk:=zCS L.length hn;have g4:=zm (j:=4) R.1.qg rfl;have g6:=zm (j:=6) R.1.qg rfl;have gl:=Ag R.1.qg;go_enter func133,ntmps133
 go_upto_region 2 with fail
 have a6:=I (J w (.cells ((zAh L.length).map (Value.int .i64)).toArray 281));have c6:=I (show BP (w.alloc (.cells ((zAh L.length).map (Value.int .i64)).toArray 281)) w.heap.size (zAh L.length) from zh w _);obtain⟨W,c7⟩:∃W,W=w.heap.size:=⟨_,rfl⟩;rw[<-c7]at c6;simp only[<-c7];have g1:=I (show w.heap.size<=W by omega);clear c7;generalize w.alloc (.cells ((zAh L.length).map (Value.int .i64)).toArray 281)=w1 at*;clear g4 g6 gl;have g4:=zm (j:=4) (R.1.call a6.1).qg rfl;have gl:=Ag (R.1.call a6.1).qg;go_wp2_with fail;clear g4 gl;go_loopw [24] (λv wr=>∃m:Nat,m<=S.length/\v=.int .i64 m/\Af (BP wr W (zAn d (S.take m) (zAh L.length)))/\Af (Bw w wr)) (λv _=>S.length-(intOf v).toNat)
 case atStart=>exact⟨0,Bg _,rfl,c6,a6⟩
 obtain⟨m,hm,rfl,Q2,a1⟩:=hrel;obtain⟨w2,j1⟩:∃v:Wd,v=wr:=⟨_,rfl⟩;subst j1;clear c6 a6;by_cases X:m<S.length
 rotate_left
 . obtain rfl:m=S.length:=by omega
   have Q3:=I (show BP w2 W (cntQ L.length S Q K d 0).1 from by have h:=Q2.1;rw[List.take_length]at h;exact h);clear Q2 hm;obtain⟨C,hC⟩:∃C,C=cntQ L.length S Q K d:=⟨_,rfl⟩;rw[<-hC]at Q3;have j2:=I (show(C 0).2=0 by rw[hC];rfl);have j3:=I (show ∀k,C (k+1)=(zz6 L.length d Q (C k).1 L.length,totQ K (C k).1 (C k).2 L.length) by intro k;rw[hC];rfl)
   have j4:=I (show ∀k,(C k).1.length=L.length*2 by
    intro k;rw[hC];cases k with
    |zero=>exact(zAq _ _ _).trans (by simp[zAh])
    |succ k=>exact zAk _ _ _ _ _)
   have HC:=I hC;clear hC;go_wp2_with fail;go_loopw [3,6,40] (λnv tv iv wr=>∃(k nb':Nat),k<=6/\iv=.int .i64 k/\nv=.slice (some (aD nb' 0)) L.length L.length/\tv=.int .i64 (C k).2/\Af (w.heap.size<=nb')/\Af (BP wr nb' (C k).1)/\Af (Bw w wr)) (λ_ _ iv _=>6-(intOf iv).toNat)
   case atStart=>exact⟨0,W,Bg _,rfl,rfl,by rw[j2.1],g1,Q3,a1⟩
   obtain⟨k,nw,hk,rfl,rfl,rfl,m7,Q4,F⟩:=hrel;obtain⟨w3,j5⟩:∃v:Wd,v=wr:=⟨_,rfl⟩;subst j5;clear Q3 a1;by_cases m8:k<6
   rotate_left
   . obtain rfl:k=6:=by omega
     have j6:=I (show(C 6).2=cntP L.length S Q K d by rw[HC.1];rfl);rw[j6.1];go_wp2;go_ret;exact⟨rfl,F.1⟩
   have l7:(k:Int)<6:=by omega
   have g6:=zm (j:=6) (R.1.call F.1).qg rfl;have gl:=Ag (R.1.call F.1).qg;go_upto_region 11 with fail
   have g2:=I (Ab F.1 (J w3 (.cells ((zAh L.length).map (Value.int .i64)).toArray 281)));have Q5:=I (Q4.1.call (J w3 (.cells ((zAh L.length).map (Value.int .i64)).toArray 281)));have A5:=I (show BP (w3.alloc (.cells ((zAh L.length).map (Value.int .i64)).toArray 281)) w3.heap.size (zz6 L.length d Q (C k).1 0) from zh w3 _);have Y:=I (show w.heap.size<=w3.heap.size/\nw<w3.heap.size from⟨F.1.size,Ag Q4.1⟩);obtain⟨r,c8⟩:∃r,r=w3.heap.size:=⟨_,rfl⟩;rw[<-c8]at A5 Y;simp only[<-c8];clear c8 g6 gl Q4 F;generalize w3.alloc (.cells ((zAh L.length).map (Value.int .i64)).toArray 281)=w4 at*;obtain⟨f,a2⟩:∃q,q=(C k).1:=⟨_,rfl⟩;obtain⟨z0,g3⟩:∃z,z=(C k).2:=⟨_,rfl⟩;have g5:f.length=L.length*2:=by rw[a2];exact j4.1 k
   have a7:=I (j3.1 k);rw[<-a2]at Q5 A5 a7;rw[<-g3]at a7 ⊢;have g8:=I g5;clear a2 g3 g5;go_wp2_with fail;go_loopw [6,50] (λtv iv wr=>∃(i:Nat),i<=L.length/\iv=.int .i64 i/\tv=.int .i64 (totQ K f z0 i)/\Af (BP wr r (zz6 L.length d Q f i))/\Af (BP wr nw f)/\Af (Bw w wr)) (λ_ iv _=>L.length-(intOf iv).toNat)
   case atStart=>exact⟨0,Bg _,rfl,rfl,A5,Q5,g2⟩
   obtain⟨i,hi,rfl,rfl,A6,Q6,a8⟩:=hrel;obtain⟨w5,j7⟩:∃v:Wd,v=wr:=⟨_,rfl⟩;subst j7;clear A5 Q5 g2;by_cases g9:i<L.length
   rotate_left
   . obtain rfl:i=L.length:=by omega
     have Q7:=I (show BP w5 r (C (k+1)).1 by rw[a7.1];exact A6.1);have HT:=I (show totQ K f z0 L.length=(C (k+1)).2 by rw[a7.1]);rw[HT.1];go_wp2;go_roundw
     case rel=>exact⟨k+1,r,by omega,by go_num,rfl,rfl,I Y.1.1,Q7,a8⟩
     case measure=>simp[intOf];omega
   have l8:(i:Int)<(L.length:Int):=by omega
   obtain⟨s,c9⟩:∃x,x=Am f (i*2):=⟨_,rfl⟩;obtain⟨B,d0⟩:∃x,x=Am f (i*2+1):=⟨_,rfl⟩;obtain⟨s0,-,sl⟩:=Q6.1.cell (j:=i*2) (by have:=g8.1;omega);obtain⟨s1,-,-⟩:=Q6.1.cell (j:=i*2+1) (by have:=g8.1;omega);rw[<-c9]at s0;rw[<-d0]at s1;have d1:=I c9;have a9:=I d0;clear c9 d0;go_upto_region 14 with fail
   have M:=jS a8 (J w5 (oQ2 s B));have A7:=I (A6.1.call (J w5 (oQ2 s B)));have Q7:=I (Q6.1.call (J w5 (oQ2 s B)));have X7:=zh w5 (oQ2 s B);have j8:W<w5.heap.size\/True:=.inr trivial;have d2:=I (show r<w5.heap.size/\nw<w5.heap.size/\w.heap.size<=w5.heap.size from⟨Ag A6.1,Ag Q6.1,a8.1.size⟩);obtain⟨xb,d3⟩:∃xb,xb=w5.heap.size:=⟨_,rfl⟩;rw[<-d3]at X7 d2;simp only[<-d3];have N:=I X7;clear d3 j8 X7 s0 s1 sl A6 Q6 a8;generalize w5.alloc (oQ2 s B)=w6 at*;have g7:=zm (j:=7) (R.1.call M.1).qg rfl;have gl:=Ag (R.1.call M.1).qg;obtain⟨l,l1,l2,l3⟩:=(R.1.call M.1).qe;have c0:w6.cell? (aD f6 i)=some (.bool (K i)):=zm l3 (by have:=l2 i g9;simpa using congrArg (Option.map Value.bool) this);have cl:=Ag l3;clear l1 l2 l3;go_upto_if 61 with(fail)
   clear g7 gl c0 cl;go_cut [6] (λtv wx=>tv=.int .i64 (totQ K f z0 (i+1))/\wx=w6)
   case first=>
    cases hf:K i
    . have HT:=I (show totQ K f z0 (i+1)=totQ K f z0 i by rw[totQ,hf];rfl);clear hf;go_wp2;go_meet
      case rel=>exact⟨by rw[HT.1],rfl⟩
    have HT:=I (show totQ K f z0 (i+1)=wrap64 (totQ K f z0 i+B) by rw[totQ,hf,a9.1];rfl);have b1:=zm (j:=1) N.1 rfl;have bl:=Ag N.1;clear hf;go_wp2;go_meet
    case rel=>exact⟨by rw[HT.1],rfl⟩
   obtain⟨rfl,rfl⟩:=hcut;obtain⟨w6,j9⟩:∃v:Wd,v=wc:=⟨_,rfl⟩;subst j9;have b0:=zm (j:=0) N.1 rfl;have b1:=zm (j:=1) N.1 rfl;have bl:=Ag N.1;by_cases G:s=0/\B=0
   . have HA:=I (show zz6 L.length d Q f (i+1)=zz6 L.length d Q f i by rw[zz6,rowQ,iP (by rw[<-d1.1,<-a9.1];exact G)]);obtain⟨rfl,rfl⟩:=G;go_wp2;go_roundw
     case rel=>exact⟨i+1,by omega,by go_num,rfl,I (by rw[HA.1];exact A7.1),Q7,M⟩
     case measure=>simp[intOf];omega
   have HA:=I (show zz6 L.length d Q f (i+1)=zAR d s B (Q i) (zz6 L.length d Q f i) by rw[zz6,rowQ,iN (by rw[<-d1.1,<-a9.1];exact G),<-d1.1,<-a9.1]);have d4:(s==0&&B==0)=false:=by
    cases h0:(s==0)
    . rfl
    cases h1:(B==0)
    . rfl
    exact aB ⟨by simpa using h0,by simpa using h1⟩ G
   go_upto_region 16 with fail
   go_cut [73] (λcv wx=>cv=.bool false/\wx=w6)
   case first=>
    by_cases h0:s=0
    . have h1:(B==0)=false:=by
       cases h:(B==0)
       . rfl
       exact aB ⟨h0,by simpa using h⟩ G
      have k0:(s==0)=true:=by simp[h0]
      clear h0 G d4;go_wp2;go_meet
      case rel=>exact⟨rfl,rfl⟩
    have k0:(s==0)=false:=by simpa using h0
    clear h0 G d4;go_wp2;go_meet
    case rel=>exact⟨rfl,rfl⟩
   obtain⟨rfl,rfl⟩:=hcut;obtain⟨w7,k1⟩:∃v:Wd,v=wc:=⟨_,rfl⟩;subst k1;clear b0 b1 bl G d4;have P:=R.1.call M.1;have g6:=zm (j:=6) P.qg rfl;have gl:=Ag P.qg;have h4:=zm (j:=i) P.qs (show a0.toArray[i]?=some (U i) by simpa using P.sv i g9);have k3:=Ag P.qs;obtain⟨ua,uc,hU⟩:=Js (P.rows.own i);rw[hU]at h4;have HU:=I hU;have d5:=i9.1 i;clear hU P;go_wp2_with fail;clear g6 gl h4 k3;go_loopw [82] (λv wr=>∃(m:Nat),m<=(Q i).length/\v=.int .i64 m/\Af (BP wr r (zAR d s B ((Q i).take m) (zz6 L.length d Q f i)))/\Af (BP wr nw f)/\Af (wr.heap[xb]?=some (oQ2 s B))/\Af (Bw w wr)) (λv _=>(Q i).length-(intOf v).toNat)
   case atStart=>exact⟨0,Bg _,rfl,I (show BP _ _ (zAR d s B [] _) from A7.1),Q7,N,M⟩
   obtain⟨m,hm,rfl,A8,Q8,h5,b2⟩:=hrel;obtain⟨w8,k4⟩:∃v:Wd,v=wr:=⟨_,rfl⟩;subst k4;clear A7 Q7 N M;by_cases b3:m<(Q i).length
   rotate_left
   . obtain rfl:m=(Q i).length:=by omega
     have A9:=I (show BP w8 r (zz6 L.length d Q f (i+1)) from by have h:=A8.1;rw[List.take_length,<-HA.1]at h;exact h);go_wp2;go_roundw
     case rel=>exact⟨i+1,by omega,by go_num,rfl,A9,Q8,b2⟩
     case measure=>simp[intOf];omega
   have l9:(m:Int)<((Q i).length:Int):=by omega
   obtain⟨a',m0,e',-,-,h6⟩:=Sw ((R.1.call b2.1).rows.own i);rw[HU.1]at e';cases e';obtain⟨sg,rfl,-,k5,d6⟩:=h6.resolve_left (by omega);obtain⟨p,hp⟩:∃p,p=(Q i)[m]:=⟨_,rfl⟩;have p0:w8.cell? (aD sg (m*2))=some (.int .i64 p.1):=by
    refine d6 _ _ ?_;have h:=Zy (n:=2) ((Q i).map stC) (λc hc=>by obtain⟨y,_,rfl⟩:=List.mem_map.1 hc;rfl) m (by simpa using b3) 0 (by decide);rw[Nat.add_zero]at h;rw[h,hp];simp[stC]
   have p1:w8.cell? (aD sg (m*2+1))=some (.int .i64 p.2):=by
    refine d6 _ _ ?_;have h:=Zy (n:=2) ((Q i).map stC) (λc hc=>by obtain⟨y,_,rfl⟩:=List.mem_map.1 hc;rfl) m (by simpa using b3) 1 (by decide);rw[h,hp];simp[stC]
   have hr:=j0.1 i p (by rw[hp];exact gM b3);obtain⟨a,a3⟩:∃n:Nat,p.1=n:=⟨p.1.toNat,by omega⟩;rw[a3]at p0 hr;have k6:=I a3;have HP:=I hp;have k7:a<L.length:=by omega
   have m1:(a:Int)<(L.length:Int):=by omega
   have k8:=zB0 d a;have h7:((zzY d a:Nat):Int)<2:=by omega
   clear h6 d6 a3 hp;obtain⟨H,E⟩:∃q,q=(zAR d s B ((Q i).take m) (zz6 L.length d Q f i)):=⟨_,rfl⟩;rw[<-E]at A8;have b8:H.length=L.length*2:=by rw[E,zAQ,zAk]
   have d7:=I E;have m2:=I b8;have h8:a*2+zzY d a<H.length:=by omega
   have k9:a*2+1<H.length:=by omega
   clear E b8;go_upto_region 20 with fail
   have d8:=jS b2 (J w8 (oQ1 (a:Nat) p.2));have A9:=I (A8.1.call (J w8 (oQ1 (a:Nat) p.2)));have Q9:=I (Q8.1.call (J w8 (oQ1 (a:Nat) p.2)));have b4:=jT h5 (J w8 (oQ1 (a:Nat) p.2));have Y9:=zh w8 (oQ1 (a:Nat) p.2);have h9:=I (Ag A8.1);obtain⟨yb,d9⟩:∃yb,yb=w8.heap.size:=⟨_,rfl⟩;rw[<-d9]at Y9 h9;simp only[<-d9];have b5:=I Y9;clear d9 Y9 p0 p1 k5 A8 Q8 h5 b2;generalize w8.alloc (oQ1 (a:Nat) p.2)=w9 at*;have y0:=zm (j:=0) b5.1 rfl;have yl:=Ag b5.1;have b0:=zm (j:=0) b4.1 rfl;have bl:=Ag b4.1;obtain⟨s0,-,sl⟩:=A9.1.cell h8;refine' lK [⟨86, [],.kn _⟩,⟨87, [],.kn _⟩,⟨88, [87],.kn _⟩,⟨89, [],.kn _⟩,⟨90, [],.kn _⟩,⟨91, [90],.kn _⟩,⟨92, [89,91],.kn (.int .i64 ((zzY d a:Nat):Int))⟩,⟨93, [86,88],.kn (.pointer (some (aD r (a*2))))⟩,⟨94, [93,92],.kn (.pointer (some (aD r (a*2+zzY d a))))⟩,⟨95, [94],.kn _⟩,⟨96, [],.kn _⟩,⟨97, [96],.kn _⟩,⟨98, [95,97],.kn _⟩,⟨99, [86,88],.kn (.pointer (some (aD r (a*2))))⟩] [0,7,9,11] [92,98,99] (λ_ h=>aI (zD y0 yl h) (aI (zD b0 bl h) (aI (zD s0 sl h) (aI (As yl h.size) (aI (As bl h.size) (As sl h.size)))))) ?h2 ?c2 ?f2
   case h2=>
    intro u;simp only[Df,Jm,↓reduceIte,Nat.reduceEqDiff];intros
    and_intros
    all_goals try (first|trivial|(intros;refine Fy (by assumption) ?_;go_simp <;> rfl))
    intro A w9 e D g f1 f2 Kx k2;clear g;go_simp;refine ca (zBy (R.1.call (Ab d8.1 D)) a k7 hn) λZ h=>?_;exact k2.1 _ _ ⟨h,rfl⟩
   case c2=>kernel_rfl
   intro u Z D;simp only[Df,Hu,Jm,Act.put,O,↓reduceIte,Nat.reduceEqDiff];intro e1 e2 e3;rw[e1,e2,e3];have f0:=A9.1.call D;obtain⟨u0,u1,u2⟩:=f0.cell h8;have b6:=I (f0.set (a*2+zzY d a) (wrap64 (Am H (a*2+zzY d a)+s)));have ot:∀b,b≠r->(Z.setCell (aD r (a*2+zzY d a)) (.int .i64 (wrap64 (Am H (a*2+zzY d a)+s)))).heap[b]?=Z.heap[b]?:=λb h=>Below.heap_setCell _ (aD r (a*2+zzY d a)) _ _ h
   have i0:=I (show BP (Z.setCell (aD r (a*2+zzY d a)) (.int .i64 (wrap64 (Am H (a*2+zzY d a)+s)))) nw f from(ot nw (by have:=Y.1;omega)).trans (Q9.1.call D));have T:=I ((ot xb (by have:=d2.1;omega)).trans (Ac D b4.1));have a4:=I ((ot yb (by have:=h9.1;omega)).trans (Ac D b5.1));have b9:=I ((Ab d8.1 D).setCell (p:=aD r (a*2+zzY d a)) (show w.heap.size<=r from Y.1.1) (.int .i64 (wrap64 (Am H (a*2+zzY d a)+s))));clear e1 e2 e3 D f0 ot y0 yl b0 bl s0 sl A9 Q9 b4 b5 d8;go_simp;go_upto_region 21 with fail
   have ew:IntKind.i64.wrap (Am H (a*2+zzY d a)+s)=wrap64 (Am H (a*2+zzY d a)+s):=by rw[wI];unfold wrap64;omega
   rw[ew];clear ew;generalize Z.setCell (aD r (a*2+zzY d a)) (.int .i64 (wrap64 (Am H (a*2+zzY d a)+s)))=m9 at*;clear u0 u1 u2;obtain⟨q1,V⟩:∃q,q=H.set (a*2+zzY d a) (wrap64 (Am H (a*2+zzY d a)+s)):=⟨_,rfl⟩;rw[<-V]at b6;have l0:=I V;have i1:a*2+1<q1.length:=by rw[V];simpa using k9
   clear V;have y0:=zm (j:=0) a4.1 rfl;have yl:=Ag a4.1;have b1:=zm (j:=1) T.1 rfl;have bl:=Ag T.1;obtain⟨s1,-,sl⟩:=b6.1.cell i1;refine' lK [⟨101, [],.kn _⟩,⟨102, [],.kn _⟩,⟨103, [102],.kn _⟩,⟨104, [101,103],.kn (.pointer (some (aD r (a*2))))⟩,⟨105, [104],.kn (.pointer (some (aD r (a*2+1))))⟩,⟨106, [105],.kn _⟩,⟨107, [],.kn _⟩,⟨108, [107],.kn _⟩,⟨109, [106,108],.kn _⟩,⟨110, [101,103],.kn (.pointer (some (aD r (a*2))))⟩] [7,9,11] [109,110] (λ_ h=>aI (zD y0 yl h) (aI (zD b1 bl h) (aI (zD s1 sl h) (aI (As yl h.size) (aI (As bl h.size) (As sl h.size)))))) ?h3 ?c3 ?f3
   case h3=>
    intro u;simp only[Df,Jm,↓reduceIte,Nat.reduceEqDiff];intros
    and_intros
    all_goals try (first|trivial|(intros;refine Fy (by assumption) ?_;go_simp <;> rfl))
   case c3=>kernel_rfl
   intro u b7 D;simp only[Df,Hu,Jm,Act.put,O,↓reduceIte,Nat.reduceEqDiff];intro e1 e2;rw[e1,e2];have f4:=b6.1.call D;obtain⟨u0,u1,u2⟩:=f4.cell i1
   have l4:=I (show BP (b7.setCell (aD r (a*2+1)) (.int .i64 (wrap64 (Am q1 (a*2+1)+B)))) r (zAR d s B ((Q i).take (m+1)) (zz6 L.length d Q f i)) from by
    rw[tS b3,<-HP.1,zB1,<-d7.1,k6.1,Int.toNat_natCast,zA6,zA6,<-l0.1];exact f4.set _ _)
   have ot:∀b,b≠r->(b7.setCell (aD r (a*2+1)) (.int .i64 (wrap64 (Am q1 (a*2+1)+B)))).heap[b]?=b7.heap[b]?:=λb h=>Below.heap_setCell _ (aD r (a*2+1)) _ _ h
   have l5:=I (show BP (b7.setCell (aD r (a*2+1)) (.int .i64 (wrap64 (Am q1 (a*2+1)+B)))) nw f from(ot nw (by have:=Y.1;omega)).trans (i0.1.call D));have i2:=I ((ot xb (by have:=d2.1;omega)).trans (Ac D T.1));have i3:=I ((Ab b9.1 D).setCell (p:=aD r (a*2+1)) (show w.heap.size<=r from Y.1.1) (.int .i64 (wrap64 (Am q1 (a*2+1)+B))));clear e1 e2 D f4 ot y0 yl b1 bl s1 sl b6 i0 T a4 b9;go_simp;go_wp2;go_roundw
   case rel=>exact⟨m+1,by omega,by go_num,l4,l5,i2,i3⟩
   case measure=>simp[intOf];omega
 have m3:(m:Int)<(S.length:Int):=by omega
 obtain⟨g,o,rfl,hg,hc⟩:=(HS.1.below a1.1).resolve_left (λh=>by rw[h]at X;exact aB X (Nat.not_lt_zero m));have c0:=hc m X;rw[zAX X]at c0;have hr:=i8.1 _ (gM X);obtain⟨i,hi⟩:∃i:Nat,S[m]=i:=⟨S[m].toNat,by omega⟩;rw[hi]at c0 hr;have HI:=I hi;have l6:i<L.length:=by omega
 have m4:(i:Int)<(L.length:Int):=by omega
 have k8:=zB0 d i;have h7:((zzY d i:Nat):Int)<2:=by omega
 clear hc hi;obtain⟨H,E⟩:∃q,q=zAn d (S.take m) (zAh L.length):=⟨_,rfl⟩;rw[<-E]at Q2;have d5:H.length=L.length*2:=by rw[E,zAq];simp[zAh]
 have d7:=I E;have c4:i*2+zzY d i<H.length:=by omega
 have m5:=I d5;clear E d5;go_upto_region 5 with fail
 have f5:=a1;obtain⟨s0,s1,s2⟩:=Q2.1.cell c4;refine' lK [⟨28, [],.kn _⟩,⟨29, [],.kn _⟩,⟨30, [],.kn _⟩,⟨31, [],.kn _⟩,⟨32, [30,31],.kn (.int .i64 ((zzY d i:Nat):Int))⟩,⟨33, [28,29],.kn (.pointer (some (aD W (i*2))))⟩,⟨34, [33,32],.kn (.pointer (some (aD W (i*2+zzY d i))))⟩,⟨35, [34],.kn _⟩,⟨36, [35],.kn _⟩,⟨37, [28,29],.kn (.pointer (some (aD W (i*2))))⟩] [0,3,5] [32,36,37] (λ_ h=>aI (zD s0 s2 h) (As s2 h.size)) ?h1 ?c1 ?f1
 case h1=>
  intro u;simp only[Df,Jm,↓reduceIte,Nat.reduceEqDiff];intros
  and_intros
  all_goals try (first|trivial|(intros;refine Fy (by assumption) ?_;go_simp <;> rfl))
  intro A w9 e D g f1 f2 Kx k2;clear g;go_simp;refine ca (zBy (R.1.call (Ab f5.1 D)) i l6 hn) λZ h=>?_;exact k2.1 _ _ ⟨h,rfl⟩
 case c1=>kernel_rfl
 intro u w3 D;simp only[Df,Hu,Jm,Act.put,O,↓reduceIte,Nat.reduceEqDiff];intro e1 e2 e3;rw[e1,e2,e3];have Q3:=Q2.1.call D;obtain⟨u0,u1,u2⟩:=Q3.cell c4
 have Q4:=I (show BP (w3.setCell (aD W (i*2+zzY d i)) (.int .i64 (wrap64 (Am H (i*2+zzY d i)+1)))) W (zAn d (S.take (m+1)) (zAh L.length)) from by
  rw[tS X,zBK,<-d7.1,HI.1,Int.toNat_natCast];exact Q3.set _ _)
 have F:=I ((Ab f5.1 D).setCell (p:=aD W (i*2+zzY d i)) g1.1 (.int .i64 (wrap64 (Am H (i*2+zzY d i)+1))));clear e1 e2 e3 D Q3 s0 s1 s2 f5 a1 Q2;go_simp;go_wp2;go_roundw
 case rel=>exact⟨m+1,by omega,by go_num,Q4,F⟩
 case measure=>simp[intOf];omega
theorem zBi(p:Nat->Bool):∀(n:Nat),∀x∈jQ p n,0<=x/\x<(n:Int)
 |0,x,h=>by cases h
 |n+1,x,h=>by
  rw[jQ]at h;rcases List.mem_append.1 h with h|h
  . have:=zBi p n x h;omega
  split at h
  . obtain rfl:=List.mem_singleton.1 h;omega
  cases h
theorem zA9{t:At}{c:Ad}{L:List Sd}:∀{n:Nat} {x:DW},x∈zz1 t c base L i n->x.i=(i:Int)/\0<=x.k/\x.k<(n:Int)
 |0,x,h=>by cases h
 |n+1,x,h=>by
  rw[zz1]at h;rcases List.mem_append.1 h with h|h
  . have:=zA9 h;omega
  split at h
  . obtain rfl:=List.mem_singleton.1 h;exact⟨rfl,Int.natCast_nonneg _,by show(n:Int)<_;omega⟩
  cases h
theorem zAs{t:At}{c:Ad}{L:List Sd}:∀{n:Nat} {x:DW},x∈qP t c base L n->(0<=x.i/\x.i<(n:Int))/\0<=x.k/\x.k<(L.length:Int)
 |0,x,h=>by cases h
 |n+1,x,h=>by
  rw[qP]at h;rcases List.mem_append.1 h with h|h
  . have:=zAs h;omega
  have:=zA9 h;omega
theorem lk_mem{K:List DW}(h:j<K.length):PB K j∈K:=by
 rw[show PB K j=K[j] by simp[PB,Cr,Cz h]];exact gM h
theorem zCu{t:At}{c:Ad}{L:List Sd}(h:qT t c base L=0):Mo t base=true/\∀i,i<L.length->zA2 t c (Hx L i):=by
 unfold qT at h;cases a:Mo t base;rw[a,iP rfl]at h;cases h;rw[a,iN (by decide)]at h;exact⟨rfl,λi hi=>zBh (Ti _ _ h i (Bg _) (by omega))⟩
def ChkV(t:At)(c:Ad)(base:BA)(L:List Sd)(w:Wd)(e:Ending)(w':Wd):Prop:=∃(gb:Nat) (w0:Wd) (lo sb nb stb enb opb vlb:Nat) (U:Nat->Value) (svals vals:LV) (v1 v2 v4:Value) (a5:Ae) (c5:Nat),e=.returned (.tuple #[.pointer (some (aD gb 0)),.int .i64 0])/\oP w0 lo sb nb stb enb opb vlb gb L.length t c L (.string base) v1 v2 (.slice a5 (PX base L).length c5) v4 U (zz0 (qP t c base L L.length)) (λj=>decide ((j:Int)∈TE base L)) (λj=>decide (j<L.length)&&Rj (Hx L j).duty) L.length svals vals w'/\zW w' a5 (PX base L)/\Below w.heap.size w w'
theorem zCc(t:At)(c:Ad)(u:NetS t c)(X:Ae)(zc:Nat)(Y:Ae)(ac:Nat)(fa:Ae)(fc:Nat)(p:Bd)(hN:Rn t c X zc Y ac fa fc p)(w:Wd)(hT:Ea w t c X Y fa p)(h0:Jn t c=0)(base:BA)(L:List Sd)(Z:L.length<=60)(hE:qT t c base L=0)(b1 b3 b5 b7:Ae)(d1 d3 d5 d7:Nat)(h1:zzU w b1 L)(h3:zz2 w b3 (qP t c base L L.length))(h5:zW w b5 (PX base L))(h7:zW w b7 (TE base L)):Calls prog 132 #[Az t X zc Y ac fa fc,Ay c p,.agg #[.string base,.slice b1 L.length d1,.slice b3 (qP t c base L L.length).length d3,.slice b5 (PX base L).length d5,.slice b7 (TE base L).length d7]] w (ChkV t c base L w):=by
 try delta Ay Az
 have c2:=I hT;have HN:=I hN;have a0:=I u;have c3:=I h1;have c4:=I h3;have c5:=I h5;have c6:=I h7;have H0:=I h0;have HE:=I hE;clear hT hN u h1 h3 h5 h7 h0 hE;go_enter func132,ntmps132
 go_wp2_with fail;obtain⟨hB,x,y,A⟩:=cB w t c X zc Y ac fa fc p (Obj.cells #[.string base,.slice b1 L.length d1,.slice b3 (qP t c base L L.length).length d3,.slice b5 (PX base L).length d5,.slice b7 (TE base L).length d7] 65);obtain⟨tb,B⟩:∃tb,tb=w.heap.size:=⟨_,rfl⟩;obtain⟨cb,C⟩:∃cb,cb=w.heap.size+1:=⟨_,rfl⟩;obtain⟨nb,D⟩:∃nb,nb=w.heap.size+1+1:=⟨_,rfl⟩;rw[<-D]at A;rw[<-C]at y;rw[<-B]at x;simp only[<-D];simp only[<-C];simp only[<-B];have HB:=I hB;have QN:=I A;have QT:=I x;have QC:=I y;clear D C B hB x y A;generalize ((w.alloc (Ap t X zc Y ac fa fc)).alloc (Aj c p)).alloc (Obj.cells #[.string base,.slice b1 L.length d1,.slice b3 (qP t c base L L.length).length d3,.slice b5 (PX base L).length d5,.slice b7 (TE base L).length d7] 65)=W0 at*;obtain⟨x0,x1,x2,xl⟩:=Ev QT.1;obtain⟨y0,y1,y2,y3,y4,y5,y6,y7,y8,y9,c7,c8,c9,d0,yl⟩:=Ek QC.1;go_wp2_with fail;refine(HN.1 W0 (c2.1.below HB.1)).mono ?_;rintro e w1 ⟨a9,E⟩;have F:=jS HB E;have g:=jT QN E;clear E HB QN QT QC x0 x1 x2 xl y0 y1 y2 y3 y4 y5 y6 y7 y8 y9 c7 c8 c9 d0 yl;rcases a9 with⟨h,rfl⟩|⟨h,h2,rfl⟩|⟨sb,P,rfl,hs,_,hn⟩
 . exact aB (kT H0.1).1 h
 . exact aB (kT H0.1).2 h2
 have HS:=I hs;have CB:=I (zBF t c a0.1 w1 sb P hs hn base L b1 d1 Z (c3.1.below F.1));clear hs hn;have n0:=D_ g.1;have G:=Ag g.1;go_wp2_with fail;refine CB.1.mono ?_;rintro e w5 ⟨v,z,rfl,hz,b0,b2,B5⟩;obtain rfl:z=0:=hz.trans HE.1;obtain⟨a1,a3,V,a7,a2,a4,W,a8,rfl,N1,N2,N3,N4⟩:=b0 rfl;have d2:=I N1;have b4:=I N2;have b6:=I N3;have b8:=I N4;have d4:=jS F B5;have b9:=I B5;have c0:=jT g B5;clear b0 b2 hz B5 N1 N2 N3 N4 n0 G g F CB;go_upto_region 5 with fail
 have B6:=J w5 (Obj.cells #[.string base,.slice a1 L.length a2,.slice a3 (qP t c base L L.length).length a4,.slice V (PX base L).length W,.slice a7 (TE base L).length a8] 65);have q6:=zh w5 (Obj.cells #[.string base,.slice a1 L.length a2,.slice a3 (qP t c base L L.length).length a4,.slice V (PX base L).length W,.slice a7 (TE base L).length a8] 65);obtain⟨mb,H⟩:∃mb,mb=w5.heap.size:=⟨_,rfl⟩;rw[<-H]at q6;simp only[<-H];have K:=jS d4 B6;have k:=I B6;have n:=jT c0 B6;have o:=I q6;clear H q6 B6 c0;generalize w5.alloc (Obj.cells #[.string base,.slice a1 L.length a2,.slice a3 (qP t c base L L.length).length a4,.slice V (PX base L).length W,.slice a7 (TE base L).length a8] 65)=w6 at*;have f4:(qP t c base L L.length).length<=3600:=by
  have h1:=zz7 t c base L L.length;have h3:=Nat.mul_le_mul Z Z;omega
 have f5:(PX base L).length<=60:=Bf (zzX _ _) Z;have f6:(TE base L).length<=60:=Bf (zzX _ _) Z;have M:=zm (j:=2) o.1 rfl;have N:=Ag o.1;have n2:=zm (j:=2) n.1 rfl;have G:=Ag n.1;have a:=I (zBl (qP t c base L L.length) a3 a4 b3 d3 w6 (by omega) (b4.1 _ (jR.of k.1)) (c4.1.below K.1));go_wp2_with fail;refine a.1.mono ?_;rintro e w7 ⟨rfl,B7⟩;have Q:=jS K B7;have l:=jS k B7;have q:=jT n B7;have r:=jT o B7;clear M N n2 G B7 n o a K k;have M:=zm (j:=3) r.1 rfl;have N:=Ag r.1;have n2:=zm (j:=3) q.1 rfl;have G:=Ag q.1;have a:=I (zAE (PX base L) V W b5 d5 w7 (by omega) (b6.1 _ (jR.of l.1)) (c5.1.below Q.1));go_wp2_with fail;refine a.1.mono ?_;rintro e w8 ⟨rfl,B8⟩;have R:=jS Q B8;have m:=jS l B8;have S:=jT q B8;have s:=jT r B8;clear M N n2 G B8 q r a Q l;have M:=zm (j:=4) s.1 rfl;have N:=Ag s.1;have n2:=zm (j:=4) S.1 rfl;have G:=Ag S.1;have a:=I (zAE (TE base L) a7 a8 b7 d7 w8 (by omega) (b8.1 _ (jR.of m.1)) (c6.1.below R.1));go_wp2_with fail;refine a.1.mono ?_;rintro e w9 ⟨rfl,B9⟩;have d6:=jS R B9;have b:=jS m B9;have f:=jT s B9;clear M N n2 G B9 S s a R m;have m0:=D_ f.1;have M:=zm (j:=2) f.1 rfl;have N:=Ag f.1;have CG:=I (zBr w9 sb t c P (HS.1.below (Ab b9.1 b.1)) base L (qP t c base L L.length) (PX base L) (TE base L) a1 a3 V a7 a2 a4 W a8 (by omega) (by omega) (by omega) (d2.1 _ (jR.of b.1)) (b4.1 _ (jR.of b.1)) (b8.1 _ (jR.of b.1)) (λi hi=>((zCu HE.1).2 i hi).d) (λj hj=>(zAs (lk_mem hj)).1) (zBi _ _));go_wp2_with fail;refine CG.1.mono ?_;rintro e f7 ⟨gb,lo,d8,d9,f0,f1,f2,U,T,c1,rfl,hG⟩;have HG:=I hG;have HI:=I (b6.1 _ (jR.of (Ab b.1 hG.bel)));have f3:=jS d6 hG.bel;clear hG m0 M N CG;go_wp2;go_ret2;exact⟨gb,w9,lo,sb,d8,d9,f0,f1,f2,U,T,c1,_,_,_,V,W,rfl,HG.1,HI.1,f3.1⟩
theorem zB7(t:At)(c:Ad)(b:NetS t c)(l:Ae)(n:Nat)(m:Ae)(o:Nat)(fa:Ae)(fc:Nat)(p:Bd)(R:Rn t c l n m o fa fc p)(w:Wd)(S:Ea w t c l m fa p)(T:Jn t c=0)(base:BA)(L:List Sd)(y:L.length<=60)(V:qT t c base L=0)(r s u v:Ae)(z A B C:Nat)(D:zzU w r L)(E:zz2 w s (qP t c base L L.length))(W:zW w u (PX base L))(X:zW w v (TE base L)):CV 74 #[Az t l n m o fa fc,Ay c p,.agg #[.string base,.slice r L.length z,.slice s (qP t c base L L.length).length A,.slice u (PX base L).length B,.slice v (TE base L).length C]] w (.tuple #[(cntP L.length (PX base L) (zz0 (qP t c base L L.length)) (λj=>decide ((j:Int)∈TE base L)) (λj=>decide (j<L.length)&&Rj (Hx L j).duty)),.int .i64 0]):=by
 try delta Ay Az
 have Y:=λw' (hb:Bw w w')=>zCc t c b l n m o fa fc p R w' (S.below hb) T base L y V r s u v z A B C (D.below hb) (E.below hb) (W.below hb) (X.below hb)
 have F:=I Y;clear Y S R b D E W X T V;go_enter func74,ntmps74
 go_wp2_with fail;obtain⟨Z,d,f,a⟩:=cB w t c l n m o fa fc p (Obj.cells #[.string base,.slice r L.length z,.slice s (qP t c base L L.length).length A,.slice u (PX base L).length B,.slice v (TE base L).length C] 65);obtain⟨tb,g⟩:∃tb,tb=w.heap.size:=⟨_,rfl⟩;obtain⟨cb,h⟩:∃cb,cb=w.heap.size+1:=⟨_,rfl⟩;obtain⟨nb,k⟩:∃nb,nb=w.heap.size+1+1:=⟨_,rfl⟩;rw[<-k]at a;rw[<-h]at f;rw[<-g]at d;simp only[<-k];simp only[<-h];simp only[<-g];have HB:=I Z;clear k h g Z;generalize ((w.alloc (Ap t l n m o fa fc)).alloc (Aj c p)).alloc (Obj.cells #[.string base,.slice r L.length z,.slice s (qP t c base L L.length).length A,.slice u (PX base L).length B,.slice v (TE base L).length C] 65)=W0 at*;obtain⟨x0,x1,x2,xl⟩:=Ev d;obtain⟨y0,y1,y2,y3,y4,y5,y6,y7,y8,y9,G,H,K,M,yl⟩:=Ek f;have n0:=D_ a;have nl:=Ag a;clear d f a;go_wp2_with fail;refine(F.1 W0 HB.1).mono ?_;rintro e w1 ⟨gb,w0,lo,sb,a1,a2,a3,a4,a6,U,N,a0,v1,v2,v4,a5,c5,rfl,hG,hI,B1⟩;have a7:(PX base L).length<=60:=Bf (zzX _ _) y
 have CP:=I (zA5 hG (PX base L) a5 c5 rfl hI (by omega) (by omega) (zBi _ _) (λi=>Bf (zA7 _ _) (by
  have D:=zz7 t c base L L.length;have E:=Nat.mul_le_mul y y
  omega)) (λi q hq=>by
  unfold zz0 at hq
  obtain⟨x,hx,rfl⟩:=List.mem_map.1 hq;exact(zAs (List.mem_filter.1 hx).1).2))
 have P:=jS HB B1;clear hG hI B1 x0 x1 x2 xl y0 y1 y2 y3 y4 y5 y6 y7 y8 y9 G H K M yl n0 nl;go_wp2_with fail;refine CP.1.mono ?_;rintro e w2 ⟨rfl,B2⟩;have Q:=jS P B2;clear B2 CP;go_wp2;go_ret2;exact⟨rfl,Q.1⟩
end Go.Proofs.YtelojoopofolpaaGreat
