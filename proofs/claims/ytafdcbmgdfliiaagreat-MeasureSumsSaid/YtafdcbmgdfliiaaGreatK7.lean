/- a part of the proof -/
import Derived.Test.YtafdcbmgdfliiaaGreatK6
set_option linter.all false
set_option maxRecDepth 100000
set_option maxHeartbeats 3000000
namespace Go.Proofs.YtafdcbmgdfliiaaGreat
open Go.RowKit Go.Sort Go.Proofs.Tryz
variable {c d l v v0 v1 v2:Value}{W w w' w0:Wd}{b cb g lo m n p sb tb:Nat}{L:List (LV)}{a:Array Value}{f:Nat×Nat}{U:Nat->Value}{C:Nat->List (LV)}
def lP(v:Value):Prop:=∃x:Int,v=Bn x/\(Lit.int .i64 x).wf=true
def Ln(v:Value):Prop:=∃x:Int,v=Bn x
def lY(v:Value):Prop:=∃r:Nat,v=Bn r
def lO(v:Value):Prop:=∃x:Int,v=.int .u8 x
def cG(v:Value)(w:Wd):Prop:=∃(p:Nat) (x:Int),v=.slice (some (aD p 0)) 1 1/\w.heap[p]?=some (.cells #[.int .u8 x] 5 (0,0))
def cG.below(h:cG v w)(a:Bw w w'):cG v w':=by
 obtain⟨p,x,b,c⟩:=h;exact⟨p,x,b,Ac a c⟩
def dB(f:Ft):LV:= [.string f.num,.string f.fq,.string f.to,Bn f.dp,Bn f.ar,.string f.ty,Bn f.n0,Bn f.n1,Bn f.n2]
def Wq(f:Ft):Prop:=(f.num.size<=140737488355328/\f.fq.size<=140737488355328/\f.to.size<=140737488355328/\f.ty.size<=140737488355328)/\(Lit.int .i64 f.dp).wf=true/\(Lit.int .i64 f.ar).wf=true
def EQ(v:Value):Prop:=∃(s1 s2 s3 s6:BA) (d1 d2:Int),v=.agg #[.string s1,.string s2,.string s3,d1,d2,.string s6,Bn 1,Bn 1,Bn 2]/\s1.size<=2/\s2.size<=3/\s3.size<=3/\s6.size<=20/\(Lit.int .i64 d1).wf=true/\(Lit.int .i64 d2).wf=true
def cY{x:Int}(h:w.heap[p]?=some (.cells #[.int .u8 x] 5 (0,0))):∃s:BA,s.size<=1/\(convert 146 9 (Kx p 0 1 1)).run prog w=.ok (B_ s) w:=by
 refine⟨_,?_,(run_convert_bytes_string w _ _ _ _ _ _ underlying146 underlying5 underlying9).trans (run_bytesToString w (aD p 0) 1 1 [x] ?_)⟩;simp[ByteArray.size_push];refine run_loadCells_list (w:=w) (aD p 0) [.int .u8 x] λj v hj=>?_;rcases j with _|j;obtain rfl:Value.int .u8 x=v:=by simpa using hj
 exact(EE 0 h rfl);simp at hj
structure TI(lo tb:Nat)(w0:Wd)(zv av v:Value)(L:List (LV))(w:Wd):Prop where
 box:w.heap[tb]?=some (.cells #[zv,av,v] 27 (0,0))
 own:w.ownsRow lo 122 9 v L.length L.flatten
 ok:∀c∈L,∃f,c=dB f/\Wq f
 df:DF lo tb tb w0 w
 le:lo<=w.heap.size
 lt:tb<lo
theorem TI.call{a b:Value}(S:TI lo tb w0 a b v L w)(h:Bw w w'):TI lo tb w0 a b v L w' where
 box:=Ac h S.box
 own:=S.own.kept (Sj (r:=none) h) (by grind)
 ok:=S.ok
 df:=S.df.trans (DF.of h)
 le:=Bf S.le h.size
 lt:=S.lt
def TI.set1{i:Nat}{u:Value}(S:TI lo tb w0 c d v L w)(f:lo<=p)(a:v.ownBlock≠some p):TI lo tb w0 c d v L (w.setCell (aD p i) u) where
 box:=(Below.heap_setCell w (aD p i) u tb (by have:=S.lt;show tb≠p;omega)).trans S.box
 own:=S.own.kept (row:=some p) ⟨rfl,rfl,rfl,by simp[World.setCell],λk hk hn=>Below.heap_setCell w (aD p i) u k (λe=>hn (congrArg some e))⟩ (.inr a)
 ok:=S.ok
 df:=S.df.trans ⟨rfl,rfl,rfl,by simp[World.setCell],λb h1 _ _ _=>Below.heap_setCell w (aD p i) u b (by show b≠p;omega)⟩
 le:=by have:=S.le;simp[World.setCell];omega
 lt:=S.lt
def TI.stN{b:Value}(d:lo<=p)(a:v.ownBlock≠some p):∀(l:LV) (i:Nat) (w:Wd),TI lo tb w0 b c v L w->TI lo tb w0 b c v L (stN p i l w)
 |[],_,_,S=>S
 |u::l,i,w,S=>TI.stN d a l (i+1) _ (S.set1 d a)
def Xg:EI 25 122 (.agg #[B_ ByteArray.empty,B_ ByteArray.empty,B_ ByteArray.empty,Bn 0,Bn 0,B_ ByteArray.empty,Bn 0,Bn 0,Bn 0]) 9 104:=⟨underlying25,by kernel_rfl,by rfl,by decide⟩
def TI.push{c:Nat}{m:Value}(S:TI lo tb w0 l m v L w){f:Ft}(n:Wq f)(r:w'.ownsRow lo 122 9 (Kx g 0 (L.length+1) c) (L.length+1) (L.flatten++dB f))(h:(w.alloc (.cells (dB f).toArray 122)).grownBy w' v.ownBlock):
 w'.heap[tb]?=some (.cells #[l,m,v] 27 (0,0))/\TI lo tb w0 l m (Kx g 0 (L.length+1) c) (L++ [dB f]) (w'.setCell (aD tb 2) (Kx g 0 (L.length+1) c))/\
 ∀p o,lo<=p->v.ownBlock≠some p->w.heap[p]?=some o->(w'.setCell (aD tb 2) (Kx g 0 (L.length+1) c)).heap[p]?=some o:=by
 have t:(w.alloc (.cells (dB f).toArray 122)).heap.size=w.heap.size+1:=by simp
 have a:∀b,b<w.heap.size->v.ownBlock≠some b->w'.heap[b]?=w.heap[b]?:=λb hb d=>(h.block b (by omega) (λe=>d e.symm)).trans (heap_alloc_old w _ hb);have j:∀b,b<lo->v.ownBlock≠some b:=λb hb e=>by have:=(S.own.lt b e).1;omega
 have q:=(a tb (Ag S.box) (j tb S.lt)).trans S.box;refine⟨q,⟨?_,?_,?_,?_,?_,S.lt⟩,λp o h1 h2 h3=>?_⟩;exact zg (i:=2) q;exact ownsRow_setCell_below (by simpa using r) S.lt _;intro x k;rcases List.mem_append.1 k with k|k;exact S.ok x k;obtain rfl:=List.mem_singleton.1 k;exact⟨f,rfl,n⟩;refine S.df.trans ⟨h.os,h.tape,h.output,?_,λb h1 h2 _ h4=>?_⟩;have:=h.size;simp[World.setCell];omega;exact(Below.heap_setCell _ _ _ _ h2).trans (a b h4 (j b h1));have:=h.size;have:=S.le;simp[World.setCell];omega;have s:=Ag h3;have d:p≠tb:=by have:=S.lt;omega
 exact(Below.heap_setCell _ _ _ _ d).trans ((a p s h2).trans h3)
def mC(zb ab:Nat)(fa:Ae)(n:Nat)(W:Wd):Prop:=∃l:List Ft,l.length=n/\Al Nc W (some (aD zb 0)) bO/\Al Mk W (some (aD ab 0)) bX/\Al Hi W fa l
def mE(w:Wd)(e:Ending)(w':Wd):Prop:=∃(zb ab:Nat) (fa:Ae) (n fc:Nat),e=.returned (.agg #[.slice (some (aD zb 0)) 3 3,.slice (some (aD ab 0)) 3 3,.slice fa n fc])/\n<=7/\Fr w w' (mC zb ab fa n)/\Below w.heap.size w w'
def mN{d:Func}(e:d.results=#[.cell 2 27])(g:a.getD 2 undef=Ua b 0)(q:W.heap[b]?=some (.cells #[v0,v1,v2] 27 f)):(results d a).run prog W=.ok (.agg #[v0,v1,v2]) W:=by
 have h:W.cell? (aD b 0)=some v0:=(EE 0 q rfl);have i:W.cell? (aD b 1)=some v1:=(EE 1 q rfl);have k:W.cell? (aD b 2)=some v2:=(EE 2 q rfl);have c:a[2]?.getD undef=Ua b 0:=by simpa using g
 simp[results,e,go_sem,c,h,i,k]
def Xu(h:w.heap[g]?=some (Obj.cells #[Bn 30,Bn 45,Bn 45,Bn 60,Bn 90,Bn 150,Bn 600,Bn 780] 3))(a:m<8):∃x:Int,w.cell? (aD g m)=some (Bn x):=by
 match m,a with
 |0,_|1,_|2,_|3,_|4,_|5,_|6,_|7,_=>exact⟨_,zm h rfl⟩
def YR(zs:LI)(a:Ae)(cap:Nat)(w:Wd)(hz:Al RT.int w a zs)(hl:zs.length<=2^47):Calls prog 31 #[CU a zs.length cap] w (mE w):=by
 have HZ:=I hz;clear hz;go_in;go_wp2_with fail;have⟨M,Y⟩:=aT w.heap.size;have B1:=I (J w jL);have q1:=zh w jL;simp only[<-Y]at q1 ⊢;generalize w.alloc jL=z at*;refine(sQ _).mono ?_;rintro e w2 ⟨F,N,C,rfl,g6,a9,B2⟩;go_wp2_with fail;refine(sM _).mono ?_;rintro e w3 ⟨B,rfl,g7,a5,B3⟩;have q3:=Ac B3 (Ac B2 q1);have U:=a9.keep (w':=w3) λj o _ h=>Ac B3 h;have a6:=fE B1 (Ab B2 B3);have g8:=Ag q1;have f9:=B2.size;have c9:=I (show w.heap.size<=F/\w.heap.size<=N/\w.heap.size<=C/\w.heap.size<=B by have:=B1.1.size;have:=B2.size;omega);clear B1 B2 B3 q1 a9;go_wp2_with fail;have⟨E,Z⟩:=aT w3.heap.size;have B4:=J w3 (Obj.cells #[Kx C 0 3 3,Kx B 0 3 3,Ls] 27);have q4:=zh w3 (Obj.cells #[Kx C 0 3 3,Kx B 0 3 3,Ls] 27);simp only[<-Z]at q4 ⊢;have b4:(w3.alloc (Obj.cells #[Kx C 0 3 3,Kx B 0 3 3,Ls] 27)).heap.size=E+1:=by rw[zr,<-Z]
 generalize w3.alloc (Obj.cells #[Kx C 0 3 3,Kx B 0 3 3,Ls] 27)=w4 at*;refine(Ng zs a cap w4 (HZ.1.below (Ab a6.1 B4)) hl 0 (by decide)).mono ?_;rintro e w5 ⟨r0,rfl,g9,B5⟩;go_wp2_with fail;have⟨g1,a7⟩:=C_ w5.heap.size;have⟨P,a2⟩:=C_ (w5.heap.size+1);have B6:=Ab (J w5 jJ) (J _ jM);have k1:((w5.alloc jJ).alloc jM).heap[g1]?=some jJ:=by
  rw[a7];exact zd (zh _ _)
 have k2:((w5.alloc jJ).alloc jM).heap[P]?=some jM:=by
  have:=zh (w5.alloc jJ) jM;rwa [zr,<-a2]at this
 have b7:((w5.alloc jJ).alloc jM).heap.size=P+1:=by rw[zr,zr,<-a2]
 simp only[<-a2];simp only[<-a7];generalize (w5.alloc jJ).alloc jM=w6 at*;have Q:=Ab B5 B6;have R:=fE a6 (Ab B4 Q);have Q6:=I (aI (Ac Q (Ac B4 q3)) (aI ((U.keep (w':=w4) λj o _ h=>Ac B4 h).keep (w':=w6) λj o _ h=>Ac Q h) (aI (Ac Q (Ac B4 a5)) (aI k1 k2))));have g0:M<E/\E<g1/\g1<P:=by
  have:=Ag q3;have:=B5.size;omega
 have S0:Af (TI (P+1) E w6 (Kx C 0 3 3) (Kx B 0 3 3) Ls [] w6):=I ⟨Ac Q q4,World.ownsRow_nil _ _ _ _,(λc hc=>by cases hc),DF.refl ..,by omega,by omega⟩;have h0:F≠E/\N≠E/\C≠E/\B≠E/\F<E/\N<E/\C<E/\B<E/\F≠M/\N≠M/\C≠M/\B≠M:=by
  have:=Ag U.q0;have:=Ag U.q1;have:=Ag U.q2;have:=Ag a5;omega
 clear B4 B5 B6 Q q3 q4 k1 k2 U a5 a6 b4;have b8:∀{wx:Wd},DF (P+1) E E w6 wx->Bw w wx/\(∀b o,b<P+1->b≠E->w6.heap[b]?=some o->wx.heap[b]?=some o):=fun{wx} D=>⟨⟨D.os.trans R.1.os,D.tape.trans R.1.tape,D.output.trans R.1.output,Bf R.1.size D.size,λb t=>(D.blk b (by omega) (by omega) (by omega) (by omega)).trans (R.1.block b t)⟩,λb o h1 H h3=>(D.blk b h1 H H (by omega)).trans h3⟩
 have HF:=I @b8;simp only[<-Z,<-Y];have b9:=I Y;clear b8 R Y Z a7 a2 b7;go_loopw [4,5,8] (λav cv i wr=>∃(k a0:Nat) (cl:Int) (v:Value) (L:List (LV)),k<=7/\i=Bn k/\a0<3/\av=Bn a0/\cv=Bn cl/\L.length=k/\Af (TI (P+1) E w6 (Kx C 0 3 3) (Kx B 0 3 3) v L wr)) (λ_ _ i _=>7-(intOf i).toNat);exact⟨0,0,_,_,_,Bg _,rfl,by decide,rfl,rfl,rfl,S0⟩;obtain⟨k,a0,cl,v,L,hk,rfl,d0,rfl,rfl,hL,S⟩:=hrel;have h7:L.length<=7:=by omega
 have d3:=I hL;clear hL;go_wp2_with fail;refine(Ng zs a cap wr (HZ.1.below (HF.1 S.1.df).1) hl 1 (by decide)).mono ?_;rintro e w7 ⟨r,rfl,hr,B7⟩;have S7:=I (S.1.call B7);clear S B7 S0;obtain⟨r6,e6⟩:∃n:Nat,(r:Int)%6=n:=⟨r%6,rfl⟩;have h8:r6<6:=by omega
 by_cases h9:k<2+r6
 . have c0:(k:Int)<2+r6:=by omega
   go_wp2_with fail;refine(Ng zs a cap w7 (HZ.1.below (HF.1 S7.1.df).1) hl (2+k) (by omega)).mono ?_;rintro e w8 ⟨n,rfl,hn,B8⟩;have S8:=I (S7.1.call B8);clear S7 B8;go_upto_if 37 with(fail);go_cut [4] (λx wx=>∃a1:Nat,a1<3/\x=Bn a1/\wx=w8)
   case first=>
    go_wp2_with fail
    all_goals
     go_meet
    all_goals first
    |exact⟨0,by decide,rfl,rfl⟩
    |exact⟨a0,d0,rfl,rfl⟩
   obtain⟨a1,c2,rfl,rfl⟩:=hcut;go_upto_if 39 with(fail);go_cut [10] (λx wx=>∃b1:Nat,b1<3/\x=Bn b1/\wx=wc)
   case first=>
    have i0:0<=(n:Int):=by omega
    match a1,c2 with
    |0,_=>
     go_wp2;go_meet
     case rel=>exact⟨1+n/8%2,by omega,congrArg _ (by omega),rfl⟩
    |1,_=>
     go_wp2_with fail
     all_goals
      go_meet
     all_goals first
     |exact⟨2,by decide,rfl,rfl⟩
     |exact⟨0,by decide,rfl,rfl⟩
    |2,_=>
     go_wp2_with fail
     all_goals
      go_meet
     all_goals first
     |exact⟨1,by decide,rfl,rfl⟩
     |exact⟨0,by decide,rfl,rfl⟩
   obtain⟨b0,c3,rfl,rfl⟩:=hcut;have⟨Q1,Q2,Q3,Q4,Q5⟩:=Q6.1;have F8:=(HF.1 S8.1.df).2;obtain⟨m,em⟩:∃m:Nat,(n:Int)/16%8=m:=⟨n/16%8,by omega⟩;have d4:m<8:=by omega
   have⟨x,cx⟩:=Xu (F8 _ _ (by omega) (by omega) Q4) d4;have g5:(m:Int)<8:=by omega
   have gl:=Ag (F8 _ _ (by omega) (by omega) Q4);have d5:=I (Lm.of (m:=20) (n:=3) (F8 _ _ (by omega) (by omega) Q5) rfl rfl);clear Q1 Q2 Q3 Q4 Q5 F8;go_upto_region 17 with fail;clear cx gl;have c4:=Wm (cl+x);generalize wrap64 (cl+x)=dp at*;refine' Wi [⟨57, [],.kn (Bn (k:Nat))⟩,⟨58, [57],.pu Ln⟩,⟨59, [58],.pu lO⟩,⟨60, [59],.ow cG (λ_ _ _=>cG.below)⟩,⟨61, [60],.pu (Hp 1)⟩,⟨62, [61],.pu (Hp 2)⟩,⟨63, [],.ow (λv w=>Lm 3 3 w v) (λ_ _ _=>Lm.below)⟩,⟨64, [],.kn (Bn (a1:Nat))⟩,⟨65, [63,64],.ow (Jt 3) (λ_ _ _=>Jt.below)⟩,⟨66, [65],.pu (Hp 3)⟩,⟨67, [],.ow (λv w=>Lm 3 3 w v) (λ_ _ _=>Lm.below)⟩,⟨68, [],.kn (Bn (b0:Nat))⟩,⟨69, [67,68],.ow (Jt 3) (λ_ _ _=>Jt.below)⟩,⟨70, [69],.pu (Hp 3)⟩,⟨71, [],.kn (Bn dp)⟩,⟨72, [],.kn (Bn dp)⟩,⟨73, [72],.pu Ln⟩,⟨74, [],.kn (Bn (n:Nat))⟩,⟨75, [74],.pu Ln⟩,⟨76, [75],.pu Ln⟩,⟨77, [76],.pu Ln⟩,⟨78, [73,77],.pu lP⟩,⟨79, [],.kn (Kx P 0 3 3)⟩,⟨80, [],.kn (Bn (n:Nat))⟩,⟨81, [80],.pu lY⟩,⟨82, [81],.pu λv=>∃r:Nat,v=Bn r/\r<3⟩,⟨83, [79,82],.ow (Jt 20) (λ_ _ _=>Jt.below)⟩,⟨84, [83],.pu (Hp 20)⟩,⟨85, [],.kn (.agg #[Bn 1,Bn 1,Bn 2])⟩,⟨86, [62,66,70,71,78,84,85],.pu EQ⟩,⟨12, [],.bx jB⟩] [4,7,8,9,10,11] [86,12] (λ_ h=>d5.1.below h) ?h1 ?c1 ?f1
   case h1=>
    intro u;simp only[Df,Jm,↓reduceIte,Nat.reduceEqDiff];intros;refine⟨?_,?_,?_,?_,?_,?_,?_,?_,?_,?_,?_,?_,?_,?_,?_,?_,?_,?_,?_,?_,?_,?_,?_,?_,?_,?_,?_,?_,?_,?_,?_,trivial⟩
    all_goals try (intros;rename_i k0;refine Fy k0 ?_;go_simp <;> rfl)
    intro A z e t g f1 K k;go_simp;exact k.1 _ _ ⟨An _ _,_,rfl⟩;rintro A z e t g ⟨x,h1⟩ K k;go_simp;exact k.1 _ _ ⟨An _ _,_,rfl⟩;rintro A z e t g ⟨x,h1⟩ K k;go_simp;exact k.1 _ _ ⟨J _ _,_,_,rfl,zh _ _⟩;rintro A z e t g ⟨p,x,h1,H⟩ K k;have⟨s,T,hr⟩:=cY H;go_simp;exact k.1 _ _ ⟨An _ _,s,rfl,T⟩;rintro A z e t g ⟨F,h1,b1⟩ K k;have q:¬ 9223372036854775807<1+F.size:=by omega
    go_simp;refine k.1 _ _ ⟨An _ _,_,rfl,?_⟩;simp only[ByteArray.size_append];simp only[ByteArray.size,List.size_toArray,List.length_cons,List.length_nil] at*;omega;intro A z e t g K k;go_simp;refine(ED _).mono ?_;rintro e' w2 ⟨v,rfl,h1,H⟩;exact k.1 _ _ ⟨H,h1⟩;rintro A z e t g ⟨p,h1,hp,H⟩ f2 K k;have⟨s,c,T⟩:=H a1 c2;have h5:(a1:Int)<3:=by omega
    go_simp;exact k.1 _ _ ⟨An _ _,p,a1,s,rfl,c,T⟩;rintro A z e t g ⟨p,r,s,h1,c,T⟩ K k;have cl:=bK _ _ c;go_simp;exact k.1 _ _ ⟨An _ _,s,rfl,T⟩;intro A z e t g K k;go_simp;refine(ED _).mono ?_;rintro e' w2 ⟨v,rfl,h1,H⟩;exact k.1 _ _ ⟨H,h1⟩;rintro A z e t g ⟨p,h1,hp,H⟩ f2 K k;have⟨s,c,T⟩:=H b0 c3;have h5:(b0:Int)<3:=by omega
    go_simp;exact k.1 _ _ ⟨An _ _,p,b0,s,rfl,c,T⟩;rintro A z e t g ⟨p,r,s,h1,c,T⟩ K k;have cl:=bK _ _ c;go_simp;exact k.1 _ _ ⟨An _ _,s,rfl,T⟩;intro A z e t g f1 K k;go_simp;exact k.1 _ _ ⟨An _ _,_,rfl⟩;intro A z e t g f1 K k;go_simp;exact k.1 _ _ ⟨An _ _,_,rfl⟩;rintro A z e t g ⟨x,h1⟩ K k;go_simp;exact k.1 _ _ ⟨An _ _,_,rfl⟩;rintro A z e t g ⟨x,h1⟩ K k;go_simp;exact k.1 _ _ ⟨An _ _,_,rfl⟩;rintro A z e t g ⟨x,h1⟩ ⟨y,h3⟩ K k;go_simp;exact k.1 _ _ ⟨An _ _,_,rfl,by rw[IntWalk.i64_left];exact Wm _⟩;intro A z e t g f1 K k;go_simp;exact k.1 _ _ ⟨An _ _,n/1024,congrArg _ (by omega)⟩;rintro A z e t g ⟨r,h1⟩ K k;have e1:=Wk r 3;go_simp;exact k.1 _ _ ⟨An _ _,r%3,rfl,Nat.mod_lt _ (by decide)⟩;rintro A z e t g f1 ⟨r,h3,h4⟩ K k;obtain⟨g3,e3,_,hc⟩:=g;cases e3;have⟨s,c,T⟩:=hc r h4;have h5:(r:Int)<3:=by omega
    go_simp;exact k.1 _ _ ⟨An _ _,P,r,s,rfl,c,T⟩;rintro A z e t g ⟨p,r,s,h1,c,T⟩ K k;have cl:=bK _ _ c;go_simp;exact k.1 _ _ ⟨An _ _,s,rfl,T⟩;rintro A z e t g ⟨F,h1,b1⟩ ⟨N,H,b2⟩ ⟨V,h3,b3⟩ f4 ⟨x,h5,b5⟩ ⟨X,h6,b6⟩ f7 K k;go_simp;exact k.1 _ _ ⟨An _ _,F,N,V,X,dp,x,rfl,b1,b2,b3,b6,c4,b5⟩;intro A z e t g K k;go_simp;exact k.1 _ _ ⟨J _ _,rfl,zh _ _⟩
   case c1=>kernel_rfl
   intro u w9 t;simp only[Df,Hu,Jm,Act.put,O,↓reduceIte,Nat.reduceEqDiff];rintro⟨F,N,V,X,d1,d2,d6,b1,b2,b3,b6,g3,g4⟩ ⟨p,d7,hp,d⟩;rw[d6,d7];have S9:=S8.1.call t;have c5:v.ownBlock≠some p:=λe=>by
    have:=(S8.1.own.lt p e).2;omega
   have c6:P+1<=p:=Bf S8.1.le hp;have a3:=I (TI.stN c6 c5 [B_ F,B_ N,B_ V,Bn d1,Bn d2,B_ X,Bn 1,Bn 1,Bn 2] 0 _ S9);have c7:=I (Pr [B_ F,B_ N,B_ V,Bn d1,Bn d2,B_ X,Bn 1,Bn 1,Bn 2] [] [B_ ⟨#[]⟩,B_ ⟨#[]⟩,B_ ⟨#[]⟩,Bn 0,Bn 0,B_ ⟨#[]⟩,Bn 0,Bn 0,Bn 0] w9 rfl d);have y0:=D_ d;have x0:=CH d;have y2:=EE 2 d rfl;have yl:=Ag d;clear S9 S8 t d c4;go_upto_region 18 with fail;change Code.wp _ _ _ _ (stN p 0 [B_ F,B_ N,B_ V,Bn d1,Bn d2,B_ X,Bn 1,Bn 1,Bn 2] w9);have a4:Af ((stN p 0 [B_ F,B_ N,B_ V,Bn d1,Bn d2,B_ X,Bn 1,Bn 1,Bn 2] w9).heap[p]?=some (.cells ([B_ F,B_ N,B_ V,Bn d1,Bn d2,B_ X,Bn 1,Bn 1,Bn 2]:LV).toArray 122 (0,0))):=I c7.1;clear c7 y0 x0 y2 yl;generalize stN p 0 [B_ F,B_ N,B_ V,Bn d1,Bn d2,B_ X,Bn 1,Bn 1,Bn 2] w9=i1 at*;have q:=a4.1;have i2:=D_ q;have pl:=Ag q;have b:=a3.1.box;have bz:=D_ b;have bl:=Ag b;clear q b;have hf:Wq ⟨F,N,V,d1,d2,X,1,1,2⟩:=⟨⟨by simp only;omega,by simp only;omega,by simp only;omega,by simp only;omega⟩,g3,g4⟩;have d8:=I hf;clear hf g3 g4 b1 b2 b3 b6;go_wp2_with (at_builtin;refine Zw Xg a3.1.le a3.1.own [B_ F,B_ N,B_ V,Bn d1,Bn d2,B_ X,Bn 1,Bn 1,Bn 2] rfl rfl rfl rfl rfl (by simp[Value.oneCell']) (by omega) ?_;intro g c j1 hO hG _;have⟨P1,P2,P3⟩:=TI.push a3.1 d8.1 hO hG;have k2:=EE 2 P1 rfl;have y2:=E_ 2 P1;have kl:=Ag P1;have HT:=I P2;have HP:=I (P3 p _ c6 c5 a4.1);have pc:=EE 4 HP.1 rfl;have j2:=Ag HP.1;clear P1 P2 P3 hO hG)
   all_goals
    go_roundw
    case rel=>exact⟨k+1,b0,_,_,_,by omega,by go_num,c3,rfl,rfl,by have:=d3.1;simp;omega,HT⟩
    case measure=>simp[intOf];omega
 have c0:¬ (k:Int)<2+r6:=by omega
 obtain⟨va,vc,rfl⟩:=Js S7.1.own;obtain⟨Q1,Q2,Q3,-,-⟩:=Q6.1;have⟨c8,F7⟩:=HF.1 S7.1.df;have r7:=F7 _ _ (by omega) (by omega) Q1;have j3:=D_ r7;have j6:=CH r7;have rl:=Ag r7;have b:=S7.1.box;have j9:=D_ b;have bl:=Ag b;have QW:=I (Pr [Kx C 0 3 3,Kx B 0 3 3,CU va L.length vc] [] [Ls,Ls,Ls] w7 rfl r7);have a8:=λx (h:x≠M)=>lG (l:= [Kx C 0 3 3,Kx B 0 3 3,CU va L.length vc]) h 0 w7;have d9:=I (Q2.keep (w':=stN M 0 [Kx C 0 3 3,Kx B 0 3 3,CU va L.length vc] w7) λj o hj h=>(a8 j (by rcases hj with rfl|rfl|rfl <;> omega)).trans (F7 _ _ (by rcases hj with rfl|rfl|rfl <;> omega) (by rcases hj with rfl|rfl|rfl <;> omega) h));have f0:=I ((show Tl (stN M 0 [Kx C 0 3 3,Kx B 0 3 3,CU va L.length vc] w7) B from(a8 B (by omega)).trans (F7 _ _ (by omega) (by omega) Q3)));have f3:Af ((stN M 0 [Kx C 0 3 3,Kx B 0 3 3,CU va L.length vc] w7).ownsRow (P+1) 122 Hi.n (CU va L.length vc) L.length L.flatten):=I (ownsRow_setCell_below (ownsRow_setCell_below (ownsRow_setCell_below S7.1.own (show M<P+1 by omega) _) (show M<P+1 by omega) _) (show M<P+1 by omega) _);have f5:=I (Tt (Nat.le_of_eq b9.1.symm) [Kx C 0 3 3,Kx B 0 3 3,CU va L.length vc] 0 w7 c8);have f6:=I S7.1.ok;clear Q1 Q2 Q3 F7 c8 r7 b a8;go_wp2_with fail;refine bP (mN rfl rfl QW.1) rfl ?_;refine⟨C,B,va,L.length,vc,rfl,by omega,λW h1 H=>?_,f5.1⟩;have f8:=rZ (w:=w) f3.1 (by have:=b9.1;omega) W h1 H;have⟨fa,fc,l,e,h3,_,h4,_⟩:=Al.of_own f8 (λc hc=>by
  obtain⟨f,rfl,hf⟩:=f6.1 c hc;exact⟨f,rfl,hf⟩)
 simp only[Value.slice.injEq]at e;obtain⟨e1,e2,e3⟩:=e;subst e1 e3;have K:∀j o,w.heap.size<=j->(stN M 0 [Kx C 0 3 3,Kx B 0 3 3,CU va L.length vc] w7).heap[j]?=some o->W.heap[j]?=some o:=λj o hj h=>(H j hj (Ag h)).trans h;have G:=c9.1;exact⟨l,h3,(d9.1.keep λj o hj h=>K j o (by rcases hj with rfl|rfl|rfl <;> omega) h).at,Tl.at (K B _ (by omega) f0.1),h4⟩
theorem Xy{X:Type}{at':List X->Nat->X}{C:Nat->Wd->Nat->Nat->X->Prop}{B:Nat}(a:∀(l:List X) (i:Nat) (h:i<l.length),at' l i=l[i])(c:∀i,i<m->∃x:X,C B w g (i*n) x):
 ∃l:List X,l.length=m/\∀i,i<l.length->C B w g (0+i*n) (at' l i):=by
 refine⟨List.ofFn (λi:Fin m=>Classical.choose (c i.1 i.2)),by simp,λi hi=>?_⟩;grind
section
variable {P:Nat→Prop} {w:Wd} {g off:Nat} {c:LV}
def FB(h:Iu P w c)(b:∀j u,c[j]?=some u->w.cell? (aD g (off+j))=some u):∃x,Sr w.heap.size w g off x:=by
 obtain⟨x,a,d,rfl,e,f⟩:=h;exact⟨x,a,d,⟨b 0 _ rfl,b 1 _ rfl,b 2 _ rfl,b 3 _ rfl⟩,e,f.at' (Bv _)⟩
def Xp{h e:LV}{n:Nat}(b:h.length=n)(H:Iu P w e)(a:∀j u,(h++e)[j]?=some u->w.cell? (aD g (off+j))=some u):∃x,Sr w.heap.size w g (off+n) x:=
 FB H λj u hu=>by
  have:=a (n+j) u (by rw[Nf (by omega),show n+j-h.length=j by omega];exact hu);rwa [show off+n+j=off+(n+j) by omega]
def ZA(H:Mq 0 P w c)(a:∀j u,c[j]?=some u->w.cell? (aD g (off+j))=some u):∃x,Is w.heap.size w g off x:=by
 obtain⟨h,e,rfl,⟨s,rfl,b⟩,d,-⟩:=H;have⟨x,f⟩:=Xp (n:=1) rfl (d (by decide)) a;exact⟨⟨s,x⟩,a 0 _ rfl,b,f⟩
def Ym(H:Mq 1 P w c)(a:∀j u,c[j]?=some u->w.cell? (aD g (off+j))=some u):∃x,Zs w.heap.size w g off x:=by
 obtain⟨h,e,rfl,⟨n,s,rfl,b,d⟩,f,-⟩:=H;have⟨x,i⟩:=Xp (n:=2) rfl (f (by decide)) a;exact⟨⟨n,s,x⟩,a 0 _ rfl,a 1 _ rfl,d,b,i⟩
def YZ(H:Mq 2 P w c)(a:∀j u,c[j]?=some u->w.cell? (aD g (off+j))=some u):∃x,Zt w.heap.size w g off x:=by
 obtain⟨h,e,rfl,⟨n,rfl,b⟩,d,-⟩:=H;have⟨x,f⟩:=Xp (n:=1) rfl (d (by decide)) a;exact⟨⟨n,x⟩,a 0 _ rfl,b,f⟩
def dE(H:Mq 4 P w c)(a:∀j u,c[j]?=some u->w.cell? (aD g (off+j))=some u):∃x,Ny w.heap.size w g off x:=by
 obtain⟨h,e,rfl,⟨s,t,x,y,rfl,b,d⟩,-,f⟩:=H;obtain rfl:=f (by decide);exact⟨⟨s,t,x,y⟩,a 0 _ rfl,a 1 _ rfl,a 2 _ rfl,a 3 _ rfl,b,d⟩
def dF(H:Mq 5 P w c)(a:∀j u,c[j]?=some u->w.cell? (aD g (off+j))=some u):∃x,Oa w.heap.size w g off x:=by
 obtain⟨h,e,rfl,⟨s,x,y,rfl,b⟩,-,d⟩:=H;obtain rfl:=d (by decide);exact⟨⟨s,x,y⟩,a 0 _ rfl,a 1 _ rfl,a 2 _ rfl,b⟩
theorem Qu.fit{b:Nat}{l:List zH}(h:Qu P w b off l):∀x∈l,Ia x:=by
 induction h<;>simp_all
end
section
variable {lo cb sb n:Nat} {I0:Nat→Int} {U:Nat→Value} {C:Nat→List (LV)} {w:Wd} (S:CI lo cb sb n I0 U C w)
include S
def CI.list{X:Type}{at':List X->Nat->X}{R:Nat->Wd->Nat->Nat->X->Prop}{k:Nat}(f:k<6)(D:n<=2^47)(o:∀(l:List X) (i:Nat) (h:i<l.length),at' l i=l[i]) 
 (r:∀(g off:Nat) (c:LV) (P:Nat->Prop),Mq k P w c->(∀j u,c[j]?=some u->w.cell? (aD g (off+j))=some u)->∃x,R w.heap.size w g off x):
 ∃(a:Ae) (b:Nat) (l:List X),U k=CU a l.length b/\l.length<=b/\b<=9223372036854775807/\Pk (Nm k) at' R w.heap.size w a l:=by
 have⟨a,b,e,E,q,s⟩:=Sw (S.own k f);have d:∀c∈C k,c.length=Nm k:=λc p=>((S.ok k f c p).len f).1;have t:=S.len k f;rcases s with v|⟨g,rfl,F,y,p⟩;exact⟨a,b, [],by rw[e,v];rfl,Bg _,q,by simp,.inl rfl⟩;have⟨l,z,A⟩:=Xy (B:=w.heap.size) (w:=w) (g:=g) (n:=Nm k) (m:=(C k).length) (C:=R) o λi hi=>r g (i*Nm k) ((C k)[i]) _ (S.ok k f _ (gM hi)) λj u hu=>p _ u (by
  rw[Zy _ d i hi j (by rw[<-d _ (gM hi)];exact(List.getElem?_eq_some_iff.1 hu).1)];exact hu)
 exact⟨_,b,l,by rw[e,z],by omega,q,by omega,.inr ⟨g,0,rfl,y,A⟩⟩
theorem CI.exprs(r:n<=2^47):∃(a:Ae) (d:Nat) (l:List zH),U 3=CU a l.length d/\l.length<=2^47/\(∀x∈l,Ia x)/\Et w.heap.size w a l:=by
 have⟨a,d,e,s,k,m⟩:=Sw (S.own 3 (by decide));have o:=S.len 3 (by decide);rcases m with p|⟨g,rfl,t,v,i⟩;exact⟨a,d, [],by rw[e,p];rfl,by simp,(λx f=>by cases f),0,0,λh=>(h rfl).elim,.nil 0 0⟩;have⟨l,q,f⟩:=sB (P:=λ_=>True) (w:=w) (b:=g) trivial (C 3) 0 (λc i=>by
  obtain⟨h,e,rfl,rfl,k,-⟩:=S.ok 3 (by decide) c i;exact(k (by decide)).step λ_ _ _=>⟨trivial,rfl⟩) (λj u hu=>by simp_all)
 exact⟨_,d,l,by rw[e,q],by omega,f.fit,g,0,λ_=>rfl,f.at' (Bv _)⟩
def CI.con(a:n<=2^47):∃(c:Ad) (p:Bd),#[Bn (I0 0),Bn (I0 1),Bn (I0 2),Bn (I0 3),Bn (I0 4),Bn (I0 5),Bn (I0 6),U 0,U 1,U 2,U 3,U 4,U 5,Bn (I0 7)]=Wb c p/\
 (c.cs.length<=p.cc/\p.cc<=9223372036854775807)/\Kb w.heap.size w c p:=by
 have⟨b,d,e,f,g,j,m⟩:=S.list (k:=0) (at':=Ak) (R:=Is) (by decide) a (λl i h=>by simp[Ak,h]) λ_ _ _ _=>ZA;have⟨o,q,r,s,X,Y,t⟩:=S.list (k:=1) (at':=Ah) (R:=Zs) (by decide) a (λl i h=>by simp[Ah,h]) λ_ _ _ _=>Ym;have⟨u,v,x,y,Z,g2,z⟩:=S.list (k:=2) (at':=Aq) (R:=Zt) (by decide) a (λl i h=>by simp[Aq,h]) λ_ _ _ _=>YZ;have⟨A,B,C,D,E,F,G⟩:=S.exprs a;have⟨H,K,L,M,f4,g4,N⟩:=S.list (k:=4) (at':=Bc) (R:=Ny) (by decide) a (λl i h=>by simp[Bc,h]) λ_ _ _ _=>dE;have⟨P,Q,T,V,f5,g5,W⟩:=S.list (k:=5) (at':=Bi) (R:=Oa) (by decide) a (λl i h=>by simp[Bi,h]) λ_ _ _ _=>dF;exact⟨⟨I0 0,I0 1,I0 2,I0 3,I0 4,I0 5,I0 6,e,r,x,C,L,T,I0 7⟩,⟨b,d,o,q,u,v,A,B,H,K,P,Q⟩,by rw[f,s,y,D,M,V];rfl,⟨g,j⟩,m,t,z,G,E,F,N,W⟩
end
def Fe.of_own(h:w.ownsRow b 290 4 v L.length L.flatten)(z:cb<b/\sb<b)(o:∀c∈L,Oe m c)(A:m<=2^47)(p:L.length<=400):Fe cb sb w v L.length:=by
 obtain⟨a,f,rfl,q,r,s⟩:=Sw h;refine⟨p,a,f,rfl,q,r,λhp=>?_⟩;rcases s with B|⟨g,rfl,C,x,l⟩;omega;refine⟨g,0,rfl,⟨by omega,by omega⟩,λj hj=>?_⟩;have d:∀c∈L,c.length=4:=λc l=>by
  obtain⟨k,n,a,t,rfl,_⟩:=o c l;rfl
 have⟨k,n,a,t,e,D,y⟩:=o _ (gM hj);have G:∀i u,L[j][i]?=some u->i<4->w.cell? (aD g (0+j*4+i))=some u:=λi u hu hi=>by
  rw[Nat.zero_add];exact l _ u (by rw[Zy _ d j hj i hi];exact hu)
 rw[e]at G;exact⟨k,t,n,a,G 0 _ rfl (by decide),G 1 _ rfl (by decide),G 2 _ rfl (by decide),G 3 _ rfl (by decide),by omega,y⟩
def lV:Nat->Int:=λj=>if j=3 then 1440 else if j=4 then 2880 else 0
def CI.start(a:w.heap[cb]?=some (.cells #[Bn 0,Bn 0,Bn 0,Bn 1440,Bn 2880,Bn 0,Bn 0,Ls,Ls,Ls,Ls,Ls,Ls,Bn 0] 35 (0,0)))(b:w.heap[sb]?=some (.cells #[.bool false,.bool false,.bool false,.bool false,.bool false,.bool false,.bool false] 225 (0,0)))(h:cb<lo/\sb<lo/\cb≠sb):CI lo cb sb 0 lV (λ_=>Ls) (λ_=> []) w where
 box:=a
 seen:=⟨λ_=>false,b⟩
 own k _:=World.ownsRow_nil ..
 ok k _ c hc:=by cases hc
 len k _:=Bv _
 lt:=h
section
variable {lo cb sb n:Nat} {I0:Nat→Int} {U:Nat→Value} {C:Nat→List (LV)} {w:Wd} (S:CI lo cb sb n I0 U C w)
include S
def CI.other{b i:Nat}{v:Value}(a:b<lo)(d:b≠cb)(e:b≠sb):CI lo cb sb n I0 U C (w.setCell (aD b i) v) where
 box:=(Below.heap_setCell w (aD b i) v cb (Ne.symm d)).trans S.box
 seen:=by
  have⟨s,q⟩:=S.seen;exact⟨s,(Below.heap_setCell w (aD b i) v sb (Ne.symm e)).trans q⟩
 own k hk:=ownsRow_setCell_below (S.own k hk) a v
 ok k hk c hc:=(S.ok k hk c hc).step λx hx hP=>⟨hP,Below.heap_setCell w (aD b i) v x (by have:=hP.1;show x≠b;omega)⟩
 len:=S.len
 lt:=S.lt
def CI.others{b:Nat}(a:b<lo)(c:b≠cb)(d:b≠sb)(l:LV)(i:Nat):CI lo cb sb n I0 U C (stN b i l w):=by
 induction l generalizing i w with
 |nil=>exact S
 |cons v l ih=>exact ih (S.other a c d) (i+1)
def CI.valid(a:n<=2^47):Calls prog 122 #[.agg #[(I0 0),(I0 1),(I0 2),(I0 3),(I0 4),(I0 5),(I0 6),U 0,U 1,U 2,U 3,U 4,U 5,(I0 7)]] w λe w'=>∃k:Int,e=.returned k/\Bw w w':=by
 have⟨c,p,e,_,h⟩:=S.con a;rw[e];exact(tO c p w _ (Bv _) h).mono λe w' ⟨h1,h2⟩=>⟨_,h1,h2⟩
end
def cH(v:Value)(W:Wd):Prop:=∃(c:Ad) (p:Bd),v=.agg (Wb c p)/\(c.cs.length<=p.cc/\p.cc<=9223372036854775807)/\Kb W.heap.size W c p
def Sz(w:Wd)(e:Ending)(w':Wd):Prop:=∃(v:Value) (k er:Int),e=.returned (.tuple #[v,k,er])/\Fr w w' (cH v)/\Below w.heap.size w w'
def CI.fr{a:Nat->Int}(S:CI lo cb sb n a U C w')(h:w.heap.size<=cb/\w.heap.size<=sb/\w.heap.size<=lo):Fr w w' (CI lo cb sb n a U C):=λW h1 h2=>{
 box:=(h2 cb h.1 (Ag S.box)).trans S.box
 seen:=by
  have⟨s,q⟩:=S.seen;exact⟨s,(h2 sb h.2.1 (Ag q)).trans q⟩
 own:=λk hk=>rZ (S.own k hk) h.2.2 W h1 h2
 ok:=λk hk c hc=>(S.ok k hk c hc).step λx hx hP=>⟨hP,h2 x (Bf h.2.2 hP.1) hx⟩
 len:=S.len
 lt:=S.lt}
def Xa(B:Nat)(w:Wd):Kb B w ⟨0,0,0,0,0,0,0, [], [], [], [], [], [],0⟩ ⟨none,0,none,0,none,0,none,0,none,0,none,0⟩ where
 cs:=⟨by simp,.inl rfl⟩
 rs:=⟨by simp,.inl rfl⟩
 ks:=⟨by simp,.inl rfl⟩
 xs:=⟨0,0,λh=>(h rfl).elim,.nil 0 0⟩
 creditN:=by simp
 creditF x hx:=by cases hx
 ls:=⟨by simp,.inl rfl⟩
 oz:=⟨by simp,.inl rfl⟩
def Ry{w:Func}{v3 h i k m n e g x y:Value}(z:w.results=#[.cell 2 35,.tmp 3,.tmp 4])(A:a.getD 2 undef=Ua b 0)(B:a.getD 3 undef=x)(C:a.getD 4 undef=y) 
 (q:W.heap[b]?=some (.cells #[v0,v1,v2,v3,h,i,k,l,m,n,c,d,e,g] 35 f)):(results w a).run prog W=.ok (.tuple #[.agg #[v0,v1,v2,v3,h,i,k,l,m,n,c,d,e,g],x,y]) W:=by
 have D:W.cell? (aD b 0)=some v0:=(EE 0 q rfl);have E:W.cell? (aD b 1)=some v1:=(EE 1 q rfl);have F:W.cell? (aD b 2)=some v2:=(EE 2 q rfl);have G:W.cell? (aD b 3)=some v3:=(EE 3 q rfl);have H:W.cell? (aD b 4)=some h:=(EE 4 q rfl);have K:W.cell? (aD b 5)=some i:=(EE 5 q rfl);have L:W.cell? (aD b 6)=some k:=(EE 6 q rfl);have M:W.cell? (aD b 7)=some l:=(EE 7 q rfl);have N:W.cell? (aD b 8)=some m:=(EE 8 q rfl);have P:W.cell? (aD b 9)=some n:=(EE 9 q rfl);have o:W.cell? (aD b 10)=some c:=(EE 10 q rfl);have p:W.cell? (aD b 11)=some d:=(EE 11 q rfl);have r:W.cell? (aD b 12)=some e:=(EE 12 q rfl);have s:W.cell? (aD b 13)=some g:=(EE 13 q rfl);have t:a[2]?.getD undef=Ua b 0:=by simpa using A
 have u:a[3]?.getD undef=x:=by simpa using B
 have v:a[4]?.getD undef=y:=by simpa using C
 simp[results,z,go_sem,t,u,v,D,E,F,G,H,K,L,M,N,P,o,p,r,s]
def Sz.zero(k c:Int)(a:b=w.heap.size)(d:Bw w W):Sz w (.returned (.tuple #[.agg #[Bn 0,Bn 0,Bn 0,Bn 0,Bn 0,Bn 0,Bn 0,Ls,Ls,Ls,Ls,Ls,Ls,Bn 0],k,c])) (stN b 0 [Bn 0,Bn 0,Bn 0,Bn 0,Bn 0,Bn 0,Bn 0,Ls,Ls,Ls,Ls,Ls,Ls,Bn 0] W):=
 ⟨_,k,c,rfl,λW' _ _=>⟨_,_,rfl,⟨Bg _,Bg _⟩,Xa _ _⟩,Tt (Nat.le_of_eq a.symm) _ _ _ d⟩
def Sz.ok{a:Nat->Int}(k f:Int)(d:b=w.heap.size)(g:Bw w W)(S:CI lo cb sb n a U C W)(i:n<=2^47)(h:b<lo/\b<cb/\b<sb):
 Sz w (.returned (.tuple #[.agg #[(a 0),(a 1),(a 2),(a 3),(a 4),(a 5),(a 6),U 0,U 1,U 2,U 3,U 4,U 5,(a 7)],k,f])) (stN b 0 [Bn (a 0),Bn (a 1),Bn (a 2),Bn (a 3),Bn (a 4),Bn (a 5),Bn (a 6),U 0,U 1,U 2,U 3,U 4,U 5,Bn (a 7)] W):=
 ⟨_,k,f,rfl,((S.others h.1 (Nat.ne_of_lt h.2.1) (Nat.ne_of_lt h.2.2) [Bn (a 0),Bn (a 1),Bn (a 2),Bn (a 3),Bn (a 4),Bn (a 5),Bn (a 6),U 0,U 1,U 2,U 3,U 4,U 5,Bn (a 7)] 0).fr ⟨by omega,by omega,by omega⟩).imp λW' S'=>by
  have⟨c,p,e,j,l⟩:=S'.con i;exact⟨c,p,by rw[e],j,l⟩,Tt (Nat.le_of_eq d.symm) _ _ _ g⟩
def ZP{c:Nat}{L:LB}(h:w.ownsRow c 9 1 v L.length (L.map Value.string)):∃a b,v=CU a L.length b/\(L.length=0\/∃g,a=some (aD g 0)/\g<w.heap.size/\∀k (hk:k<L.length),w.cell? (aD g k)=some (B_ L[k])):=by
 obtain⟨a,b,rfl,e,f,d⟩:=Sw h;refine⟨a,b,rfl,d.imp_right λ⟨g,h4,h5,h6,h7⟩=>⟨g,h4,h6,λk hk=>h7 k _ (by simp[hk])⟩⟩
def XT(s:BA)(w:Wd)(hs:s.size<=2^47):Calls prog 71 #[B_ s] w (Sz w):=by
 go_in;go_wp2_with fail;have⟨l,b2⟩:=aT w.heap.size;have B1:=I (J w jA);have q1:=zh w jA;simp only[<-b2]at q1 ⊢;have F:=I b2;have f2:w.heap.size<=l/\l<=w.heap.size:=by omega
 clear b2;generalize w.alloc jA=w1 at*;refine(YC s _ hs).mono ?_;rintro e w2 ⟨v,k,L,rfl,hL,hO,hn,B2⟩;have d:=Ac B2 q1;have b3:=fE B1 B2;obtain⟨la,lc,rfl,b5⟩:=ZP hO;have HL:=I hL;have HA:=I b5;clear B1 q1 B2 hO hL b5;cases e0:(k !=0);rotate_left
 . have G:=D_ d;have Y:=CH d;have al:=Ag d;have Q:(stN l 0 [Bn 0,Bn 0,Bn 0,Bn 0,Bn 0,Bn 0,Bn 0,Ls,Ls,Ls,Ls,Ls,Ls,Bn 0] w2).heap[l]?=some jA:=Pr [Bn 0,Bn 0,Bn 0,Bn 0,Bn 0,Bn 0,Bn 0,Ls,Ls,Ls,Ls,Ls,Ls,Bn 0] [] [Bn 0,Bn 0,Bn 0,Bn 0,Bn 0,Bn 0,Bn 0,Ls,Ls,Ls,Ls,Ls,Ls,Bn 0] w2 rfl d;have R:=Sz.zero 0 k F.1 b3.1;simp only[stN,Nat.zero_add,Nat.reduceAdd]at Q R;have HQ:=I Q;have HR:=I R;clear Q R;go_wp2_with fail;refine bP (Ry rfl rfl rfl rfl HQ.1) rfl ?_;exact HR.1
 have⟨cb,n⟩:=aT w2.heap.size;have f4:l<cb:=by rw[n];exact Ag d
 go_wp2_with fail;have S0:CI (cb+2) cb (cb+1) 0 lV (λ_=>Ls) (λ_=> []) ((w2.alloc jG).alloc jN):=by
  refine CI.start ?_ ?_ ⟨by omega,by omega,by omega⟩;rw[n];exact zd (zh _ _);have:=zh (w2.alloc jG) jN;rwa [zr,<-n]at this
 have B3:=Ab (J w2 jG) (J _ jN);have f5:((w2.alloc jG).alloc jN).heap.size=cb+2:=by rw[zr,zr,<-n]
 have q3:=I (Ac B3 d);have A:=fE b3 B3;have b6:=I S0;clear b3 S0 d;have d0:=I n;simp only[<-n];clear n;generalize (w2.alloc jG).alloc jN=w3 at*;have d1:Af (L.length=0\/∃g,la=some (aD g 0)/\g<cb/\∀k (hk:k<L.length),w3.cell? (aD g k)=some (B_ L[k])):=I (HA.1.imp_right λ⟨g,h1,h2,h3⟩=>⟨g,h1,by have:=d0.1;omega,λk hk=>(World.cell?_of_block (a:=aD g k) (B3.block g h2)).trans (h3 k hk)⟩);clear HA B3;go_loopw [9] (λi wr=>∃(j:Nat) (h:Nat->Int) (U:Nat->Value) (C:Nat->List (LV)),j<=L.length/\i=Bn j/\Af (CI (cb+2) cb (cb+1) j h U C wr)/\Af (DF (cb+2) cb (cb+1) w3 wr)) (λi _=>L.length-(intOf i).toNat);exact⟨0,lV,_,_,Bg _,rfl,b6,I (DF.refl ..)⟩;obtain⟨j,h,U,C,hj,rfl,HS,HD⟩:=hrel;have b7:∀{wx:Wd},DF (cb+2) cb (cb+1) w3 wx->wx.heap[l]?=some jA/\Bw w wx:=fun{wx} D=>⟨(D.blk l (by omega) (by omega) (by omega) (by omega)).trans q3.1,⟨D.os.trans A.1.os,D.tape.trans A.1.tape,D.output.trans A.1.output,Bf A.1.size D.size,λb hb=>(D.blk b (by omega) (by omega) (by omega) (by omega)).trans (A.1.block b hb)⟩⟩
 have HF:=I @b7;clear b7 q3 A b6;by_cases b4:j<L.length
 . have f3:(j:Int)<L.length:=by omega
   obtain⟨g,rfl,hg,hc⟩:=d1.1.resolve_left (by omega);have c1:wr.cell? (aD g j)=some (B_ L[j]):=(World.cell?_of_block (a:=aD g j) (HD.1.blk g (by omega) (by omega) (by omega) (by omega))).trans (hc j b4);have cl:g<wr.heap.size:=As (by omega) HD.1.size;clear hc;go_wp2_with fail;refine(ZJ L[j] _ (HL.1 _ (gM b4))).mono ?_;rintro e w5 ⟨v,p,k,T,rfl,hT,hO,d2,m⟩;have E:=I (HS.1.below m);have D5:=I (HD.1.trans (DF.of m));have d3:cb+2<=wr.heap.size:=by have:=HD.1.size;omega
   have TX:=I (Fe.of_own hO (cb:=cb) (sb:=cb+1) ⟨by omega,by omega⟩ hT (by have:=HL.1 _ (gM b4);omega) d2);obtain⟨va,vc,rfl⟩:=Js hO;have h5:=m.size;clear hT hO m HS HD c1 cl;cases e1:(k==0)
   . have e2:(k !=0)=true:=by simp[bne,e1]
     have⟨c,m⟩:=HF.1 D5.1;have B:=I m;clear m;have G:=D_ c;have Y:=CH c;have al:=Ag c;have Q:(stN l 0 [Bn 0,Bn 0,Bn 0,Bn 0,Bn 0,Bn 0,Bn 0,Ls,Ls,Ls,Ls,Ls,Ls,Bn 0] w5).heap[l]?=some jA:=Pr [Bn 0,Bn 0,Bn 0,Bn 0,Bn 0,Bn 0,Bn 0,Ls,Ls,Ls,Ls,Ls,Ls,Bn 0] [] [Bn 0,Bn 0,Bn 0,Bn 0,Bn 0,Bn 0,Bn 0,Ls,Ls,Ls,Ls,Ls,Ls,Bn 0] w5 rfl c;have R:=Sz.zero (j+1) k F.1 B.1;simp only[stN,Nat.zero_add,Nat.reduceAdd]at Q R;have HQ:=I Q;have HR:=I R;clear Q R;go_wp2_with fail;refine bP (Ry rfl rfl rfl rfl HQ.1) rfl ?_;exact HR.1
   obtain rfl:k=0:=by simpa using e1
   by_cases h0:0<T.length
   . have d4:(0:Int)<T.length:=by omega
     go_wp2_with fail;refine(YH w5 va T.length vc E.1 TX.1 (by omega) (by omega)).mono ?_;rintro e w6 ⟨kk,J0,U1,C1,rfl,S6,D6⟩;have d5:=I S6;have b8:=I (D5.1.trans D6);clear S6 D6 E D5 TX;cases e3:(kk !=0)
     . go_wp2;go_roundw;exact⟨j+1,_,_,_,by omega,by go_num,d5,b8⟩;simp[intOf];omega
     have⟨c,m⟩:=HF.1 b8.1;have B:=I m;clear m;have G:=D_ c;have Y:=CH c;have al:=Ag c;have Q:(stN l 0 [Bn 0,Bn 0,Bn 0,Bn 0,Bn 0,Bn 0,Bn 0,Ls,Ls,Ls,Ls,Ls,Ls,Bn 0] w6).heap[l]?=some jA:=Pr [Bn 0,Bn 0,Bn 0,Bn 0,Bn 0,Bn 0,Bn 0,Ls,Ls,Ls,Ls,Ls,Ls,Bn 0] [] [Bn 0,Bn 0,Bn 0,Bn 0,Bn 0,Bn 0,Bn 0,Ls,Ls,Ls,Ls,Ls,Ls,Bn 0] w6 rfl c;have R:=Sz.zero (j+1) kk F.1 B.1;simp only[stN,Nat.zero_add,Nat.reduceAdd]at Q R;have HQ:=I Q;have HR:=I R;clear Q R;go_wp2_with fail;refine bP (Ry rfl rfl rfl rfl HQ.1) rfl ?_;exact HR.1
   have d4:T.length=0:=by omega
   go_wp2;go_roundw;exact⟨j+1,_,_,_,by omega,by go_num,I (E.1.more (Nat.le_succ _)),D5⟩;simp[intOf];omega
 obtain rfl:j=L.length:=by omega
 have d3:cb+2<=wr.heap.size:=by have:=HD.1.size;omega
 have f:=HS.1.box;have b9:=D_ f;have bl:=Ag f;clear f;go_wp2_with fail;refine(HS.1.valid (by omega)).mono ?_;rintro e w5 ⟨k,rfl,m⟩;have E:=I (HS.1.below m);have D5:=I (HD.1.trans (DF.of m));clear b9 bl;clear HS HD m;have⟨c,m⟩:=HF.1 D5.1;have B:=I m;clear m;cases e1:(k !=0);rotate_left
 . have G:=D_ c;have Y:=CH c;have al:=Ag c;have Q:(stN l 0 [Bn 0,Bn 0,Bn 0,Bn 0,Bn 0,Bn 0,Bn 0,Ls,Ls,Ls,Ls,Ls,Ls,Bn 0] w5).heap[l]?=some jA:=Pr [Bn 0,Bn 0,Bn 0,Bn 0,Bn 0,Bn 0,Bn 0,Ls,Ls,Ls,Ls,Ls,Ls,Bn 0] [] [Bn 0,Bn 0,Bn 0,Bn 0,Bn 0,Bn 0,Bn 0,Ls,Ls,Ls,Ls,Ls,Ls,Bn 0] w5 rfl c;have R:=Sz.zero 0 k F.1 B.1;simp only[stN,Nat.zero_add,Nat.reduceAdd]at Q R;have HQ:=I Q;have HR:=I R;clear Q R;go_wp2_with fail;refine bP (Ry rfl rfl rfl rfl HQ.1) rfl ?_;exact HR.1
 have⟨f6,f7,d6⟩:=Js (E.1.own 0 (by decide));have⟨f8,f9,d7⟩:=Js (E.1.own 1 (by decide));have⟨g0,g1,d8⟩:=Js (E.1.own 2 (by decide));have⟨g2,g3,d9⟩:=Js (E.1.own 3 (by decide));have⟨g4,g5,f0⟩:=Js (E.1.own 4 (by decide));have⟨g6,g7,f1⟩:=Js (E.1.own 5 (by decide));have R:=Sz.ok 0 0 F.1 B.1 E.1 (by omega) ⟨by omega,by omega,by omega⟩;have Q:(stN l 0 [Bn (h 0),Bn (h 1),Bn (h 2),Bn (h 3),Bn (h 4),Bn (h 5),Bn (h 6),U 0,U 1,U 2,U 3,U 4,U 5,Bn (h 7)] w5).heap[l]?=some (.cells #[(h 0),(h 1),(h 2),(h 3),(h 4),(h 5),(h 6),U 0,U 1,U 2,U 3,U 4,U 5,(h 7)] 35 (0,0)):=Pr [Bn (h 0),Bn (h 1),Bn (h 2),Bn (h 3),Bn (h 4),Bn (h 5),Bn (h 6),U 0,U 1,U 2,U 3,U 4,U 5,Bn (h 7)] [] [Bn 0,Bn 0,Bn 0,Bn 0,Bn 0,Bn 0,Bn 0,Ls,Ls,Ls,Ls,Ls,Ls,Bn 0] w5 rfl c;simp only[stN,Nat.zero_add,Nat.reduceAdd,d6,d7,d8,d9,f0,f1]at Q R;have HQ:=I Q;have HR:=I R;clear Q R;have f:=E.1.box;have b9:=D_ f;have bl:=Ag f;clear f;have G:=D_ c;have Y:=CH c;have al:=Ag c;clear c;go_wp2_with fail;refine bP (Ry rfl rfl rfl rfl HQ.1) rfl ?_;exact HR.1
