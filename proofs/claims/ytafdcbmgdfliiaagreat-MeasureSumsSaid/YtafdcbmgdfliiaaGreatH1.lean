/- a part of the proof -/
import Derived.Test.YtafdcbmgdfliiaaGreatGX
set_option linter.all false
set_option maxRecDepth 100000
set_option maxHeartbeats 3000000
namespace Go.Proofs.YtafdcbmgdfliiaaGreat
open Go.RowKit Go.Sort Go.Proofs.Tryz
variable {s:BA}
def Ro(w:Wd)(g n:Nat)(f:Nat->LI):Prop:=∃C,w.heap[g]?=some (Obj.cells C 22)/\∀i,i<n->∃b,C[i]?=some (.slice (some (aD b 0)) 11 11)/\b<w.heap.size/\b≠g/\∀j,j<11->w.cell? (aD b j)=some (Bn (Am (f i) j))
def Ro.below{w w':Wd}{g n:Nat}{f:Nat->LI}(h:Ro w g n f)(a:Bw w w'):Ro w' g n f:=by
 obtain⟨C,d,e⟩:=h;refine⟨C,Ac a d,λi hi=>?_⟩;have⟨b,k,c,l,m⟩:=e i hi;exact⟨b,k,As c a.size,l,λj hj=>zj (m j hj) c a⟩
def WR:(prog.info? 22).map (λi=>(i.zero,i.size,i.bytes))=some (some Ls,1,24):=by kernel_rfl
def WQ(n:Nat)(f:n<=200)(w:Wd):(Instr.makeSlice 45 (Bn (n:Int)) (Bn (n:Int))).run prog w=.ok (Kx w.heap.size 0 n n) (w.alloc (.cells (madeCells #[Ls] n) 22)):=by
 have⟨i,b,c,d,e⟩:=info_parts WR;have a:=run_make (P:=prog) w 45 22 i Ls underlying45 b c .i64 .i64 n n (by omega) (Int.le_refl _) (by rw[e];omega) (by omega);simp only[Int.toNat_natCast,d,Nat.mul_one]at a;exact a
theorem WO(n:Nat):∀i,i<n->(madeCells #[Ls] n)[i]?=some Ls:=by
 grind[madeCells]
def VV(w:Wd)(sb:Nat)(t:At)(c:Ad)(P:Dh)(hS:Hl w sb t c P)(s:BA)(L:List Ai)(a:Ae)(cap:Nat)(h1:1<=L.length)(h6:L.length<=6)(hd:∀k,k<L.length->Cc t c (Ba L k)=0)(ha:Al Ed w a L):
 Calls prog 42 #[Ua sb 0,.agg #[B_ s,CU a L.length cap]] w λe w'=>∃g,e=.returned (Kx g 0 L.length L.length)/\Ro w' g L.length (λi=>Bo t c (Ba L i))/\Bw w w':=by
 have HS:=I hS;have HD:=I hd;have mk:=λw=>WQ L.length (by omega) w;obtain⟨db,r,rfl,B,D⟩:=fC ha (by omega);have a0:=I D;clear hS hd D ha;go_in;go_wp2_with fail;have E:=I (Ab (J w (oP s (some (aD db r)) L.length cap)) (J _ (.cells (madeCells #[Ls] L.length) 22)));have Y:=zh (w.alloc (oP s (some (aD db r)) L.length cap)) (.cells (madeCells #[Ls] L.length) 22);rw[zr]at Y;have⟨g,hg⟩:=aT (w.heap.size+1);rw[<-hg]at Y;simp only[<-hg];have HQ:=I Y;have a2:w.heap.size<=g:=by omega
 have⟨Z,v⟩:=aT (madeCells #[Ls] L.length);have F:Af ((∀i,i<L.length->∃a n c,Z[i]?=some (CU a n c))):=I (λi hi=>⟨_,_,_,by rw[v];exact WO L.length i hi⟩);clear Y mk hg;generalize (w.alloc (oP s (some (aD db r)) L.length cap)).alloc (.cells (madeCells #[Ls] L.length) 22)=W at*;rw[<-v]at HQ;clear v;go_loopw [15] (λi wr=>∃(k:Nat) (C:Array Value),k<=L.length/\i=Bn k/\Af (wr.heap[g]?=some (Obj.cells C 22))/\Af (∀i,i<L.length->∃a n c,C[i]?=some (CU a n c))/\Af (∀i,i<k->∃b,C[i]?=some (Kx b 0 11 11)/\b<wr.heap.size/\b≠g/\∀j,j<11->wr.cell? (aD b j)=some (Bn (Am (Bo t c (Ba L i)) j)))/\Af (Bw w wr)) (λi _=>L.length-(intOf i).toNat);exact⟨0,Z,Bg _,rfl,HQ,F,I (λi hi=>by omega),E⟩;clear HQ F E;obtain⟨k,C,hk,rfl,hQ,hC,hR,A⟩:=hrel;by_cases x:k<L.length
 . have⟨a',G,d0,a5,H⟩:=a0.1.below B A.1 k x;have K:=As B A.1.size;have a3:=I H;have a4:=I (HD.1 k x);have⟨o1,o2,o3,o⟩:=hC.1 k x;have f:=I o;clear H o;go_wp2_with fail;refine(gE wr sb t c P (HS.1.below A.1) (Ba L k) a' G a4.1 a3.1).mono ?_;rintro e m ⟨b,rfl,hI,l⟩;have d:=fO hQ l;have M:b≠g:=by
    rintro rfl;have⟨q,o',he,N,y⟩:=hI.cells (by show 0<11;decide);cases he;have hx:=y 0 (by show 0<11;decide);have⟨a1,n1,c1,hy⟩:=hC.1 0 (by omega);rw[EE 0 d.1 hy]at hx;cases hx
   have z:=I (show b<m.heap.size/\∀j,j<11->m.cell? (aD b j)=some (Bn (Am (Bo t c (Ba L k)) j)) by
    have⟨q,o',he,N,y⟩:=hI.cells (by show 0<11;decide);cases he;exact⟨N,λj hj=>by have:=y j hj;rwa [Nat.zero_add]at this⟩)
   have Q:=I (show ∀i,i<k->∃b,C[i]?=some (Kx b 0 11 11)/\b<m.heap.size/\b≠g/\∀j,j<11->m.cell? (aD b j)=some (Bn (Am (Bo t c (Ba L i)) j)) from λi hi=>by
    have⟨b,e1,e2,e3,e4⟩:=hR.1 i hi;exact⟨b,e1,As e2 l.size,e3,λj hj=>zj (e4 j hj) e2 l⟩)
   have R:=fE A l;have HC:=I hC.1;clear hI l hR hQ hC A d0 K;have y0:m.cell? (aD g k)=some (CU o1 o2 o3):=zm d.1 f.1;have u0:=CH d.1;have gl:=Ag d.1;go_wp2_with fail;have S:=I (zg (i:=k) (u:=Kx b 0 11 11) d.1);have T:k<C.size:=by
    have:=f.1;rcases Nat.lt_or_ge k C.size with h|h;exact h;rw[Array.getElem?_eq_none h]at this;cases this
   have U:=I (show ∀i,i<L.length->∃a n c,(C.setIfInBounds k (Kx b 0 11 11))[i]?=some (CU a n c) from λi hi=>by
    by_cases e:k=i
    . subst e;exact⟨some (aD b 0),11,11,by simp[T]⟩
    have⟨a,n,c,h⟩:=HC.1 i hi;exact⟨a,n,c,by rw[Array.getElem?_setIfInBounds_ne e];exact h⟩)
   have V:=I (show ∀i,i<k+1->∃q,(C.setIfInBounds k (Kx b 0 11 11))[i]?=some (Kx q 0 11 11)/\q<(m.setCell (aD g k) (Kx b 0 11 11)).heap.size/\q≠g/\∀j,j<11->(m.setCell (aD g k) (Kx b 0 11 11)).cell? (aD q j)=some (Bn (Am (Bo t c (Ba L i)) j)) from λi hi=>by
    by_cases e:k=i
    . subst e;exact⟨b,by simp[T],by simpa using z.1.1,M,λj hj=>(Um m (Ne.symm M) j k _).trans (z.1.2 j hj)⟩
    have⟨q,e1,e2,e3,e4⟩:=Q.1 i (by omega);exact⟨q,by rw[Array.getElem?_setIfInBounds_ne e];exact e1,by simpa using e2,e3,λj hj=>(Um m (Ne.symm e3) j k _).trans (e4 j hj)⟩)
   have X:=I (R.1.setCell (p:=aD g k) a2 (Kx b 0 11 11));clear y0 u0 gl d Q HC R z f;go_roundw;(try((repeat apply eX);refine⟨?_,rfl⟩));exact⟨k+1,_,by omega,by go_num,S,U,V,X⟩;simp[intOf];omega
 obtain rfl:k=L.length:=by omega
 go_wp2;go_ret;exact⟨g,rfl,⟨C,hQ.1,hR.1⟩,A.1⟩
def Be(t:At)(c:Ad)(L:List Ai)(j:Nat):Nat->Int
 |0=>0
 |k+1=>Be t c L j k+Am (Bo t c (Ba L k)) j
def Dp(t:At)(c:Ad)(L:List Ai):Nat->Int
 |0=>0
 |k+1=>Dp t c L k+Nw c (Bo t c (Ba L k))
def Pa(t:At)(c:Ad)(s:BA)(L:List Ai):LI:= [(L.length:Int),Be t c L 0 L.length,Be t c L 1 L.length,(z9 (zp t s).name.data.toList (zp t s).off (zp t s).sh (Bm t c (Ba L 0)).1 (Bm t c (Ba L (L.length-1))).2).2.1-(z9 (zp t s).name.data.toList (zp t s).off (zp t s).sh (Bm t c (Ba L 0)).1 (Bm t c (Ba L (L.length-1))).2).1+1,Be t c L 3 L.length,(Bm t c (Ba L (L.length-1))).2-(Bm t c (Ba L 0)).1,Dp t c L L.length]
def rM{t:At}{c:Ad}{L:List Ai}(a:zY t=0)(b:Ax c=0)(hd:∀k,k<L.length->Cc t c (Ba L k)=0)(j:Nat)(d:j<11):∀k:Nat,k<=L.length->0<=Be t c L j k/\Be t c L j k<=100000000*(k:Int)
 |0,_=>by simp[Be]
 |k+1,h=>by
  have e:=rM a b hd j d k (by omega);have f:=fB a b (hd k (by omega)) j d;rw[Be];omega
theorem rO{t:At}{c:Ad}{d:Ai}(a:zY t=0)(b:Ax c=0)(hd:Cc t c d=0):-1099511627776<=Nw c (Bo t c d)/\Nw c (Bo t c d)<=1099511627776:=by
 unfold Nw;by_cases h:(Jf c).length=0;have:=fB a b hd 3 (by decide);omega;rw[iN h];exact Ph _ (AI a b hd 0 (by omega))
def rN{t:At}{c:Ad}{L:List Ai}(a:zY t=0)(b:Ax c=0)(hd:∀k,k<L.length->Cc t c (Ba L k)=0):∀k:Nat,k<=L.length->-(1099511627776*(k:Int))<=Dp t c L k/\Dp t c L k<=1099511627776*(k:Int)
 |0,_=>by simp[Dp]
 |k+1,h=>by
  have d:=rN a b hd k (by omega);have e:=rO a b (hd k (by omega));rw[Dp];omega
theorem CT{nm:List UInt8}{o x y:Int}{l:List (Int×Int)}(a:-60000000<=x/\x<=60000000)(b:-60000000<=y/\y<=60000000):(-100000<=(z9 nm o l x y).1/\(z9 nm o l x y).1<=100000)/\-100000<=(z9 nm o l x y).2.1/\(z9 nm o l x y).2.1<=100000:=by
 unfold z9;by_cases h:zG nm o l=0;have c:=He h x;have d:=He h (y-1);all_goals grind
def VT(w:Wd)(sb:Nat)(t:At)(c:Ad)(P:Dh)(F:Hl w sb t c P)(s:BA)(L:List Ai)(a:Ae)(cap:Nat)(h1:1<=L.length)(h6:L.length<=6)(hd:∀k,k<L.length->Cc t c (Ba L k)=0)(ha:Al Ed w a L)(g gc:Nat)(hQ:Ro w g L.length (λi=>Bo t c (Ba L i))):
 Calls prog 41 #[Ua sb 0,.agg #[B_ s,CU a L.length cap],Kx g 0 L.length gc] w λe w'=>∃b,e=.returned (Kx b 0 7 7)/\zW w' (some (aD b 0)) (Pa t c s L)/\Bw w w':=by
 have g8:∀w:Wd,(Instr.makeSlice 22 (Bn 7) (Bn 7)).run prog w=.ok (Kx w.heap.size 0 7 7) (w.alloc (Obj.cells #[Bn 0,Bn 0,Bn 0,Bn 0,Bn 0,Bn 0,Bn 0] 3)):=λ_=>by kernel_rfl
 have HS:=I F;have HD:=I hd;have HQ:=I hQ;obtain⟨db,n,rfl,b9,c9⟩:=fC ha (by omega);have d0:=I c9;have g9:=I (rM F.okT F.okC hd);have d1:=I (rN F.okT F.okC hd);have h0:=I (λ(k:Nat) (hk:k<L.length) (j:Nat) (hj:j<11)=>fB F.okT F.okC (hd k hk) j hj);have HT:=I (aI F.okT F.okC);have h5:=I (Vz F.okT s);have b0:=Tq F.okT F.okC (hd 0 (by omega));have bn:=Tq F.okT F.okC (hd (L.length-1) (by omega));have⟨r,T⟩:=aT ((Bm t c (Ba L 0)).1);have⟨z,U⟩:=aT ((Bm t c (Ba L (L.length-1))).2);have d2:=I T.symm;have d3:=I U.symm;have i8:IntKind.i64.wrap (z-r)=z-r:=by rw[wI,T,U];omega
 have d4:=CT (nm:=(zp t s).name.data.toList) (o:=(zp t s).off) (l:=(zp t s).sh) (x:=r) (y:=z) (by omega) (by omega);have⟨f1,a9⟩:=C_ ((z9 (zp t s).name.data.toList (zp t s).off (zp t s).sh r z).1);have⟨f2,b1⟩:=C_ ((z9 (zp t s).name.data.toList (zp t s).off (zp t s).sh r z).2.1);rw[<-a9,<-b1]at d4;have h7:=I a9.symm;have h8:=I b1.symm;have i9:IntKind.i64.wrap (f2-f1)=f2-f1:=by rw[wI];omega
 have j0:IntKind.i64.wrap (f2-f1+1)=f2-f1+1:=by rw[wI];omega
 have j1:IntKind.i64.wrap ((L.length:Int)-1)=(L.length:Int)-1:=by rw[wI];omega
 have HV:=I (show Pa t c s L= [(L.length:Int),(Be t c L 0 L.length),(Be t c L 1 L.length),f2-f1+1,(Be t c L 3 L.length),z-r,(Dp t c L L.length)] by
  rw[Pa,T,U,a9,b1,T,U])
 have FD:=I (aI (λw:Wd=>(by kernel_rfl:(Instr.field 186 (.agg #[r,Bn (Bm t c (Ba L 0)).2]) 0).run prog w=.ok (Bn r) w)) (λw:Wd=>(by kernel_rfl:(Instr.field 186 (.agg #[Bn (Bm t c (Ba L (L.length-1))).1,z]) 1).run prog w=.ok (Bn z) w)));clear F hd hQ ha c9 b0 bn T U a9 b1 d4;go_in;go_wp2_with fail;have⟨pb,c4⟩:=aT w.heap.size;have⟨d,V⟩:=aT (w.heap.size+1);have b2:=Ab (J w (oP s (some (aD db n)) L.length cap)) (J _ (Obj.cells #[(L.length:Int),Bn 0,Bn 0,Bn 0,Bn 0,Bn 0,Bn 0] 3));have hp:=zd (o':=(Obj.cells #[(L.length:Int),Bn 0,Bn 0,Bn 0,Bn 0,Bn 0,Bn 0] 3)) (zh w (oP s (some (aD db n)) L.length cap));have hv:=zh (w.alloc (oP s (some (aD db n)) L.length cap)) (Obj.cells #[(L.length:Int),Bn 0,Bn 0,Bn 0,Bn 0,Bn 0,Bn 0] 3);rw[zr]at hv;rw[<-c4]at hp;rw[<-V]at hv;simp only[<-V];simp only[<-c4];have Q:w.heap.size<=d:=by omega
 have W:pb≠d:=by omega
 have d5:=I hp;have d6:=I hv;have b2:=I b2;clear g8 c4 V hp hv;generalize (w.alloc (oP s (some (aD db n)) L.length cap)).alloc (Obj.cells #[(L.length:Int),Bn 0,Bn 0,Bn 0,Bn 0,Bn 0,Bn 0] 3)=W0 at*;go_loopw [21] (λi wr=>∃(k:Nat),k<=L.length/\i=Bn k/\Af (wr.heap[d]?=some (Obj.cells #[(L.length:Int),(Be t c L 0 k),(Be t c L 1 k),Bn 0,(Be t c L 3 k),Bn 0,(Dp t c L k)] 3))/\Af (wr.heap[pb]?=some (oP s (some (aD db n)) L.length cap))/\Af (Bw w wr)) (λi _=>L.length-(intOf i).toNat);exact⟨0,Bg _,rfl,d6,d5,b2⟩;clear d6 d5 b2;obtain⟨k,hk,rfl,hV,hP,hB⟩:=hrel;by_cases R:k<L.length
 . have B:=I hV.1;have b4:=I hP.1;have X:=I hB.1;have G:=I (λ(j:Nat) (hj:j<11)=>aI (g9.1 j hj k (by omega)) (h0.1 k R j hj));have d7:=I (aI (d1.1 k (by omega)) (rO HT.1.1 HT.1.2 (HD.1 k R)));have d8:=I (aI (AI HT.1.1 HT.1.2 (HD.1 k R)) (Bf (NT HT.1.2) (show 1<=2^47 by decide)));have⟨C,hC,d9⟩:=HQ.1.below hB.1;have⟨b,Y,e2,e3,e4⟩:=d9 k R;have g0:wr.cell? (aD g k)=some (Kx b 0 11 11):=zm hC Y;have gl:=Ag hC;have⟨CW,f0,b5⟩:=HQ.1;have⟨b',c5,c6,h9,f4⟩:=b5 k R;have i0:b=b':=by
    have h1:=Ac hB.1 f0;rw[hC]at h1;cases h1;rw[Y]at c5;cases c5;rfl
   subst i0;have Z:=I (λW' (h:Bw w W')=>aI (As c6 h.size) (λ(j:Nat) (hj:j<11)=>zj (f4 j hj) c6 h));clear hV hP hB hC d9 Y e2 e3 e4 f0 b5 c5 c6 h9 f4;go_wp2_with fail;clear g0 gl;have y1:=zu B.1;have u1:=CH B.1;have vl:=Ag B.1;have⟨dl,dc⟩:=Z.1 _ X.1;have c0:=dc 0 (by decide);have ew:IntKind.i64.wrap ((Be t c L 0 k)+Am (Bo t c (Ba L k)) 0)=(Be t c L 0 (k+1)):=by
    have h1:=(G.1 0 (by decide)).1;have h2:=(G.1 0 (by decide)).2;rw[Be,wI];omega
   clear dc;go_wp2_with fail;go_region;have D:Af ((wr.setCell (aD d 1) (Bn (Be t c L 0 (k+1)))).drew.heap[d]?=some (Obj.cells #[(L.length:Int),(Be t c L 0 (k+1)),(Be t c L 1 k),Bn 0,(Be t c L 3 k),Bn 0,(Dp t c L k)] 3)):=I (zg (i:=1) (u:=Bn (Be t c L 0 (k+1))) B.1);have a2:=I ((X.1.setCell (p:=aD d 1) Q (Bn (Be t c L 0 (k+1)))).drew);have b6:=I (show(wr.setCell (aD d 1) (Bn (Be t c L 0 (k+1)))).drew.heap[pb]?=some (oP s (some (aD db n)) L.length cap) from(Below.heap_setCell _ _ _ _ W).trans b4.1);clear y1 u1 vl dl c0 ew B X b4;generalize (wr.setCell (aD d 1) (Bn (Be t c L 0 (k+1)))).drew=w4 at*;have y2:=zC D.1;have u2:=E_ 2 D.1;have vl:=Ag D.1;have⟨dl,dc⟩:=Z.1 _ a2.1;have c0:=dc 1 (by decide);have ew:IntKind.i64.wrap ((Be t c L 1 k)+Am (Bo t c (Ba L k)) 1)=(Be t c L 1 (k+1)):=by
    have h1:=(G.1 1 (by decide)).1;have h2:=(G.1 1 (by decide)).2;rw[Be,wI];omega
   clear dc;go_wp2_with fail;go_region;have E:Af ((w4.setCell (aD d 2) (Bn (Be t c L 1 (k+1)))).drew.heap[d]?=some (Obj.cells #[(L.length:Int),(Be t c L 0 (k+1)),(Be t c L 1 (k+1)),Bn 0,(Be t c L 3 k),Bn 0,(Dp t c L k)] 3)):=I (zg (i:=2) (u:=Bn (Be t c L 1 (k+1))) D.1);have a3:=I ((a2.1.setCell (p:=aD d 2) Q (Bn (Be t c L 1 (k+1)))).drew);have b7:=I (show(w4.setCell (aD d 2) (Bn (Be t c L 1 (k+1)))).drew.heap[pb]?=some (oP s (some (aD db n)) L.length cap) from(Below.heap_setCell _ _ _ _ W).trans b6.1);clear y2 u2 vl dl c0 ew D a2 b6;generalize (w4.setCell (aD d 2) (Bn (Be t c L 1 (k+1)))).drew=w5 at*;have y4:=Ks E.1;have u4:=CH E.1;have vl:=Ag E.1;have⟨dl,dc⟩:=Z.1 _ a3.1;have c0:=dc 3 (by decide);have ew:IntKind.i64.wrap ((Be t c L 3 k)+Am (Bo t c (Ba L k)) 3)=(Be t c L 3 (k+1)):=by
    have h1:=(G.1 3 (by decide)).1;have h2:=(G.1 3 (by decide)).2;rw[Be,wI];omega
   clear dc;go_wp2_with fail;go_region;have H:Af ((w5.setCell (aD d 4) (Bn (Be t c L 3 (k+1)))).drew.heap[d]?=some (Obj.cells #[(L.length:Int),(Be t c L 0 (k+1)),(Be t c L 1 (k+1)),Bn 0,(Be t c L 3 (k+1)),Bn 0,(Dp t c L k)] 3)):=I (zg (i:=4) (u:=Bn (Be t c L 3 (k+1))) E.1);have a4:=I ((a3.1.setCell (p:=aD d 4) Q (Bn (Be t c L 3 (k+1)))).drew);have b8:=I (show(w5.setCell (aD d 4) (Bn (Be t c L 3 (k+1)))).drew.heap[pb]?=some (oP s (some (aD db n)) L.length cap) from(Below.heap_setCell _ _ _ _ W).trans b7.1);clear y4 u4 vl dl c0 ew E a3 b7;generalize (w5.setCell (aD d 4) (Bn (Be t c L 3 (k+1)))).drew=w6 at*;clear G;have ew:IntKind.i64.wrap ((Dp t c L k)+Nw c (Bo t c (Ba L k)))=(Dp t c L (k+1)):=by
    have h1:=d7.1.1;have h2:=d7.1.2;rw[Dp,wI];omega
   go_wp2_with fail;refine' Wi [⟨49, [],.kn _⟩,⟨50, [49],.kn _⟩,⟨51, [50],.kn _⟩,⟨52, [],.kn _⟩,⟨53, [],.kn _⟩,⟨54, [52,53],.kn (Bn (Nw c (Bo t c (Ba L k))))⟩,⟨55, [51,54],.kn _⟩,⟨56, [49],.kn _⟩] [0,7,9] [56,55] (λ_ h=>aI (EE 6 (Ac h H.1) rfl) (Ag (Ac h H.1))) ?h1 ?c1 ?f1
   case h1=>
    intro u;simp only[Df,Jm,↓reduceIte,Nat.reduceEqDiff];intros;and_intros
    all_goals try (first|trivial|(intros;refine Fy (by assumption) ?_;go_simp <;> rfl))
    intro A M e m g q1 q2 K kk;go_simp;have c7:=Ab a4.1 m;refine ca (KR M sb t c P (HS.1.below c7) (Bo t c (Ba L k)) (some (aD b 0)) 11 (by rw[Rd];decide) (by rw[Rd];decide) (.inr ⟨b,0,rfl,(Z.1 _ c7).1,λi hi=>by rw[Nat.zero_add];exact(Z.1 _ c7).2 i hi⟩) d8.1.1 d8.1.2) λw2 h=>?_;exact kk.1 _ _ ⟨h,rfl⟩
   case c1=>kernel_rfl
   intro u w7 m;simp only[Df,Hu,Jm,Act.put,O,↓reduceIte,Nat.reduceEqDiff];intro Y e2;have a5:=fO H m;have f5:=fE a4 m;have f6:=fO b8 m;have y6:=Mf a5.1;have u6:=CH a5.1;have vl:=Ag a5.1;go_simp;have Q8:Af ((w7.setCell (aD d 6) (Bn (Dp t c L (k+1)))).heap[d]?=some (Obj.cells #[(L.length:Int),(Be t c L 0 (k+1)),(Be t c L 1 (k+1)),Bn 0,(Be t c L 3 (k+1)),Bn 0,(Dp t c L (k+1))] 3)):=I (zg (i:=6) (u:=Bn (Dp t c L (k+1))) a5.1);have B8:=I (f5.1.setCell (p:=aD d 6) Q (Bn (Dp t c L (k+1))));have P8:=I ((Below.heap_setCell w7 (aD d 6) (Bn (Dp t c L (k+1))) pb W).trans f6.1);clear ew a5 f5 f6 y6 u6 vl Y e2 m H a4 b8;go_wp2;go_roundw;exact⟨k+1,by omega,by go_num,Q8,P8,B8⟩;simp[intOf];omega
 obtain rfl:k=L.length:=by omega
 have QV:=I hV.1;have QP:=I hP.1;have BW:=I hB.1;clear hV hP hB hk R;go_wp2_with fail;have a6:=I BW.1;have⟨a0,k0,c0,l0,t0⟩:=(d0.1.below b9 a6.1) 0 (by omega);have⟨a1,k1,c1,l1,t1⟩:=(d0.1.below b9 a6.1) (L.length-1) (by omega);rw[Nat.add_zero]at c0;have a7:=As b9 a6.1.size;have H0:=I t0;have H1:=I t1;have i1:(0:Int)<(L.length:Int):=by omega
 have f7:0<L.length:=by omega
 have i2:(L.length:Int)-1<(L.length:Int):=by omega
 have i3:(0:Int)<=(L.length:Int)-1:=by omega
 have i4:((L.length:Int)-1).toNat=L.length-1:=by omega
 have hL:¬ L= []:=by rintro rfl;simp at h1
 have i5:¬ (L.length:Int)<1:=by omega
 have C0:=I c0;have C1:=I c1;clear c0 c1 t0 t1;refine' Gf [⟨58, [],.kn _⟩,⟨59, [],.kn _⟩,⟨60, [59],.kn _⟩,⟨61, [60],.kn _⟩,⟨62, [61],.kn _⟩,⟨63, [58,62],.kn (.agg #[r,Bn (Bm t c (Ba L 0)).2])⟩,⟨64, [63],.kn _⟩,⟨65, [],.kn _⟩,⟨66, [],.kn _⟩,⟨67, [66],.kn _⟩,⟨68, [],.kn _⟩,⟨69, [68],.kn _⟩,⟨70, [69],.kn _⟩,⟨71, [70],.kn _⟩,⟨72, [67,71],.kn (Ua db (n+(L.length-1)))⟩,⟨73, [72],.kn _⟩,⟨74, [65,73],.kn (.agg #[Bn (Bm t c (Ba L (L.length-1))).1,z])⟩,⟨75, [74],.kn _⟩,⟨76, [64,75],.kn _⟩,⟨10, [],.bx jP⟩,⟨1020, [10,76],.st 10 76 λ_ o=>o=(oQ r z)⟩] [0,4] [1020] (λ_ h=>aI (I (aI (zj C0.1 a7 h) (zj C1.1 a7 h))) (Kk (Ac h QP.1))) ?h2 ?c2 ?f2
 case h2=>
  intro u;simp only[Df,↓reduceIte,Nat.reduceEqDiff];intros;have f1:=FD.1.1;have f2:=FD.1.2;and_intros
  all_goals try (first|trivial|(intros;refine Fy (by assumption) ?_;go_simp <;> rfl))
  intro A M e m g q1 K k;have g2:=g.1.1.1;clear g;refine Fy k ?_;go_simp <;> rfl;intro A M e m g q1 q2 K k;go_simp;refine ca (To M sb t c P (HS.1.below (Ab BW.1 m)) (Ba L 0) a0 k0 (HD.1 0 (by omega)) (H0.1.below m)) λw2 h=>?_;exact k.1 _ _ ⟨h,by first|rw[d2.1]|rw[d3.1]⟩
  intro A M e m g q1 K k;have g2:=g.1.1.2;clear g;refine Fy k ?_;go_simp <;> rfl;intro A M e m g q1 q2 K k;go_simp;refine ca (To M sb t c P (HS.1.below (Ab BW.1 m)) (Ba L (L.length-1)) a1 k1 (HD.1 (L.length-1) (by omega)) (H1.1.below m)) λw2 h=>?_;exact k.1 _ _ ⟨h,by first|rw[d2.1]|rw[d3.1]⟩
  intro A M e m g K k;go_simp;exact k.1 _ _ ⟨J _ _,rfl,zh _ _⟩;rintro A M e m g ⟨p,h1,_,h2⟩ h3 K k;have⟨z0,z1,g0,g1,gl⟩:=fT h2;go_simp;exact k.1 undef _ ⟨p,_,h1,Qz (Qz (dP p M)),zg (i:=1) (zg (i:=0) h2),rfl⟩
 case c2=>kernel_rfl
 intro u w8 m;simp only[Df,Hu,Act.put,O,↓reduceIte,Nat.reduceEqDiff];rintro⟨sp,_,Y,c8,f8,rfl⟩;rw[Y];have QS:=I f8;have a8:=fO QV m;have f9:=fO QP m;have g3:=fE a6 m;have j2:pb≠sp:=by have h1:=Ag QP.1;have h2:wr.heap.size<=sp:=c8;omega
 have i6:d≠sp:=by have h1:=Ag QV.1;have h2:wr.heap.size<=sp:=c8;omega
 clear a6 f8 c8 a7 QV QP BW i1 f7 i2 i3 i4 hL i5 Y m C0 C1 H0 H1;have⟨x0,x1,xl⟩:=Kk QS.1;have y5:=Lg a8.1;have u5:=CH a8.1;have vl:=Ag a8.1;go_wp2_with fail;obtain⟨W9,S⟩:∃W',w8.setCell (aD d 5) (Bn (z-r))=W':=⟨_,rfl⟩;have g4:=I (show W9.heap[d]?=some (Obj.cells #[(L.length:Int),(Be t c L 0 L.length),(Be t c L 1 L.length),Bn 0,(Be t c L 3 L.length),Bn (z-r),(Dp t c L L.length)] 3) by rw[<-S];exact zg (i:=5) (u:=Bn (z-r)) a8.1);have b3:=I (show Bw w W9 by rw[<-S];exact(g3.1.setCell (p:=aD d 5) Q _));have g5:=I (show W9.heap[pb]?=some (oP s (some (aD db n)) L.length cap) by rw[<-S];exact(Below.heap_setCell _ _ _ _ W).trans f9.1);have g6:=I (show W9.heap[sp]?=some (oQ r z) by rw[<-S];exact(Below.heap_setCell _ _ _ _ (Ne.symm i6)).trans QS.1);simp only[S];clear S x0 x1 xl y5 u5 vl QS a8 f9 g3;refine' Gf [⟨85, [],.kn _⟩,⟨86, [],.kn _⟩,⟨87, [86],.kn _⟩,⟨88, [85,87],.pu λv=>∃a k,v=.agg #[B_ (zp t s).name,(zp t s).off,CU a (zp t s).sh.length k]/\Cj w a (zp t s).sh/\(zp t s).name.size<=2^47⟩,⟨89, [],.kn _⟩,⟨90, [88,89],.kn (.tuple #[Bn (z9 (zp t s).name.data.toList (zp t s).off (zp t s).sh r z).1,Bn (z9 (zp t s).name.data.toList (zp t s).off (zp t s).sh r z).2.1,Bn (z9 (zp t s).name.data.toList (zp t s).off (zp t s).sh r z).2.2])⟩,⟨84, [90],.kn _⟩,⟨91, [84],.kn _⟩,⟨92, [84],.kn _⟩,⟨93, [84],.kn _⟩,⟨11, [91],.kn _⟩,⟨12, [92],.kn _⟩,⟨13, [93],.kn _⟩] [0,4,10] [11,12,13] (λ_ h=>aI (Kk (Ac h g6.1)) (Kk (Ac h g5.1))) ?h3 ?c3 ?f3
 case h3=>
  intro u;simp only[Df,↓reduceIte,Nat.reduceEqDiff];intros;and_intros
  all_goals try (first|trivial|(intros;refine Fy (by assumption) ?_;go_simp <;> rfl))
  intro A M e m g q1 q2 K k;go_simp;refine(iW w M sb t c P HS.1 (Ab b3.1 m) s).mono ?_;rintro e' w2 ⟨a,q,rfl,h2,h3,_,h4⟩;exact k.1 _ _ ⟨h4,a,q,rfl,h2,h3⟩;rintro A M e m g ⟨a,q,h1,h2,h3⟩ q2 K k;go_simp;refine ca (WU (zp t s).name (zp t s).off r z (zp t s).sh a q M (by unfold maxLen;omega) (by have:=h5.1;omega) (h2.below (Ab b3.1 m))) λw2 h=>?_;exact k.1 _ _ ⟨h,rfl⟩
 case c3=>kernel_rfl
 intro u2 i7 m;simp only[Df,Hu,Act.put,O,↓reduceIte,Nat.reduceEqDiff];intro Y e2 e3;rw[Y,e2,e3];have N:=fO g4 m;have g7:=fE b3 m;clear Y e2 e3 m g4 b3 g5 g6;rw[h7.1,h8.1];have y3:=Hk N.1;have u3:=CH N.1;have vl:=Ag N.1;go_wp2;go_ret;have QF:(i7.setCell (aD d 3) (Bn (f2-f1+1))).heap[d]?=some (Obj.cells #[(L.length:Int),(Be t c L 0 L.length),(Be t c L 1 L.length),Bn (f2-f1+1),(Be t c L 3 L.length),Bn (z-r),(Dp t c L L.length)] 3):=zg (i:=3) (u:=Bn (f2-f1+1)) N.1;refine⟨d,rfl,.inr ⟨d,0,rfl,Ag QF,λi hi=>?_⟩,g7.1.setCell (p:=aD d 3) Q _⟩;rw[HV.1]at hi ⊢;rw[Nat.zero_add];refine zm QF ?_;rcases i with _|_|_|_|_|_|_|i <;> first|rfl|(simp at hi;omega)
def cB(w:Wd)(t:At)(c:Ad)(a:Ae)(b:Nat)(d:Ae)(ac:Nat)(fa:Ae)(fc:Nat)(p:Bd)(o:Obj):Bw w (((w.alloc (Ap t a b d ac fa fc)).alloc (Aj c p)).alloc o)/\(((w.alloc (Ap t a b d ac fa fc)).alloc (Aj c p)).alloc o).heap[w.heap.size]?=some (Ap t a b d ac fa fc)/\(((w.alloc (Ap t a b d ac fa fc)).alloc (Aj c p)).alloc o).heap[w.heap.size+1]?=some (Aj c p)/\(((w.alloc (Ap t a b d ac fa fc)).alloc (Aj c p)).alloc o).heap[w.heap.size+1+1]?=some o:=by
 have⟨e,f,g⟩:=Uy w t c a b d ac fa fc p;refine⟨Ab e (J _ _),zd f,zd g,?_⟩;have h:=zh ((w.alloc (Ap t a b d ac fa fc)).alloc (Aj c p)) o;rw[zr,zr]at h;exact h
theorem CY{t:At}{c:Ad}{L:List Ai}(h:Fu t c s L=0):Mo t s=true/\1<=L.length/\L.length<=6/\∀k,k<L.length->Cc t c (Ba L k)=0:=by
 unfold Fu at h;by_cases a:Mo t s=false;rw[iP a]at h;omega;rw[iN a]at h;by_cases d:L.length<1\/6<L.length;omega;rw[iN d]at h;by_cases b:Av (Rx t c L) 0 (L.length-0)≠0;rw[iP b]at h;exact aB h b;have e:=Ti _ _ (Classical.not_not.1 b);exact⟨by simpa using a,by omega,by omega,λk hk=>e k (by omega) (by omega)⟩
def Hs(t:At)(c:Ad)(s:BA)(L:List Ai):Int:=Sb t c (Fu t c s L)
def cA(t:At)(c:Ad)(s:BA)(L:List Ai):List (BA×Int):=if Hs t c s L=0 then(zk 3).zip (Pa t c s L) else []
def CO{t:At}{c:Ad}{L:List Ai}(h:Hs t c s L=0):cA t c s L=(zk 3).zip (Pa t c s L):=iP h
def kX{t:At}{c:Ad}{L:List Ai}(h:Hs t c s L≠0):cA t c s L= []:=iN h
def WC(t:At)(c:Ad)(N:Ae)(X:Nat)(Q:Ae)(ac:Nat)(fa:Ae)(fc:Nat)(p:Bd)(hN:Rn t c N X Q ac fa fc p)(w:Wd)(hT:Ea w t c N Q fa p)(s:BA)(L:List Ai)(b:Ae)(cap:Nat)(a0:L.length<=2^47)(hl:Al Ed w b L):Calls prog 12 #[Az t N X Q ac fa fc,Ay c p,.agg #[B_ s,CU b L.length cap]] w (Zu w (cA t c s L) (Hs t c s L)):=by
 try delta Ay Az
 have HT:=I hT;have HL:=I hl;have HN:=I hN;clear hT hl hN;go_in;go_wp2_with fail;have⟨hB,qT,qC,qP⟩:=cB w t c N X Q ac fa fc p (oP s b L.length cap);have r:=I hB;have⟨cb,u⟩:=aT (w.heap.size+1);have⟨x,y⟩:=aT (w.heap.size+1+1);rw[<-y]at qP;rw[<-u]at qC;simp only[<-y];simp only[<-u];clear u y hB;generalize ((w.alloc (Ap t N X Q ac fa fc)).alloc (Aj c p)).alloc (oP s b L.length cap)=W0 at*;have QP:=I qP;clear qT qC qP;refine(HN.1 W0 (HT.1.below r.1)).mono ?_;rintro e w1 ⟨R,z⟩;have f:=fE r z;have A:=fO QP z;clear z r QP;rcases R with⟨h,rfl⟩|⟨h,Y,rfl⟩|⟨H,P,rfl,Z,_,hn⟩
 . have h':=CN h
   have j:=I (show zY t=Hs t c s L from(Se h).symm);have HV:=I h;clear h;go_wp2;go_ret2;exact Su (kX (by rw[<-j.1];exact HV.1)) j.1 f.1
 . have h':=CN Y
   have j:=I (show Ax c=Hs t c s L from(Sc h Y).symm);have HV:=I Y;clear h Y;go_wp2;go_ret2;exact Su (kX (by rw[<-j.1];exact HV.1)) j.1 f.1
 have d:=I Z;have j:Af (Hs t c s L=Fu t c s L):=I (Pd Z.okT Z.okC);have⟨g0,g1,gl⟩:=Kk A.1;clear Z hn;go_wp2_with fail;refine(VZ w1 H t c P d.1 s L b cap a0 (HL.1.below f.1)).mono ?_;rintro e w2 ⟨rfl,l⟩;have B:=fE f l;have S:=I (d.1.below l);have T:=fO A l;clear l f d A g0 g1 gl;by_cases q:Fu t c s L=0
 . have M:=I (CY q);have m:=I (CO (j.1.trans q));have HZ:=I (j.1.trans q);rw[q];clear q j;go_wp2_with fail;obtain⟨Wd,k⟩:∃W',w2.drew=W':=⟨_,rfl⟩;have D:=I (show Bw w Wd by rw[<-k];exact B.1.drew);have U:=I (show Hl Wd H t c P by rw[<-k];exact S.1.below (An _ _).drew);have a:Wd.heap[x]?=some (oP s b L.length cap):=by rw[<-k];exact T.1
   clear B S T;refine Ys (λw'=>w'.heap[x]?=some (oP s b L.length cap)) [] (by kernel_rfl) k ?_;clear k;refine sPa (i:=0) (v:=Ua H 0) rfl ?_;try simp only[O]
   refine zx (i:=1) (v:=.agg #[B_ s,CU b L.length cap]) rfl (λw' hS'=>?_) a ?_;have⟨g0,g1,gl⟩:=Kk hS';go_simp;try simp only[O]
   refine sPa (i:=2) (v:=Ua H 0) rfl ?_;try simp only[O]
   refine zx (i:=3) (v:=.agg #[B_ s,CU b L.length cap]) rfl (λw' hS'=>?_) a ?_;have⟨g0,g1,gl⟩:=Kk hS';go_simp;try simp only[O]
   refine QY (i:=4) rfl λK hK=>?_;go_simp;refine(VV Wd H t c P U.1 s L b cap M.1.2.1 M.1.2.2.1 M.1.2.2.2 (HL.1.below D.1)).mono ?_;rintro e w4 ⟨g,rfl,hQ,E⟩;have HQ:=I hQ;have n:=I E;have d:w4.heap[x]?=some (oP s b L.length cap):=Ac E a;clear a E hQ;have a:=d;clear d;refine hK.1 _ _ (λ_ _=>a) ?_;clear hK K;try simp only[O]
   refine QY (i:=5) rfl λK hK=>?_;go_simp;refine(VT w4 H t c P (U.1.below n.1) s L b cap M.1.2.1 M.1.2.2.1 M.1.2.2.2 (HL.1.below (Ab D.1 n.1)) g L.length HQ.1).mono ?_;rintro e w5 ⟨b5,rfl,hI,F⟩;have HI:=I hI;have V:=fE n F;have d:w5.heap[x]?=some (oP s b L.length cap):=Ac F a;clear a F hI HQ n;have a:=d;clear d;refine hK.1 _ _ (λ_ _=>a) ?_;clear hK K;try simp only[O]
   refine QY (i:=6) rfl λK hK=>?_;go_simp;refine(qW 3 (by decide) (by decide) (Pa t c s L) (some (aD b5 0)) 7 w5 rfl HI.1).mono ?_;rintro e w6 ⟨C,rfl,hC,a1,W,G⟩;have a2:=fE D (Ab V.1 G);have a3:=I (We.at (show We w6 w5.heap.size (zk 3) (Pa t c s L) from⟨C,hC,W⟩) rfl);have d:w6.heap[x]?=some (oP s b L.length cap):=Ac G a;clear a hC a1 W G HI V;have a:=d;clear d;refine hK.1 _ _ (λ_ _=>a) ?_;clear hK K;try simp only[O]
   refine QY (i:=7) rfl λK hK=>?_;go_simp;refine hK.1 _ _ (λ_ h=>h) ?_;clear hK K;try simp only[O]
   refine QY (i:=8) rfl λK hK=>?_;go_simp;refine hK.1 _ _ (λ_ h=>h) ?_;clear hK K;try simp only[O]
   refine zM (by kernel_rfl) ?_;go_wp2;go_ret2;exact⟨_,_,Wa (by rw[m.1,Rf rfl] <;> rfl) HZ.1.symm,by rw[m.1];exact a3.1,a2.1⟩
 have h':=CN q
 have m:=I (kX (show Hs t c s L≠0 by rw[j.1];exact q));clear q;go_wp2;go_ret2;exact Su m.1 j.1.symm B.1
