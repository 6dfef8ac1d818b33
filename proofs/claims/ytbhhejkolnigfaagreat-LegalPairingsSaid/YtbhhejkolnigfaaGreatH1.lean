/- a part of the proof -/
import Derived.Test.YtbhhejkolnigfaaGreatGX
set_option linter.unusedVariables false
set_option linter.unusedSimpArgs false
set_option maxRecDepth 100000
set_option maxHeartbeats 51200000
namespace Go.Proofs.YtbhhejkolnigfaaGreat
open Go.RowKit Go.Sort Go.Proofs.Tryz
def QRow(w:World)(g n:Nat)(f:Nat->List Int):Prop:=∃C,w.heap[g]?=some (Obj.cells C 72)/\∀i,i<n->∃b,C[i]?=some (.slice (some ⟨b,0,none⟩) 11 11)/\b<w.heap.size/\b≠g/\∀j,j<11->w.cell? ⟨b,j,none⟩=some (.int .i64 (iAt (f i) j))
theorem QRow.below{w w':World}{g n:Nat}{f:Nat->List Int}(h:QRow w g n f)(a:Bw w w'):QRow w' g n f:=by
 obtain⟨C,d,e⟩:=h;refine⟨C,blkA a d,λi hi=>?_⟩;obtain⟨b,k,c,l,m⟩:=e i hi;exact⟨b,k,ztU c a.size,l,λj hj=>zj (m j hj) c a⟩
theorem zvV:(prog.info? 72).map (λi=>(i.zero,i.size,i.bytes))=some (some (.slice none 0 0),1,24):=by kernel_rfl
theorem zvU(n:Nat)(f:n<=200)(w:World):(Instr.makeSlice 74 (.int .i64 (n:Int)) (.int .i64 (n:Int))).run prog w=.ok (.slice (some ⟨w.heap.size,0,none⟩) n n) (w.alloc (.cells (madeCells #[.slice none 0 0] n) 72)):=by
 obtain⟨i,b,c,d,e⟩:=info_parts zvV;have a:=run_make (P:=prog) w 74 72 i (.slice none 0 0) underlying74 b c .i64 .i64 n n (by omega) (Int.le_refl _) (by rw[e];omega) (by omega);simp only[Int.toNat_natCast,d,Nat.mul_one]at a;exact a
theorem zvN(n:Nat):∀i,i<n->(madeCells #[.slice none 0 0] n)[i]?=some (.slice none 0 0):=by
 intro i a;simp[madeCells,a,Nat.mod_one]
theorem zu4(w:World)(sb:Nat)(t:TTM)(c:ConM)(P:SetP)(hS:zc6 w sb t c P)(s:ByteArray)(L:List Duty)(a:zua)(cap:Nat)(h1:1<=L.length)(h6:L.length<=6)(hd:∀k,k<L.length->za6 t c (dAt L k)=0)(ha:SlAt dutyRT w a L):
 Calls prog 33 #[.pointer (some ⟨sb,0,none⟩),.agg #[.string s,.slice a L.length cap]] w λe w'=>∃g,e=.returned (.slice (some ⟨g,0,none⟩) L.length L.length)/\QRow w' g L.length (λi=>zaZ t c (dAt L i))/\Bw w w':=by
 have HS:=I hS;have HD:=I hd;have mk:=λw=>zvU L.length (by omega) w
 obtain⟨db,r,rfl,B,D⟩:=zuQ ha (by omega);have a0:=I D;clear hS hd D ha;go_enter func33,ntmps33
 go_wp2_with fail;have E:=I (ztS (J w (oP s (some ⟨db,r,none⟩) L.length cap)) (J _ (.cells (madeCells #[.slice none 0 0] L.length) 72)));have Y:=zh (w.alloc (oP s (some ⟨db,r,none⟩) L.length cap)) (.cells (madeCells #[.slice none 0 0] L.length) 72);rw[zr]at Y;obtain⟨g,hg⟩:∃g,g=w.heap.size+1:=⟨_,rfl⟩;rw[<-hg]at Y;simp only[<-hg];have HQ:=I Y;have a2:w.heap.size<=g:=by omega
 obtain⟨Z,v⟩:∃Z,Z=madeCells #[.slice none 0 0] L.length:=⟨_,rfl⟩;have F:=I (show(∀i,i<L.length->∃a n c,Z[i]?=some (.slice a n c)) from λi hi=>⟨_,_,_,by rw[v];exact zvN L.length i hi⟩);clear Y mk hg;generalize (w.alloc (oP s (some ⟨db,r,none⟩) L.length cap)).alloc (.cells (madeCells #[.slice none 0 0] L.length) 72)=W at*;rw[<-v]at HQ;clear v;go_loopw [15] (λi wr=>∃(k:Nat) (C:Array Value),k<=L.length/\i=.int .i64 k/\ztR (wr.heap[g]?=some (Obj.cells C 72))/\ztR (∀i,i<L.length->∃a n c,C[i]?=some (.slice a n c))/\ztR (∀i,i<k->∃b,C[i]?=some (.slice (some ⟨b,0,none⟩) 11 11)/\b<wr.heap.size/\b≠g/\∀j,j<11->wr.cell? ⟨b,j,none⟩=some (.int .i64 (iAt (zaZ t c (dAt L i)) j)))/\ztR (Bw w wr)) (λi _=>L.length-(intOf i).toNat)
 case atStart=>exact⟨0,Z,ztX _,rfl,HQ,F,I (λi hi=>by omega),E⟩
 clear HQ F E;obtain⟨k,C,hk,rfl,hQ,hC,hR,A⟩:=hrel;by_cases x:k<L.length
 . obtain⟨a',G,d0,a5,H⟩:=a0.1.below B A.1 k x;have K:=ztU B A.1.size;have a3:=I H;have a4:=I (HD.1 k x);obtain⟨o1,o2,o3,o⟩:=hC.1 k x;have f:=I o;clear H o;go_wp2_with fail;refine(zcH wr sb t c P (HS.1.below A.1) (dAt L k) a' G a4.1 a3.1).mono ?_;rintro e m ⟨b,rfl,hI,l⟩;have d:=I (blkA l hQ.1);have M:b≠g:=by
    rintro rfl;obtain⟨q,o',he,N,y⟩:=hI.cells (by show 0<11;decide);cases he;have hx:=y 0 (by show 0<11;decide);obtain⟨a1,n1,c1,hy⟩:=hC.1 0 (by omega);rw[zm (j:=0) d.1 hy]at hx;cases hx
   have z:=I (show b<m.heap.size/\∀j,j<11->m.cell? ⟨b,j,none⟩=some (.int .i64 (iAt (zaZ t c (dAt L k)) j)) by
    obtain⟨q,o',he,N,y⟩:=hI.cells (by show 0<11;decide);cases he;exact⟨N,λj hj=>by have:=y j hj;rwa [Nat.zero_add]at this⟩)
   have Q:=I (show ∀i,i<k->∃b,C[i]?=some (.slice (some ⟨b,0,none⟩) 11 11)/\b<m.heap.size/\b≠g/\∀j,j<11->m.cell? ⟨b,j,none⟩=some (.int .i64 (iAt (zaZ t c (dAt L i)) j)) from λi hi=>by
    obtain⟨b,e1,e2,e3,e4⟩:=hR.1 i hi;exact⟨b,e1,ztU e2 l.size,e3,λj hj=>zj (e4 j hj) e2 l⟩)
   have R:=I (ztS A.1 l);have HC:=I hC.1;clear hI l hR hQ hC A d0 K;have y0:m.cell? ⟨g,k,none⟩=some (.slice o1 o2 o3):=zm d.1 f.1;have u0:m.frozen? ⟨g,k,none⟩=false:=zQ d.1;have gl:=ztW d.1;go_wp2_with fail;have S:=I (zg (i:=k) (u:=.slice (some ⟨b,0,none⟩) 11 11) d.1);have T:k<C.size:=by
    have:=f.1;rcases Nat.lt_or_ge k C.size with h|h
    . exact h
    rw[Array.getElem?_eq_none h]at this;cases this
   have U:=I (show ∀i,i<L.length->∃a n c,(C.setIfInBounds k (.slice (some ⟨b,0,none⟩) 11 11))[i]?=some (.slice a n c) from λi hi=>by
    by_cases e:k=i
    . subst e;exact⟨some ⟨b,0,none⟩,11,11,by simp[T]⟩
    obtain⟨a,n,c,h⟩:=HC.1 i hi;exact⟨a,n,c,by rw[Array.getElem?_setIfInBounds_ne e];exact h⟩)
   have V:=I (show ∀i,i<k+1->∃q,(C.setIfInBounds k (.slice (some ⟨b,0,none⟩) 11 11))[i]?=some (.slice (some ⟨q,0,none⟩) 11 11)/\q<(m.setCell ⟨g,k,none⟩ (.slice (some ⟨b,0,none⟩) 11 11)).heap.size/\q≠g/\∀j,j<11->(m.setCell ⟨g,k,none⟩ (.slice (some ⟨b,0,none⟩) 11 11)).cell? ⟨q,j,none⟩=some (.int .i64 (iAt (zaZ t c (dAt L i)) j)) from λi hi=>by
    by_cases e:k=i
    . subst e;exact⟨b,by simp[T],by simpa using z.1.1,M,λj hj=>(zdo m (Ne.symm M) j k _).trans (z.1.2 j hj)⟩
    obtain⟨q,e1,e2,e3,e4⟩:=Q.1 i (by omega);exact⟨q,by rw[Array.getElem?_setIfInBounds_ne e];exact e1,by simpa using e2,e3,λj hj=>(zdo m (Ne.symm e3) j k _).trans (e4 j hj)⟩)
   have X:=I (R.1.setCell (p:=⟨g,k,none⟩) a2 (.slice (some ⟨b,0,none⟩) 11 11));clear y0 u0 gl d Q HC R z f;go_roundw
   case rel=>first|exact⟨k+1,_,by omega,by go_num,S,U,V,X⟩|((repeat apply Exists.intro);exact⟨⟨k+1,_,by omega,by go_num,S,U,V,X⟩,rfl⟩)
   case measure=>simp[intOf];omega
 obtain rfl:k=L.length:=by omega
 go_wp2_with fail;go_ret;exact⟨g,rfl,⟨C,hQ.1,hR.1⟩,A.1⟩
def qsum(t:TTM)(c:ConM)(L:List Duty)(j:Nat):Nat->Int
 |0=>0
 |k+1=>qsum t c L j k+iAt (zaZ t c (dAt L k)) j
def csum(t:TTM)(c:ConM)(L:List Duty):Nat->Int
 |0=>0
 |k+1=>csum t c L k+zio c (zaZ t c (dAt L k))
def zuY(t:TTM)(c:ConM)(s:ByteArray)(L:List Duty):List Int:= [(L.length:Int),qsum t c L 0 L.length,qsum t c L 1 L.length,(z9 (zp t s).name.data.toList (zp t s).off (zp t s).sh (zcK t c (dAt L 0)).1 (zcK t c (dAt L (L.length-1))).2).2.1-(z9 (zp t s).name.data.toList (zp t s).off (zp t s).sh (zcK t c (dAt L 0)).1 (zcK t c (dAt L (L.length-1))).2).1+1,qsum t c L 3 L.length,(zcK t c (dAt L (L.length-1))).2-(zcK t c (dAt L 0)).1,csum t c L L.length]
theorem zvB{t:TTM}{c:ConM}{L:List Duty}(a:zY t=0)(b:valT c=0)(d:∀k,k<L.length->za6 t c (dAt L k)=0)(j:Nat)(e:j<11):∀k:Nat,k<=L.length->0<=qsum t c L j k/\qsum t c L j k<=100000000*(k:Int)
 |0,_=>by simp[qsum]
 |k+1,h=>by
  have f:=zvB a b d j e k (by omega);have g:=zrJ a b (d k (by omega)) j e;rw[qsum];omega
theorem zvr{t:TTM}{c:ConM}{d:Duty}(a:zY t=0)(b:valT c=0)(e:za6 t c d=0):-1099511627776<=zio c (zaZ t c d)/\zio c (zaZ t c d)<=1099511627776:=by
 unfold zio
 by_cases h:(zaI c).length=0
 . rw[if_pos h];have:=zrJ a b e 3 (by decide);omega
 rw[if_neg h];exact zcb _ (zox a b e 0 (by omega))
theorem zvD{t:TTM}{c:ConM}{L:List Duty}(a:zY t=0)(b:valT c=0)(d:∀k,k<L.length->za6 t c (dAt L k)=0):∀k:Nat,k<=L.length->-(1099511627776*(k:Int))<=csum t c L k/\csum t c L k<=1099511627776*(k:Int)
 |0,_=>by simp[csum]
 |k+1,h=>by
  have e:=zvD a b d k (by omega);have f:=zvr a b (d k (by omega));rw[csum];omega
theorem zvW{nm:List UInt8}{o x y:Int}{l:List (Int×Int)}(a:-60000000<=x/\x<=60000000)(b:-60000000<=y/\y<=60000000):(-100000<=(z9 nm o l x y).1/\(z9 nm o l x y).1<=100000)/\-100000<=(z9 nm o l x y).2.1/\(z9 nm o l x y).2.1<=100000:=by
 unfold z9
 by_cases h:zG nm o l=0
 . have c:=off_bd h x;have d:=off_bd h (y-1);rw[if_neg (by simpa using h)];split
   . simp
   split
   . simp
   simp only;omega
 rw[if_pos h];simp
theorem zu1(w:World)(sb:Nat)(t:TTM)(c:ConM)(P:SetP)(F:zc6 w sb t c P)(s:ByteArray)(L:List Duty)(a:zua)(cap:Nat)(h1:1<=L.length)(h6:L.length<=6)(hd:∀k,k<L.length->za6 t c (dAt L k)=0)(ha:SlAt dutyRT w a L)(g gc:Nat)(hQ:QRow w g L.length (λi=>zaZ t c (dAt L i))):
 Calls prog 32 #[.pointer (some ⟨sb,0,none⟩),.agg #[.string s,.slice a L.length cap],.slice (some ⟨g,0,none⟩) L.length gc] w λe w'=>∃b,e=.returned (.slice (some ⟨b,0,none⟩) 7 7)/\zW w' (some ⟨b,0,none⟩) (zuY t c s L)/\Bw w w':=by
 have g8:∀w:World,(Instr.makeSlice 72 (.int .i64 7) (.int .i64 7)).run prog w=.ok (.slice (some ⟨w.heap.size,0,none⟩) 7 7) (w.alloc (Obj.cells #[.int .i64 0,.int .i64 0,.int .i64 0,.int .i64 0,.int .i64 0,.int .i64 0,.int .i64 0] 3)):=λ_=>by kernel_rfl
 have HS:=I F;have HD:=I hd;have HQ:=I hQ;obtain⟨db,n,rfl,b9,c9⟩:=zuQ ha (by omega);have d0:=I c9;have g9:=I (zvB F.okT F.okC hd);have d1:=I (zvD F.okT F.okC hd);have h0:=I (λ(k:Nat) (hk:k<L.length) (j:Nat) (hj:j<11)=>zrJ F.okT F.okC (hd k hk) j hj);have HT:=I (And.intro F.okT F.okC);have h5:=I (zi3 F.okT s);have b0:=zuj F.okT F.okC (hd 0 (by omega));have bn:=zuj F.okT F.okC (hd (L.length-1) (by omega));obtain⟨r,T⟩:∃r,r=(zcK t c (dAt L 0)).1:=⟨_,rfl⟩;obtain⟨z,U⟩:∃z,z=(zcK t c (dAt L (L.length-1))).2:=⟨_,rfl⟩;have d2:=I T.symm;have d3:=I U.symm;have i8:IntKind.i64.wrap (z-r)=z-r:=by rw[IntKind.wrap_i64,T,U];omega
 have d4:=zvW (nm:=(zp t s).name.data.toList) (o:=(zp t s).off) (l:=(zp t s).sh) (x:=r) (y:=z) (by omega) (by omega);obtain⟨f1,a9⟩:∃f,f=(z9 (zp t s).name.data.toList (zp t s).off (zp t s).sh r z).1:=⟨_,rfl⟩;obtain⟨f2,b1⟩:∃f,f=(z9 (zp t s).name.data.toList (zp t s).off (zp t s).sh r z).2.1:=⟨_,rfl⟩;rw[<-a9,<-b1]at d4;have h7:=I a9.symm;have h8:=I b1.symm;have i9:IntKind.i64.wrap (f2-f1)=f2-f1:=by rw[IntKind.wrap_i64];omega
 have j0:IntKind.i64.wrap (f2-f1+1)=f2-f1+1:=by rw[IntKind.wrap_i64];omega
 have j1:IntKind.i64.wrap ((L.length:Int)-1)=(L.length:Int)-1:=by rw[IntKind.wrap_i64];omega
 have HV:=I (show zuY t c s L= [(L.length:Int),(qsum t c L 0 L.length),(qsum t c L 1 L.length),f2-f1+1,(qsum t c L 3 L.length),z-r,(csum t c L L.length)] by
  rw[zuY,T,U,a9,b1,T,U])
 have FD:=I (And.intro (λw:World=>(by kernel_rfl:(Instr.field 144 (.agg #[r,.int .i64 (zcK t c (dAt L 0)).2]) 0).run prog w=.ok (.int .i64 r) w)) (λw:World=>(by kernel_rfl:(Instr.field 144 (.agg #[.int .i64 (zcK t c (dAt L (L.length-1))).1,z]) 1).run prog w=.ok (.int .i64 z) w)));clear F hd hQ ha c9 b0 bn T U a9 b1 d4;go_enter func32,ntmps32
 go_wp2_with fail;obtain⟨pb,c4⟩:∃pb,pb=w.heap.size:=⟨_,rfl⟩;obtain⟨d,V⟩:∃d,d=w.heap.size+1:=⟨_,rfl⟩;have b2:=ztS (J w (oP s (some ⟨db,n,none⟩) L.length cap)) (J _ (Obj.cells #[(L.length:Int),.int .i64 0,.int .i64 0,.int .i64 0,.int .i64 0,.int .i64 0,.int .i64 0] 3));have hp:=zd (o':=(Obj.cells #[(L.length:Int),.int .i64 0,.int .i64 0,.int .i64 0,.int .i64 0,.int .i64 0,.int .i64 0] 3)) (zh w (oP s (some ⟨db,n,none⟩) L.length cap));have hv:=zh (w.alloc (oP s (some ⟨db,n,none⟩) L.length cap)) (Obj.cells #[(L.length:Int),.int .i64 0,.int .i64 0,.int .i64 0,.int .i64 0,.int .i64 0,.int .i64 0] 3);rw[zr]at hv;rw[<-c4]at hp;rw[<-V]at hv;simp only[<-V];simp only[<-c4];have Q:w.heap.size<=d:=by omega
 have W:pb≠d:=by omega
 have d5:=I hp;have d6:=I hv;have b2:=I b2;clear g8 c4 V hp hv;generalize (w.alloc (oP s (some ⟨db,n,none⟩) L.length cap)).alloc (Obj.cells #[(L.length:Int),.int .i64 0,.int .i64 0,.int .i64 0,.int .i64 0,.int .i64 0,.int .i64 0] 3)=W0 at*;go_loopw [21] (λi wr=>∃(k:Nat),k<=L.length/\i=.int .i64 k/\ztR (wr.heap[d]?=some (Obj.cells #[(L.length:Int),(qsum t c L 0 k),(qsum t c L 1 k),.int .i64 0,(qsum t c L 3 k),.int .i64 0,(csum t c L k)] 3))/\ztR (wr.heap[pb]?=some (oP s (some ⟨db,n,none⟩) L.length cap))/\ztR (Bw w wr)) (λi _=>L.length-(intOf i).toNat)
 case atStart=>exact⟨0,ztX _,rfl,d6,d5,b2⟩
 clear d6 d5 b2;obtain⟨k,hk,rfl,hV,hP,hB⟩:=hrel;by_cases R:k<L.length
 . have B:=I hV.1;have b4:=I hP.1;have X:=I hB.1;have G:=I (λ(j:Nat) (hj:j<11)=>And.intro (g9.1 j hj k (by omega)) (h0.1 k R j hj));have d7:=I (And.intro (d1.1 k (by omega)) (zvr HT.1.1 HT.1.2 (HD.1 k R)));have d8:=I (And.intro (zox HT.1.1 HT.1.2 (HD.1 k R)) (ztV (zow HT.1.2) (show 1<=140737488355328 by decide)));obtain⟨C,hC,d9⟩:=HQ.1.below hB.1;obtain⟨b,Y,e2,e3,e4⟩:=d9 k R;have g0:wr.cell? ⟨g,k,none⟩=some (.slice (some ⟨b,0,none⟩) 11 11):=zm hC Y;have gl:=ztW hC;obtain⟨CW,f0,b5⟩:=HQ.1;obtain⟨b',c5,c6,h9,f4⟩:=b5 k R;have i0:b=b':=by
    have h1:=blkA hB.1 f0;rw[hC]at h1;cases h1;rw[Y]at c5;cases c5;rfl
   subst i0;have Z:=I (λW' (h:Bw w W')=>And.intro (ztU c6 h.size) (λ(j:Nat) (hj:j<11)=>zj (f4 j hj) c6 h));clear hV hP hB hC d9 Y e2 e3 e4 f0 b5 c5 c6 h9 f4;go_wp2_with fail;clear g0 gl;have y1:=zu B.1;have u1:=zQ (j:=1) B.1;have vl:=ztW B.1;obtain⟨dl,dc⟩:=Z.1 _ X.1;have c0:=dc 0 (by decide);have ew:IntKind.i64.wrap ((qsum t c L 0 k)+iAt (zaZ t c (dAt L k)) 0)=(qsum t c L 0 (k+1)):=by
    have h1:=(G.1 0 (by decide)).1;have h2:=(G.1 0 (by decide)).2;rw[qsum,IntKind.wrap_i64];omega
   clear dc;go_wp2_with fail;go_region
   have D:=I (show(wr.setCell ⟨d,1,none⟩ (.int .i64 (qsum t c L 0 (k+1)))).drew.heap[d]?=some (Obj.cells #[(L.length:Int),(qsum t c L 0 (k+1)),(qsum t c L 1 k),.int .i64 0,(qsum t c L 3 k),.int .i64 0,(csum t c L k)] 3) from zg (i:=1) (u:=.int .i64 (qsum t c L 0 (k+1))) B.1);have a2:=I ((X.1.setCell (p:=⟨d,1,none⟩) Q (.int .i64 (qsum t c L 0 (k+1)))).drew);have b6:=I (show(wr.setCell ⟨d,1,none⟩ (.int .i64 (qsum t c L 0 (k+1)))).drew.heap[pb]?=some (oP s (some ⟨db,n,none⟩) L.length cap) from(Below.heap_setCell _ _ _ _ W).trans b4.1);clear y1 u1 vl dl c0 ew B X b4;generalize (wr.setCell ⟨d,1,none⟩ (.int .i64 (qsum t c L 0 (k+1)))).drew=w4 at*;have y2:=zC D.1;have u2:=zQ (j:=2) D.1;have vl:=ztW D.1;obtain⟨dl,dc⟩:=Z.1 _ a2.1;have c0:=dc 1 (by decide);have ew:IntKind.i64.wrap ((qsum t c L 1 k)+iAt (zaZ t c (dAt L k)) 1)=(qsum t c L 1 (k+1)):=by
    have h1:=(G.1 1 (by decide)).1;have h2:=(G.1 1 (by decide)).2;rw[qsum,IntKind.wrap_i64];omega
   clear dc;go_wp2_with fail;go_region
   have E:=I (show(w4.setCell ⟨d,2,none⟩ (.int .i64 (qsum t c L 1 (k+1)))).drew.heap[d]?=some (Obj.cells #[(L.length:Int),(qsum t c L 0 (k+1)),(qsum t c L 1 (k+1)),.int .i64 0,(qsum t c L 3 k),.int .i64 0,(csum t c L k)] 3) from zg (i:=2) (u:=.int .i64 (qsum t c L 1 (k+1))) D.1);have a3:=I ((a2.1.setCell (p:=⟨d,2,none⟩) Q (.int .i64 (qsum t c L 1 (k+1)))).drew);have b7:=I (show(w4.setCell ⟨d,2,none⟩ (.int .i64 (qsum t c L 1 (k+1)))).drew.heap[pb]?=some (oP s (some ⟨db,n,none⟩) L.length cap) from(Below.heap_setCell _ _ _ _ W).trans b6.1);clear y2 u2 vl dl c0 ew D a2 b6;generalize (w4.setCell ⟨d,2,none⟩ (.int .i64 (qsum t c L 1 (k+1)))).drew=w5 at*;have y4:=zbe E.1;have u4:=zQ (j:=4) E.1;have vl:=ztW E.1;obtain⟨dl,dc⟩:=Z.1 _ a3.1;have c0:=dc 3 (by decide);have ew:IntKind.i64.wrap ((qsum t c L 3 k)+iAt (zaZ t c (dAt L k)) 3)=(qsum t c L 3 (k+1)):=by
    have h1:=(G.1 3 (by decide)).1;have h2:=(G.1 3 (by decide)).2;rw[qsum,IntKind.wrap_i64];omega
   clear dc;go_wp2_with fail;go_region
   have H:=I (show(w5.setCell ⟨d,4,none⟩ (.int .i64 (qsum t c L 3 (k+1)))).drew.heap[d]?=some (Obj.cells #[(L.length:Int),(qsum t c L 0 (k+1)),(qsum t c L 1 (k+1)),.int .i64 0,(qsum t c L 3 (k+1)),.int .i64 0,(csum t c L k)] 3) from zg (i:=4) (u:=.int .i64 (qsum t c L 3 (k+1))) E.1);have a4:=I ((a3.1.setCell (p:=⟨d,4,none⟩) Q (.int .i64 (qsum t c L 3 (k+1)))).drew);have b8:=I (show(w5.setCell ⟨d,4,none⟩ (.int .i64 (qsum t c L 3 (k+1)))).drew.heap[pb]?=some (oP s (some ⟨db,n,none⟩) L.length cap) from(Below.heap_setCell _ _ _ _ W).trans b7.1);clear y4 u4 vl dl c0 ew E a3 b7;generalize (w5.setCell ⟨d,4,none⟩ (.int .i64 (qsum t c L 3 (k+1)))).drew=w6 at*;clear G;have ew:IntKind.i64.wrap ((csum t c L k)+zio c (zaZ t c (dAt L k)))=(csum t c L (k+1)):=by
    have h1:=d7.1.1;have h2:=d7.1.2;rw[csum,IntKind.wrap_i64];omega
   go_wp2_with fail;refine' zw6 [⟨49, [],.kn _⟩,⟨50, [49],.kn _⟩,⟨51, [50],.kn _⟩,⟨52, [],.kn _⟩,⟨53, [],.kn _⟩,⟨54, [52,53],.kn (.int .i64 (zio c (zaZ t c (dAt L k))))⟩,⟨55, [51,54],.kn _⟩,⟨56, [49],.kn _⟩] [0,7,9] [56,55] (λ_ h=>And.intro (zm (j:=6) (blkA h H.1) rfl) (ztW (blkA h H.1))) ?h1 ?c1 ?f1
   case h1=>
    intro u;simp only[rlE,rlL,↓reduceIte,Nat.reduceEqDiff];intros
    refine⟨?_,?_,?_,?_,?_,?_,?_,?_,trivial⟩
    all_goals try (intros;refine rlK (by assumption) ?_;go_simp <;> rfl)
    intro A M e m g q1 q2 K kk;go_simp;have c7:=ztS a4.1 m;refine ca (zls M sb t c P (HS.1.below c7) (zaZ t c (dAt L k)) (some ⟨b,0,none⟩) 11 (by rw[zeD];decide) (by rw[zeD];decide) (.inr ⟨b,0,rfl,(Z.1 _ c7).1,λi hi=>by rw[Nat.zero_add];exact(Z.1 _ c7).2 i hi⟩) d8.1.1 d8.1.2) λw2 h=>?_;exact kk.1 _ _ ⟨h,rfl⟩
   case c1=>kernel_rfl
   intro u w7 m;simp only[rlE,rlF,rlL,Act.put,O,↓reduceIte,Nat.reduceEqDiff];intro Y e2;have a5:=I (blkA m H.1);have f5:=I (ztS a4.1 m);have f6:=I (blkA m b8.1);have y6:=zbm a5.1;have u6:=zQ (j:=6) a5.1;have vl:=ztW a5.1;go_simp;have Q8:=I (show(w7.setCell ⟨d,6,none⟩ (.int .i64 (csum t c L (k+1)))).heap[d]?=some (Obj.cells #[(L.length:Int),(qsum t c L 0 (k+1)),(qsum t c L 1 (k+1)),.int .i64 0,(qsum t c L 3 (k+1)),.int .i64 0,(csum t c L (k+1))] 3) from zg (i:=6) (u:=.int .i64 (csum t c L (k+1))) a5.1);have B8:=I (f5.1.setCell (p:=⟨d,6,none⟩) Q (.int .i64 (csum t c L (k+1))));have P8:=I ((Below.heap_setCell w7 ⟨d,6,none⟩ (.int .i64 (csum t c L (k+1))) pb W).trans f6.1);clear ew a5 f5 f6 y6 u6 vl Y e2 m H a4 b8;go_wp2_with fail;go_roundw
   case rel=>exact⟨k+1,by omega,by go_num,Q8,P8,B8⟩
   case measure=>simp[intOf];omega
 obtain rfl:k=L.length:=by omega
 have QV:=I hV.1;have QP:=I hP.1;have BW:=I hB.1;clear hV hP hB hk R;go_wp2_with fail;have a6:=I BW.1;obtain⟨a0,k0,c0,l0,t0⟩:=(d0.1.below b9 a6.1) 0 (by omega);obtain⟨a1,k1,c1,l1,t1⟩:=(d0.1.below b9 a6.1) (L.length-1) (by omega);rw[Nat.add_zero]at c0;have a7:=ztU b9 a6.1.size;have H0:=I t0;have H1:=I t1;have i1:(0:Int)<(L.length:Int):=by omega
 have f7:0<L.length:=by omega
 have i2:(L.length:Int)-1<(L.length:Int):=by omega
 have i3:(0:Int)<=(L.length:Int)-1:=by omega
 have i4:((L.length:Int)-1).toNat=L.length-1:=by omega
 have hL:¬ L= []:=by rintro rfl;simp at h1
 have i5:¬ (L.length:Int)<1:=by omega
 have C0:=I c0;have C1:=I c1;clear c0 c1 t0 t1;refine' rely [⟨58, [],.kn _⟩,⟨59, [],.kn _⟩,⟨60, [59],.kn _⟩,⟨61, [60],.kn _⟩,⟨62, [61],.kn _⟩,⟨63, [58,62],.kn (.agg #[r,.int .i64 (zcK t c (dAt L 0)).2])⟩,⟨64, [63],.kn _⟩,⟨65, [],.kn _⟩,⟨66, [],.kn _⟩,⟨67, [66],.kn _⟩,⟨68, [],.kn _⟩,⟨69, [68],.kn _⟩,⟨70, [69],.kn _⟩,⟨71, [70],.kn _⟩,⟨72, [67,71],.kn (.pointer (some ⟨db,n+(L.length-1),none⟩))⟩,⟨73, [72],.kn _⟩,⟨74, [65,73],.kn (.agg #[.int .i64 (zcK t c (dAt L (L.length-1))).1,z])⟩,⟨75, [74],.kn _⟩,⟨76, [64,75],.kn _⟩,⟨10, [],.bx jE⟩,⟨1020, [10,76],.st 10 76 λ_ o=>o=(oQ r z)⟩] [0,4] [1020] (λ_ h=>And.intro (I (And.intro (zj C0.1 a7 h) (zj C1.1 a7 h))) (zuw (blkA h QP.1))) ?h2 ?c2 ?f2
 case h2=>
  intro u;simp only[rlE,↓reduceIte,Nat.reduceEqDiff];intros
  have f1:=FD.1.1;have f2:=FD.1.2;refine⟨?_,?_,?_,?_,?_,?_,?_,?_,?_,?_,?_,?_,?_,?_,?_,?_,?_,?_,?_,?_,?_,trivial⟩
  all_goals try (intros;refine rlK (by assumption) ?_;go_simp <;> rfl)
  . intro A M e m g q1 K k;have g2:=g.1.1.1;clear g;refine rlK k ?_;go_simp <;> rfl
  . intro A M e m g q1 q2 K k;go_simp;refine ca (zll M sb t c P (HS.1.below (ztS BW.1 m)) (dAt L 0) a0 k0 (HD.1 0 (by omega)) (H0.1.below m)) λw2 h=>?_;exact k.1 _ _ ⟨h,by first|rw[d2.1]|rw[d3.1]⟩
  . intro A M e m g q1 K k;have g2:=g.1.1.2;clear g;refine rlK k ?_;go_simp <;> rfl
  . intro A M e m g q1 q2 K k;go_simp;refine ca (zll M sb t c P (HS.1.below (ztS BW.1 m)) (dAt L (L.length-1)) a1 k1 (HD.1 (L.length-1) (by omega)) (H1.1.below m)) λw2 h=>?_;exact k.1 _ _ ⟨h,by first|rw[d2.1]|rw[d3.1]⟩
  . intro A M e m g K k;go_simp;exact k.1 _ _ ⟨J _ _,rfl,zh _ _⟩
  rintro A M e m g ⟨p,h1,_,h2⟩ h3 K k;obtain⟨z0,z1,g0,g1,gl⟩:=pc2 h2;go_simp;exact k.1 undef _ ⟨p,_,h1,stS (stS (stR p M)),zg (i:=1) (zg (i:=0) h2),rfl⟩
 case c2=>kernel_rfl
 intro u w8 m;simp only[rlE,rlF,Act.put,O,↓reduceIte,Nat.reduceEqDiff];rintro⟨sp,_,Y,c8,f8,rfl⟩;rw[Y];have QS:=I f8;have a8:=I (blkA m QV.1);have f9:=I (blkA m QP.1);have g3:=I (ztS a6.1 m);have j2:pb≠sp:=by have h1:=ztW QP.1;have h2:wr.heap.size<=sp:=c8;omega
 have i6:d≠sp:=by have h1:=ztW QV.1;have h2:wr.heap.size<=sp:=c8;omega
 clear a6 f8 c8 a7 QV QP BW i1 f7 i2 i3 i4 hL i5 Y m C0 C1 H0 H1;obtain⟨x0,x1,xl⟩:=zuw QS.1;have y5:=zbn a8.1;have u5:=zQ (j:=5) a8.1;have vl:=ztW a8.1;go_wp2_with fail;obtain⟨W9,S⟩:∃W',w8.setCell ⟨d,5,none⟩ (.int .i64 (z-r))=W':=⟨_,rfl⟩;have g4:=I (show W9.heap[d]?=some (Obj.cells #[(L.length:Int),(qsum t c L 0 L.length),(qsum t c L 1 L.length),.int .i64 0,(qsum t c L 3 L.length),.int .i64 (z-r),(csum t c L L.length)] 3) by rw[<-S];exact zg (i:=5) (u:=.int .i64 (z-r)) a8.1);have b3:=I (show Bw w W9 by rw[<-S];exact(g3.1.setCell (p:=⟨d,5,none⟩) Q _));have g5:=I (show W9.heap[pb]?=some (oP s (some ⟨db,n,none⟩) L.length cap) by rw[<-S];exact(Below.heap_setCell _ _ _ _ W).trans f9.1);have g6:=I (show W9.heap[sp]?=some (oQ r z) by rw[<-S];exact(Below.heap_setCell _ _ _ _ (Ne.symm i6)).trans QS.1);simp only[S];clear S x0 x1 xl y5 u5 vl QS a8 f9 g3;refine' rely [⟨85, [],.kn _⟩,⟨86, [],.kn _⟩,⟨87, [86],.kn _⟩,⟨88, [85,87],.pu λv=>∃a k,v=.agg #[.string (zp t s).name,(zp t s).off,.slice a (zp t s).sh.length k]/\ShAt w a (zp t s).sh/\(zp t s).name.size<=140737488355328⟩,⟨89, [],.kn _⟩,⟨90, [88,89],.kn (.tuple #[.int .i64 (z9 (zp t s).name.data.toList (zp t s).off (zp t s).sh r z).1,.int .i64 (z9 (zp t s).name.data.toList (zp t s).off (zp t s).sh r z).2.1,.int .i64 (z9 (zp t s).name.data.toList (zp t s).off (zp t s).sh r z).2.2])⟩,⟨84, [90],.kn _⟩,⟨91, [84],.kn _⟩,⟨92, [84],.kn _⟩,⟨93, [84],.kn _⟩,⟨11, [91],.kn _⟩,⟨12, [92],.kn _⟩,⟨13, [93],.kn _⟩] [0,4,10] [11,12,13] (λ_ h=>And.intro (zuw (blkA h g6.1)) (zuw (blkA h g5.1))) ?h3 ?c3 ?f3
 case h3=>
  intro u;simp only[rlE,↓reduceIte,Nat.reduceEqDiff];intros
  refine⟨?_,?_,?_,?_,?_,?_,?_,?_,?_,?_,?_,?_,?_,trivial⟩
  all_goals try (intros;refine rlK (by assumption) ?_;go_simp <;> rfl)
  . intro A M e m g q1 q2 K k;go_simp;refine(zix w M sb t c P HS.1 (ztS b3.1 m) s).mono ?_;rintro e' w2 ⟨a,q,rfl,h2,h3,_,h4⟩;exact k.1 _ _ ⟨h4,a,q,rfl,h2,h3⟩
  rintro A M e m g ⟨a,q,h1,h2,h3⟩ q2 K k;go_simp;refine ca (zvs (zp t s).name (zp t s).off r z (zp t s).sh a q M (by unfold maxLen;omega) (by have:=h5.1;omega) (h2.below (ztS b3.1 m))) λw2 h=>?_;exact k.1 _ _ ⟨h,rfl⟩
 case c3=>kernel_rfl
 intro u2 i7 m;simp only[rlE,rlF,Act.put,O,↓reduceIte,Nat.reduceEqDiff];intro Y e2 e3;rw[Y,e2,e3];have N:=I (blkA m g4.1);have g7:=I (ztS b3.1 m);clear Y e2 e3 m g4 b3 g5 g6;rw[h7.1,h8.1];have y3:=zaj N.1;have u3:=zQ (j:=3) N.1;have vl:=ztW N.1;go_wp2_with fail;go_ret;have QF:(i7.setCell ⟨d,3,none⟩ (.int .i64 (f2-f1+1))).heap[d]?=some (Obj.cells #[(L.length:Int),(qsum t c L 0 L.length),(qsum t c L 1 L.length),.int .i64 (f2-f1+1),(qsum t c L 3 L.length),.int .i64 (z-r),(csum t c L L.length)] 3):=zg (i:=3) (u:=.int .i64 (f2-f1+1)) N.1;refine⟨d,rfl,.inr ⟨d,0,rfl,ztW QF,λi hi=>?_⟩,g7.1.setCell (p:=⟨d,3,none⟩) Q _⟩;rw[HV.1]at hi ⊢;rw[Nat.zero_add];refine zm QF ?_;rcases i with _|_|_|_|_|_|_|i <;> first|rfl|(simp at hi;omega)
end Go.Proofs.YtbhhejkolnigfaaGreat
