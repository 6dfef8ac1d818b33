/- a part of the proof -/
import Derived.Deep.DeepCutAuto
import Derived.Test.YtbhhejkolnigfaaGreatG6
import Derived.Test.YtbhhejkolnigfaaGreatGA
set_option linter.unusedVariables false
set_option linter.unusedSimpArgs false
set_option maxRecDepth 100000
set_option maxHeartbeats 51200000
namespace Go.Proofs.YtbhhejkolnigfaaGreat
open Go.RowKit Go.Sort Go.Proofs.Tryz
def zlR(t:TTM)(c:ConM)(i j:Nat):Int:=(fAt t.fls j).arr+c.release-((fAt t.fls i).dep-c.report)
def zfF(t:TTM)(c:ConM)(i j:Nat):Int:=(zaJ (zp t (fAt t.fls i).frm).name.data.toList (zp t (fAt t.fls i).frm).off (zp t (fAt t.fls i).frm).sh ((fAt t.fls i).dep-c.report) ((fAt t.fls j).arr+c.release) c.nf c.nt).1
def zgt(t:TTM)(c:ConM)(i:Nat):Int:=(zaB (zp t (fAt t.fls i).frm).name.data.toList (zp t (fAt t.fls i).frm).off (zp t (fAt t.fls i).frm).sh ((fAt t.fls i).dep-c.report)).1
def zgs(t:TTM)(c:ConM)(j:Nat):Int:=(zaB (zp t (fAt t.fls j).to).name.data.toList (zp t (fAt t.fls j).to).off (zp t (fAt t.fls j).to).sh ((fAt t.fls j).arr+c.release)).1
def zcT(t:TTM)(c:ConM)(i j:Nat):Int:=mx (zgt t c i-zgs t c j) (zgs t c j-zgt t c i)
def zdd(t:TTM)(c:ConM)(i:Nat):Int:=(zbj (zp t (fAt t.fls i).frm).name.data.toList (zp t (fAt t.fls i).frm).off (zp t (fAt t.fls i).frm).sh ((fAt t.fls i).dep-c.report)).2.1
def endI(t:TTM)(c:ConM)(j:Nat):Int:=(zbj (zp t (fAt t.fls j).to).name.data.toList (zp t (fAt t.fls j).to).off (zp t (fAt t.fls j).to).sh ((fAt t.fls j).arr+c.release)).2.1
def zq4(w0 w:World)(z:zaC)(e:Ending)(w':World):Prop:=∃a cap,e=.returned (.agg #[.string z.name,z.off,.slice a z.sh.length cap])/\ShAt w0 a z.sh/\z.name.size<=140737488355328/\z.sh.length<=140737488355328/\Below w.heap.size w w'
theorem zix(d w:World)(f:Nat)(t:TTM)(c:ConM)(P:SetP)(e:zc6 d f t c P)(g:Bw d w)(s:ByteArray):Calls prog 71 #[.pointer (some ⟨f,0,none⟩),.string s] w (zq4 d w (zp t s)):=by
 obtain⟨a,b,m,h,i,j⟩:=zok e.zones (ztS g (J w jG)) s;have k:=I h;have hS':=e.below g;have l:=zrX hS'.box;have n:=hS'.lt;clear e hS' h;go_enter func71,ntmps71
 go_wp2_with fail;refine bodyPost_ret (v:=.agg #[.string (zp t s).name,(zp t s).off,.slice a (zp t s).sh.length b]) (by simp[results,results71,go_sem]) rfl ?_;exact⟨a,b,rfl,k.1,i,j,J _ _⟩
theorem zfE{nm:List UInt8}{o:Int}{l:List (Int×Int)}{t:Int}:-840<=(zaB nm o l t).1/\(zaB nm o l t).1<=840:=by
 by_cases h:(zaB nm o l t).2=0
 . exact(zex h).2.2
 unfold zaB at*
 split
 . simp
 split
 . simp
 rename_i h1 h2
 simp[h1,h2]at h
theorem zdo(w:World){a b:Nat}(h:a≠b)(o c:Nat)(d:Value):(w.setCell ⟨a,c,none⟩ d).cell? ⟨b,o,none⟩=w.cell? ⟨b,o,none⟩:=by
 have e:(w.setCell ⟨a,c,none⟩ d).heap[b]?=w.heap[b]?:=Below.heap_setCell _ _ _ _ (Ne.symm h);simp only[World.cell?,e]
theorem zlj(V w:World)(y:Nat)(t:TTM)(c:ConM)(P:SetP)(hS:zc6 V y t c P)(a5:Bw V w)(i j:Nat)(W:i<t.fls.length)(X:j<t.fls.length)(g:Nat)(v0 v1 v2 v3 v4 v5 v6 v7 v8 v9 z:Value)(hg:V.heap.size<=g)(hC:w.heap[g]?=some (.cells #[v0,v1,v2,v3,v4,v5,v6,v7,v8,v9,z] 3 (0,0)))(c0:0<zlR t c i j)(a6:(zp t (fAt t.fls i).frm).sh.length<=1000000)(c1:(zp t (fAt t.fls j).to).sh.length<=1000000):Calls prog 98 #[.pointer (some ⟨y,0,none⟩),.slice (some ⟨g,0,none⟩) 11 11,i,j] w λe w'=>e=.returned (.tuple #[])/\w'.heap[g]?=some (.cells #[v0,v1,v2,v3,(zlR t c i j),(zfF t c i j),v6,v7,(zcT t c i j),(zdd t c i),(endI t c j)] 3 (0,0))/\Bw V w':=by
 have H:=I hS;obtain⟨fb,a3,c2,Y,a7⟩:=zaO hS.fls (by omega);obtain⟨⟨-,p1,-⟩,-⟩:=a7 i W;obtain⟨⟨-,-,p2,-⟩,-⟩:=a7 j X;obtain⟨o0,o1,o2,o3⟩:=zas hS.okT W;obtain⟨o4,o5,o6,o7⟩:=zas hS.okT X;obtain⟨⟨k1,k2⟩,⟨k3,k4⟩,-,-,-,⟨k5,k6⟩,k7,k8⟩:=zdl hS.okC;have c3:=I c2;have i8:=I p1;have i9:=I p2;have c4:=I a5;have n9:=hS.lt;have HC:=I hC;have HS:=I (hS.below a5);clear hS a7 c2 p1 p2 a5 hC;go_enter func98,ntmps98
 go_wp2_with fail;refine ca (ziH w y t c P HS.1 i j W X) λw1 a8=>?_;have a9:=I (ztS a8 (J w1 (oQ ((fAt t.fls i).dep-c.report) ((fAt t.fls j).arr+c.release))));have c5:=a8.size;clear a8 HS;obtain⟨G,Z⟩:∃G,G=w1.heap.size:=⟨_,rfl⟩;have S0:=I (show(w1.alloc (oQ ((fAt t.fls i).dep-c.report) ((fAt t.fls j).arr+c.release))).heap[G]?=some (oQ ((fAt t.fls i).dep-c.report) ((fAt t.fls j).arr+c.release)) by rw[Z];exact zh w1 _);have c6:w.heap.size<=G:=by rw[Z];exact c5
 go_wp2_with fail;simp only[<-Z];change Calls _ _ _ (w1.alloc _) _
 generalize (w1.alloc (oQ ((fAt t.fls i).dep-c.report) ((fAt t.fls j).arr+c.release)))=W1 at*;clear Z c5;clear w1;have HB:=I (ztS c4.1 a9.1);have HG:=I ((a9.1.block g (ztW HC.1)).trans HC.1);have f:g≠G:=by have:=ztW HC.1;omega
 clear HC a9 c4;clear c6;clear w;refine cb (zaF W1 y t c P (H.1.below HB.1) i W fb a3 c3.1) ?_;have P1:=zj i8.1 Y HB.1;have c7:=ztU Y HB.1.size;go_wp2_with fail;refine(zix V W1 y t c P H.1 HB.1 _).mono ?_;rintro e w2 ⟨za,zc,rfl,c8,c9,_,a0⟩;have A:=I (ztS HB.1 a0);have S2:=I ((a0.block G (ztW S0.1)).trans S0.1);have G2:=I ((a0.block g (ztW HG.1)).trans HG.1);have b0:=I c8;have b1:=I (ztV c9 (show 140737488355328<=maxLen by unfold maxLen;omega));clear c8 c9 a0 S0 P1 HB c7 HG;clear W1;have Q2:=zj i9.1 Y A.1;have d0:=ztU Y A.1.size;go_wp2_with fail;refine cb (zaF w2 y t c P (H.1.below A.1) j X fb a3 c3.1) ?_;go_wp2_with fail;refine(zix V w2 y t c P H.1 A.1 _).mono ?_;rintro e w3 ⟨ya,yc,rfl,d1,d2,_,a1⟩;have d3:=I (ztS A.1 a1);have S3:=I ((a1.block G (ztW S2.1)).trans S2.1);have G3:=I ((a1.block g (ztW G2.1)).trans G2.1);have d4:=I d1;have d5:=I (ztV d2 (show 140737488355328<=maxLen by unfold maxLen;omega));clear d1 d2 a1 S2 A Q2 d0 G2;clear w2;have s0:=zw S3.1;have s1:=zu S3.1;have d6:=ztW S3.1;have y4:=zbe G3.1;have y5:=zbn G3.1;have u4:=zQ (j:=4) G3.1;have u5:=zQ (j:=5) G3.1;have j0:=ztW G3.1;have e5:(0:Int)<(fAt t.fls j).arr+c.release-((fAt t.fls i).dep-c.report):=c0;go_wp2_with fail;obtain⟨d,h⟩:∃d:World,d=((((w3.setCell ⟨g,4,none⟩ (.int .i64 ((fAt t.fls j).arr+c.release-((fAt t.fls i).dep-c.report)))).setCell ⟨g,5,none⟩ (.int .i64 0)).alloc (oZx (zp t (fAt t.fls i).frm) za zc)).alloc (oZx (zp t (fAt t.fls j).to) ya yc)):=⟨_,rfl⟩;rw[<-h];have Q3:=zg (i:=5) (u:=.int .i64 0) (zg (i:=4) (u:=.int .i64 ((fAt t.fls j).arr+c.release-((fAt t.fls i).dep-c.report))) G3.1);have G4:=I (show d.heap[g]?=some (.cells #[v0,v1,v2,v3,.int .i64 ((fAt t.fls j).arr+c.release-((fAt t.fls i).dep-c.report)),.int .i64 0,v6,v7,v8,v9,z] 3 (0,0)) by rw[h];exact zd (zd Q3));have b2:((w3.setCell ⟨g,4,none⟩ (.int .i64 ((fAt t.fls j).arr+c.release-((fAt t.fls i).dep-c.report)))).setCell ⟨g,5,none⟩ (.int .i64 0)).heap.size=w3.heap.size:=by simp
 have k:=I (show d.heap[w3.heap.size]?=some (oZx (zp t (fAt t.fls i).frm) za zc) by rw[h,<-b2];exact zd (zh _ _));have m:=I (show d.heap[w3.heap.size+1]?=some (oZx (zp t (fAt t.fls j).to) ya yc) by rw[h,<-b2,<-zr];exact zh _ _);have S4:=I (show d.heap[G]?=some (oQ ((fAt t.fls i).dep-c.report) ((fAt t.fls j).arr+c.release)) by rw[h];exact zd (zd (by rw[Below.heap_setCell _ _ _ _ (Ne.symm f),Below.heap_setCell _ _ _ _ (Ne.symm f)];exact S3.1)));have a2:=I (show Bw V d by rw[h];exact ztS (ztS ((d3.1.setCell (p:=⟨g,4,none⟩) hg _).setCell (p:=⟨g,5,none⟩) hg _) (J _ _)) (J _ _));obtain⟨zf,K⟩:∃zf,zf=w3.heap.size:=⟨_,rfl⟩;obtain⟨zt,L⟩:∃zt,zt=w3.heap.size+1:=⟨_,rfl⟩;rw[<-K]at k;rw[<-L]at m;simp only[<-L];simp only[<-K];have b:g≠zf:=by omega
 have M:g≠zt:=by omega
 have a4:g≠y:=by omega
 clear h Q3 b2 K L s0 s1 d6 y4 y5 u4 u5 j0 S3 G3 d3 e5;clear w3;have N:=zw k.1;have Q:=zu k.1;have R:=zC k.1;have d7:=zw m.1;have f0:=zu m.1;have f1:=zC m.1;have b3:=zw S4.1;have b4:=zu S4.1;have S:=I (H.1.below a2.1);have d8:=zaX S.1.box;have d9:=zbr S.1.box;have f2:=S.1.lt;have f3:=I (zh9 (zp t (fAt t.fls i).frm).name (zp t (fAt t.fls i).frm).off ((fAt t.fls i).dep-c.report) ((fAt t.fls j).arr+c.release) c.nf c.nt (zp t (fAt t.fls i).frm).sh za zc d.drew b1.1 a6 (b0.1.below (a2.1.drew)));have l1:=ztW k.1;have l3:=ztW S4.1;have l4:=ztW G4.1;have l5:y<d.drew.heap.size:=S.1.lt;have D0:=I (show d.drew.cell? ⟨zf,0,none⟩=some (.string (zp t (fAt t.fls i).frm).name) from N);have D1:=I (show d.drew.cell? ⟨zf,1,none⟩=some (.int .i64 (zp t (fAt t.fls i).frm).off) from Q);have D2:=I (show d.drew.cell? ⟨zf,2,none⟩=some (.slice za (zp t (fAt t.fls i).frm).sh.length zc) from R);have D3:=I (show d.drew.cell? ⟨G,0,none⟩=some (.int .i64 ((fAt t.fls i).dep-c.report)) from b3);have D4:=I (show d.drew.cell? ⟨G,1,none⟩=some (.int .i64 ((fAt t.fls j).arr+c.release)) from b4);have D5:=I (show d.drew.cell? ⟨y,8,none⟩=some (.int .i64 c.nf) from d8);have D6:=I (show d.drew.cell? ⟨y,9,none⟩=some (.int .i64 c.nt) from d9);have D7:=I (show d.drew.heap[g]?=some (.cells #[v0,v1,v2,v3,.int .i64 ((fAt t.fls j).arr+c.release-((fAt t.fls i).dep-c.report)),.int .i64 0,v6,v7,v8,v9,z] 3 (0,0)) from G4.1);go_region_held3 (λw'=>w'.cell? ⟨zf,0,none⟩=some (.string (zp t (fAt t.fls i).frm).name)/\w'.cell? ⟨zf,1,none⟩=some (.int .i64 (zp t (fAt t.fls i).frm).off)/\w'.cell? ⟨zf,2,none⟩=some (.slice za (zp t (fAt t.fls i).frm).sh.length zc)/\w'.cell? ⟨G,0,none⟩=some (.int .i64 ((fAt t.fls i).dep-c.report))/\w'.cell? ⟨G,1,none⟩=some (.int .i64 ((fAt t.fls j).arr+c.release))/\w'.cell? ⟨y,8,none⟩=some (.int .i64 c.nf)/\w'.cell? ⟨y,9,none⟩=some (.int .i64 c.nt)) (first|exact⟨N,Q,R,b3,b4,d8,d9⟩|exact⟨m0,m1,m2,m3,m4,m5,m6⟩|exact⟨(zdo _ b _ _ _).trans m0,(zdo _ b _ _ _).trans m1,(zdo _ b _ _ _).trans m2,(zdo _ f _ _ _).trans m3,(zdo _ f _ _ _).trans m4,(zdo _ a4 _ _ _).trans m5,(zdo _ a4 _ _ _).trans m6⟩)
  (first|(go_at_call 144;refine ca (f3.1) λw5 a=>?_;have m0:=zj D0.1 l1 a;have m1:=zj D1.1 l1 a;have m2:=zj D2.1 l1 a;have m3:=zj D3.1 l3 a;have m4:=zj D4.1 l3 a;have m5:=zj D5.1 l5 a;have m6:=zj D6.1 l5 a;have q5:=(a.block _ l4).trans D7.1;have y5:w5.cell? ⟨g,5,none⟩=some (.int .i64 0):=zm (j:=5) q5 rfl;have u5:=zQ (j:=5) q5;have l6:=ztW q5))
 have G5:=I (show(w5.setCell ⟨g,5,none⟩ (.int .i64 (zaJ (zp t (fAt t.fls i).frm).name.data.toList (zp t (fAt t.fls i).frm).off (zp t (fAt t.fls i).frm).sh ((fAt t.fls i).dep-c.report) ((fAt t.fls j).arr+c.release) c.nf c.nt).1)).heap[g]?=some (.cells #[v0,v1,v2,v3,.int .i64 ((fAt t.fls j).arr+c.release-((fAt t.fls i).dep-c.report)),(zfF t c i j),v6,v7,v8,v9,z] 3 (0,0)) from zg (i:=5) (u:=.int .i64 (zaJ (zp t (fAt t.fls i).frm).name.data.toList (zp t (fAt t.fls i).frm).off (zp t (fAt t.fls i).frm).sh ((fAt t.fls i).dep-c.report) ((fAt t.fls j).arr+c.release) c.nf c.nt).1) q5);have n:=I ((Below.heap_setCell w5 ⟨g,5,none⟩ (.int .i64 (zaJ (zp t (fAt t.fls i).frm).name.data.toList (zp t (fAt t.fls i).frm).off (zp t (fAt t.fls i).frm).sh ((fAt t.fls i).dep-c.report) ((fAt t.fls j).arr+c.release) c.nf c.nt).1) _ (Ne.symm b)).trans ((a.block _ l1).trans k.1));have q:=I ((Below.heap_setCell w5 ⟨g,5,none⟩ (.int .i64 (zaJ (zp t (fAt t.fls i).frm).name.data.toList (zp t (fAt t.fls i).frm).off (zp t (fAt t.fls i).frm).sh ((fAt t.fls i).dep-c.report) ((fAt t.fls j).arr+c.release) c.nf c.nt).1) _ (Ne.symm M)).trans ((a.block _ (show zt<d.drew.heap.size from ztW m.1)).trans m.1));have S5:=I ((Below.heap_setCell w5 ⟨g,5,none⟩ (.int .i64 (zaJ (zp t (fAt t.fls i).frm).name.data.toList (zp t (fAt t.fls i).frm).off (zp t (fAt t.fls i).frm).sh ((fAt t.fls i).dep-c.report) ((fAt t.fls j).arr+c.release) c.nf c.nt).1) _ (Ne.symm f)).trans ((a.block _ l3).trans S4.1));have b5:=I ((ztS (a2.1.drew) a).setCell (p:=⟨g,5,none⟩) hg (.int .i64 (zaJ (zp t (fAt t.fls i).frm).name.data.toList (zp t (fAt t.fls i).frm).off (zp t (fAt t.fls i).frm).sh ((fAt t.fls i).dep-c.report) ((fAt t.fls j).arr+c.release) c.nf c.nt).1));clear m0 m1 m2 m3 m4 m5 m6 q5 y5 u5 l1 l3 l4 l5 l6 D0 D1 D2 D3 D4 D5 D6 D7 f3 a N Q R d7 f0 f1 b3 b4 d8 d9 f2 S a2 k m S4 G4;generalize w5.setCell ⟨g,5,none⟩ (.int .i64 (zaJ (zp t (fAt t.fls i).frm).name.data.toList (zp t (fAt t.fls i).frm).off (zp t (fAt t.fls i).frm).sh ((fAt t.fls i).dep-c.report) ((fAt t.fls j).arr+c.release) c.nf c.nt).1)=W5 at*;clear w5;clear d;have f4:=zw n.1;have f5:=zu n.1;have f6:=zC n.1;have f7:=zw q.1;have f8:=zu q.1;have f9:=zC q.1;have j1:=zw S5.1;have j2:=zu S5.1;have j3:=ztW n.1;have j4:=ztW q.1;have j5:=ztW S5.1;go_wp2_with fail;refine ca (zeK (zp t (fAt t.fls i).frm).name (zp t (fAt t.fls i).frm).off ((fAt t.fls i).dep-c.report) (zp t (fAt t.fls i).frm).sh za zc W5 b1.1 a6 (b0.1.below b5.1)) λw6 B=>?_;have r:=I ((B.block _ (ztW n.1)).trans n.1);have s:=I ((B.block _ (ztW q.1)).trans q.1);have S6:=I ((B.block _ (ztW S5.1)).trans S5.1);have G6:=I ((B.block _ (ztW G5.1)).trans G5.1);have b6:=I (ztS b5.1 B);clear B f4 f5 f6 f7 f8 f9 j1 j2 j3 j4 j5 n q S5 G5 b5;try clear W5
 have g0:=zw r.1;have g1:=zu r.1;have g2:=zC r.1;have g3:=zw s.1;have g4:=zu s.1;have g5:=zC s.1;have j6:=zw S6.1;have j7:=zu S6.1;have j8:=ztW r.1;have j9:=ztW s.1;have k0:=ztW S6.1;go_wp2_with fail;refine ca (zeK (zp t (fAt t.fls j).to).name (zp t (fAt t.fls j).to).off ((fAt t.fls j).arr+c.release) (zp t (fAt t.fls j).to).sh ya yc w6 d5.1 c1 (d4.1.below b6.1)) λw7 C=>?_;have D:=I ((C.block _ (ztW r.1)).trans r.1);have E:=I ((C.block _ (ztW s.1)).trans s.1);have S7:=I ((C.block _ (ztW S6.1)).trans S6.1);have G7:=I ((C.block _ (ztW G6.1)).trans G6.1);have g6:=I (ztS b6.1 C);clear C g0 g1 g2 g3 g4 g5 j6 j7 j8 j9 k0 r s S6 G6 b6;clear w6;have ea:(zaB (zp t (fAt t.fls i).frm).name.data.toList (zp t (fAt t.fls i).frm).off (zp t (fAt t.fls i).frm).sh ((fAt t.fls i).dep-c.report)).1=zgt t c i:=rfl;have eb:(zaB (zp t (fAt t.fls j).to).name.data.toList (zp t (fAt t.fls j).to).off (zp t (fAt t.fls j).to).sh ((fAt t.fls j).arr+c.release)).1=zgs t c j:=rfl;rw[ea,eb];have ba:=zfE (nm:=(zp t (fAt t.fls i).frm).name.data.toList) (o:=(zp t (fAt t.fls i).frm).off) (l:=(zp t (fAt t.fls i).frm).sh) (t:=((fAt t.fls i).dep-c.report));have bb:=zfE (nm:=(zp t (fAt t.fls j).to).name.data.toList) (o:=(zp t (fAt t.fls j).to).off) (l:=(zp t (fAt t.fls j).to).sh) (t:=((fAt t.fls j).arr+c.release));rw[ea]at ba;rw[eb]at bb;obtain⟨o8,o9⟩:=ba;obtain⟨p0,p3⟩:=bb;clear ea eb;have g7:=zw D.1;have g8:=zu D.1;have g9:=zC D.1;have h0:=zw E.1;have h1:=zu E.1;have h2:=zC E.1;have k9:=zw S7.1;have l0:=zu S7.1;have l2:=ztW D.1;have l7:=ztW E.1;have l8:=ztW S7.1;have l9:=ztW G7.1;have y8:=zaX G7.1;have u8:=zQ (j:=8) G7.1;go_upto_region 9 with fail
 have em:(if zgt t c i-zgs t c j<zgs t c j-zgt t c i then zgs t c j-zgt t c i else zgt t c i-zgs t c j)=zcT t c i j:=rfl;rw[em];clear em;have G8:=I (show(w7.setCell ⟨g,8,none⟩ (.int .i64 (zcT t c i j))).heap[g]?=some (.cells #[v0,v1,v2,v3,.int .i64 ((fAt t.fls j).arr+c.release-((fAt t.fls i).dep-c.report)),(zfF t c i j),v6,v7,(zcT t c i j),v9,z] 3 (0,0)) from zg (i:=8) (u:=.int .i64 (zcT t c i j)) G7.1);have v:=I ((Below.heap_setCell w7 ⟨g,8,none⟩ (.int .i64 (zcT t c i j)) _ (Ne.symm b)).trans D.1);have x:=I ((Below.heap_setCell w7 ⟨g,8,none⟩ (.int .i64 (zcT t c i j)) _ (Ne.symm M)).trans E.1);have S8:=I ((Below.heap_setCell w7 ⟨g,8,none⟩ (.int .i64 (zcT t c i j)) _ (Ne.symm f)).trans S7.1);have b7:=I (g6.1.setCell (p:=⟨g,8,none⟩) hg (.int .i64 (zcT t c i j)));clear y8 u8 g7 g8 g9 h0 h1 h2 k9 l0 l2 l7 l8 l9 D E S7 G7 g6;generalize w7.setCell ⟨g,8,none⟩ (.int .i64 (zcT t c i j))=W8 at*;clear w7;have h3:=zw v.1;have h4:=zu v.1;have h5:=zC v.1;have h6:=zw x.1;have h7:=zu x.1;have h8:=zC x.1;have m7:=zw S8.1;have m8:=zu S8.1;have m9:=ztW v.1;have n0:=ztW x.1;have n1:=ztW S8.1;go_wp2_with fail;refine ca (zfZ (zp t (fAt t.fls i).frm).name (zp t (fAt t.fls i).frm).off ((fAt t.fls i).dep-c.report) (zp t (fAt t.fls i).frm).sh za zc W8 b1.1 a6 (b0.1.below b7.1)) λw9 F=>?_;have h9:=I ((F.block _ (ztW v.1)).trans v.1);have i0:=I ((F.block _ (ztW x.1)).trans x.1);have S9:=I ((F.block _ (ztW S8.1)).trans S8.1);have G9:=I ((F.block _ (ztW G8.1)).trans G8.1);have i1:=I (ztS b7.1 F);clear F h3 h4 h5 h6 h7 h8 m7 m8 m9 n0 n1 v x S8 G8 b7;clear W8;have ea:(zbj (zp t (fAt t.fls i).frm).name.data.toList (zp t (fAt t.fls i).frm).off (zp t (fAt t.fls i).frm).sh ((fAt t.fls i).dep-c.report)).2.1=zdd t c i:=rfl;rw[ea];clear ea;have y9:=zbr G9.1;have u9:=zQ (j:=9) G9.1;have n2:=ztW G9.1;go_upto_region 10 with fail
 have GA:=I (show(w9.setCell ⟨g,9,none⟩ (.int .i64 (zdd t c i))).heap[g]?=some (.cells #[v0,v1,v2,v3,.int .i64 ((fAt t.fls j).arr+c.release-((fAt t.fls i).dep-c.report)),(zfF t c i j),v6,v7,(zcT t c i j),(zdd t c i),z] 3 (0,0)) from zg (i:=9) (u:=.int .i64 (zdd t c i)) G9.1);have T:=I ((Below.heap_setCell w9 ⟨g,9,none⟩ (.int .i64 (zdd t c i)) _ (Ne.symm b)).trans h9.1);have U:=I ((Below.heap_setCell w9 ⟨g,9,none⟩ (.int .i64 (zdd t c i)) _ (Ne.symm M)).trans i0.1);have SA:=I ((Below.heap_setCell w9 ⟨g,9,none⟩ (.int .i64 (zdd t c i)) _ (Ne.symm f)).trans S9.1);have b8:=I (i1.1.setCell (p:=⟨g,9,none⟩) hg (.int .i64 (zdd t c i)));clear y9 u9 n2 h9 i0 S9 G9 i1;generalize w9.setCell ⟨g,9,none⟩ (.int .i64 (zdd t c i))=WA at*;clear w9;have i2:=zw T.1;have i3:=zu T.1;have i4:=zC T.1;have i5:=zw U.1;have i6:=zu U.1;have i7:=zC U.1;have n3:=zw SA.1;have n4:=zu SA.1;have n5:=ztW T.1;have n6:=ztW U.1;have n7:=ztW SA.1;go_wp2_with fail;refine ca (zfZ (zp t (fAt t.fls j).to).name (zp t (fAt t.fls j).to).off ((fAt t.fls j).arr+c.release) (zp t (fAt t.fls j).to).sh ya yc WA d5.1 c1 (d4.1.below b8.1)) λwB b9=>?_;have GB:=I ((b9.block _ (ztW GA.1)).trans GA.1);have n8:=I (ztS b8.1 b9);clear b9 i2 i3 i4 i5 i6 i7 n3 n4 n5 n6 n7 T U SA GA b8;clear WA;have ea:(zbj (zp t (fAt t.fls j).to).name.data.toList (zp t (fAt t.fls j).to).off (zp t (fAt t.fls j).to).sh ((fAt t.fls j).arr+c.release)).2.1=endI t c j:=rfl;rw[ea];clear ea;have yB:=zbb GB.1;have uB:=zQ (j:=10) GB.1;have p4:=ztW GB.1;go_wp2_with fail;go_end0
 exact⟨rfl,zg (i:=10) (u:=.int .i64 (endI t c j)) GB.1,n8.1.setCell (p:=⟨g,10,none⟩) hg _⟩
structure DV where
 legs:Int
 heads:Int
 blk:Int
 lng:Int
 sht:Int
 kinds:List ByteArray
def zdZ(f:zaw)(s:DV):DV:=⟨s.legs+1,s.heads,s.blk+(f.arr-f.dep),s.lng,s.sht,if hasB s.kinds f.typ=true then s.kinds else s.kinds++ [f.typ]⟩
def zsk(s:DV):DV:=⟨s.legs,s.heads+1,s.blk,s.lng,s.sht,s.kinds⟩
def dvGap(n:Int)(s:DV):DV:=⟨s.legs,s.heads,s.blk,mx s.lng n,mn s.sht n,s.kinds⟩
def dvA(t:TTM)(d:Duty)(k:Nat)(s:DV):DV:=if(tAt d k).2=true then zsk s else zdZ (fOf t d k) s
def dvB(t:TTM)(d:Duty)(k:Nat)(s:DV):DV:=if 0<k then dvGap ((fOf t d k).dep-(fOf t d (k-1)).arr) s else s
def dvTo(t:TTM)(d:Duty):Nat->DV
 |0=>⟨0,0,0,0,1440, []⟩
 |k+1=>dvB t d k (dvA t d k (dvTo t d k))
structure DVB(k:Nat)(s:DV):Prop where
 l0:0<=s.legs
 l1:s.legs<=k
 h0:0<=s.heads
 h1:s.heads<=k
 b0:0<=s.blk
 b1:s.blk<=k*1440
 g0:0<=s.lng
 g1:s.lng<=1440
 s0:0<=s.sht
 s1:s.sht<=1440
 kl:s.kinds.length<=k
theorem DVB.a{t:TTM}{c:ConM}{d:Duty}(b:zY t=0)(e:za6 t c d=0){k:Nat}(f:k<d.length){s:DV}(h:DVB k s):DVB (k+1) (dvA t d k s):=by
 have g:=zgv b e f;obtain⟨i,j,l,m,n,o,p,q,r,u,v⟩:=h;unfold dvA
 split
 . constructor <;> simp only[zsk] <;> omega
 refine⟨by simp only[zdZ];omega,by simp only[zdZ];omega,by simp only[zdZ];omega,by simp only[zdZ];omega,by simp only[zdZ];omega,by simp only[zdZ];omega,by simp only[zdZ];omega,by simp only[zdZ];omega,by simp only[zdZ];omega,by simp only[zdZ];omega,?_⟩;simp only[zdZ];split
 . omega
 simp;omega
theorem DVB.b{t:TTM}{c:ConM}{d:Duty}(q:zY t=0)(e:valT c=0)(f:za6 t c d=0){k n:Nat}(g:k<d.length){s:DV}(h:DVB n s):DVB n (dvB t d k s):=by
 unfold dvB
 split
 . rename_i a
   have r:=znl e f g a;obtain⟨i,j,a,l,m,o,u,v,w,x,p⟩:=h;refine⟨i,j,a,l,m,o,?_,?_,?_,?_,p⟩ <;> simp only[dvGap,mx,mn] <;> split <;> omega
 exact h
theorem DVB.to{t:TTM}{c:ConM}{d:Duty}(e:zY t=0)(g:valT c=0)(f:za6 t c d=0):∀k,k<=d.length->DVB k (dvTo t d k)
 |0,_=>by constructor <;> simp[dvTo]
 |k+1,hk=>(DVB.to e g f k (by omega)).a e f (by omega) |>.b e g f (by omega)
theorem zni:(prog.info? 9).map (λi=>(i.zero,i.size,i.bytes))=some (some (.string ByteArray.empty),1,16):=by kernel_rfl
theorem zhu{w:World}{c:Nat}{e:TypeId}{v:Value}{l:List ByteArray}(h:w.ownsRow c e 1 v l.length (l.map Value.string)):∃a b,v=.slice a l.length b/\zej w a l:=by
 by_cases d:0<l.length
 . obtain⟨a,b,f,i,_⟩:=zej.of_own h d;exact⟨a,b,f,i⟩
 have j:l= []:=by cases l with|nil=>rfl|cons x l=>simp at d
 subst j;rcases h.2 with⟨rfl,_⟩|⟨g,b,k,rfl,_⟩
 . exact⟨none,0,rfl,.inl rfl⟩
 exact⟨_,b,rfl,.inl rfl⟩
theorem zcY{w:World}{g:Nat}{e:TypeId}{a:Nat}{v:Value}{n:Nat}{b:List Value}(h:w.ownsRow (g+1) e a v n b)(i:Nat)(u:Value):(w.setCell ⟨g,i,none⟩ u).ownsRow (g+1) e a v n b:=
 h.kept (Lib.grownBy_setCell w g i u) (.inr (λhk=>by have:=zaM h g hk;omega))
theorem zcn{w w':World}{a:Nat}{e:TypeId}{b:Nat}{v:Value}{n:Nat}{c:List Value}(h:w.ownsRow a e b v n c)(d:Bw w w'):w'.ownsRow a e b v n c:=
 h.kept (zP none d) (by cases v.ownBlock <;> simp)
def zaZ(t:TTM)(c:ConM)(d:Duty):List Int:= [(dvTo t d d.length).legs,(dvTo t d d.length).heads,(dvTo t d d.length).kinds.length,(dvTo t d d.length).blk,zlR t c (fstN d) (lstN d),zfF t c (fstN d) (lstN d),(dvTo t d d.length).lng,(dvTo t d d.length).sht,zcT t c (fstN d) (lstN d),zdd t c (fstN d),endI t c (lstN d)]
theorem zcH(w:World)(sb:Nat)(t:TTM)(c:ConM)(P:SetP)(hS:zc6 w sb t c P)(d:Duty)(a:zua)(cap:Nat)(hd:za6 t c d=0)(ha:SlAt za3 w a d):Calls prog 55 #[.pointer (some ⟨sb,0,none⟩),.slice a d.length cap] w λe w'=>∃b,e=.returned (.slice (some ⟨b,0,none⟩) 11 11)/\zW w' (some ⟨b,0,none⟩) (zaZ t c d)/\Bw w w':=by
 obtain⟨i0,hi,d4,d5,d6⟩:=info_parts zni;obtain⟨h1,h2,h3,_⟩:=zcp hd;obtain⟨W,d7,A,b1⟩:=zfN hd;obtain⟨b,F,rfl,K,b2⟩:=zbF ha (by omega);obtain⟨fb,a3,b3,z,b4⟩:=zaO hS.fls (by omega);have HT:=I b2;have b5:=I b4;have b6:=I b3;have o:=I hS;have HD:=I hd;have H3:=I h3;have g0:∀w:World,(Instr.makeSlice 72 (.int .i64 11) (.int .i64 11)).run prog w=.ok (.slice (some ⟨w.heap.size,0,none⟩) 11 11) (w.alloc (.cells #[.int .i64 0,.int .i64 0,.int .i64 0,.int .i64 0,.int .i64 0,.int .i64 0,.int .i64 0,.int .i64 0,.int .i64 0,.int .i64 0,.int .i64 0] 3)):=λ_=>by kernel_rfl
 clear hS ha b2 b4 b3 hd h3 W A;go_enter func55,ntmps55
 go_wp2_with fail;go_loopw [6,16] (λkv i wr=>∃(k:Nat) (v:Value),k<=d.length/\i=.int .i64 k/\kv=v/\ztR (wr.ownsRow (w.heap.size+1) 9 1 v (dvTo t d k).kinds.length ((dvTo t d k).kinds.map Value.string))/\ztR (wr.heap[w.heap.size]?=some (.cells #[(dvTo t d k).legs,(dvTo t d k).heads,.int .i64 0,(dvTo t d k).blk,.int .i64 0,.int .i64 0,(dvTo t d k).lng,(dvTo t d k).sht,.int .i64 0,.int .i64 0,.int .i64 0] 3 (0,0)))/\ztR (Bw w wr)) (λ_ i _=>d.length-(intOf i).toNat)
 case atStart=>exact⟨0,_,ztX _,rfl,rfl,I (World.ownsRow_nil _ _ _ _),I (zh w _),I (J w _)⟩
 obtain⟨k,v,hk,rfl,rfl,hO,X,hB⟩:=hrel;by_cases G:k<d.length
 . obtain⟨m,W,b7⟩:=zbO (H3.1 k G);have L:=zj (HT.1 k G).1 K hB.1;have c1:=zj (HT.1 k G).2 K hB.1;rw[W]at L;have g1:=ztU K hB.1.size;obtain⟨s,M⟩:∃s,s=dvTo t d k:=⟨_,rfl⟩;rw[<-M]at hO X;have b8:=DVB.to o.1.okT o.1.okC HD.1 k hk;rw[<-M]at b8;obtain⟨g2,g3,g4,g5,g6,g7,g8,g9,h4,h5,h6⟩:=b8;have h7:k<6:=by omega
   have d8:=zgv o.1.okT HD.1 G;obtain⟨q0,q1,q2,q3⟩:=d8;have HF:=I (show fAt t.fls m=fOf t d k by unfold fOf;rw[W];rfl);obtain⟨⟨-,-,-,pd,pa,pt,-⟩,-⟩:=b5.1 m b7;rw[HF.1]at pd pa pt;have a5:=I pd;have b9:=I pa;have c6:=I pt;have a6:=I M;have Hm:=I W;obtain⟨f,hf⟩:∃f,f=fOf t d k:=⟨_,rfl⟩;rw[<-hf]at HF a5 b9 c6 q0 q1 q2 q3;have Hf:=I hf;have c7:=I (λh0:0<k=>znl o.1.okC HD.1 G h0);clear pd pa pt M W hf;have C:=I (ztS hB.1 (J wr (oT (m:Int) (tAt d k).2)));have U:=I (zd (o':=(oT (m:Int) (tAt d k).2)) X.1);have O1:=I (hO.1.alloc (oT (m:Int) (tAt d k).2));have T1:=I (zh wr (oT (m:Int) (tAt d k).2));clear hB X hO;go_wp2_with fail;generalize wr.alloc (oT (m:Int) (tAt d k).2)=W1 at*;refine cb (zaF W1 sb t c P (o.1.below C.1) m b7 fb a3 b6.1) ?_;clear L c1;have x1:=zu T1.1;have xl:=ztW T1.1;have Y:=ztW U.1;have B:=ztU z C.1.size;go_upto_if 26 with(fail)
   go_cut [6] (λkv wx=>∃v,kv=v/\ztR (wx.ownsRow (w.heap.size+1) 9 1 v (dvA t d k s).kinds.length ((dvA t d k s).kinds.map Value.string))/\ztR (wx.heap[w.heap.size]?=some (.cells #[(dvA t d k s).legs,(dvA t d k s).heads,.int .i64 0,(dvA t d k s).blk,.int .i64 0,.int .i64 0,(dvA t d k s).lng,(dvA t d k s).sht,.int .i64 0,.int .i64 0,.int .i64 0] 3 (0,0)))/\ztR (Bw w wx))
   case first=>
    cases hh:(tAt d k).2
    . have HH:=I hh;clear hh;have y0:=zw U.1;have u0:=zQ (j:=0) U.1;go_upto_region 11 with fail
      have H:=I (show(W1.setCell ⟨w.heap.size,0,none⟩ (.int .i64 (s.legs+1))).heap[w.heap.size]?=some (.cells #[.int .i64 (s.legs+1),s.heads,.int .i64 0,s.blk,.int .i64 0,.int .i64 0,s.lng,s.sht,.int .i64 0,.int .i64 0,.int .i64 0] 3 (0,0)) from zg (i:=0) (u:=.int .i64 (s.legs+1)) U.1);have O2:=I (zcY O1.1 0 (.int .i64 (s.legs+1)));have g:=I (C.1.setCell (p:=⟨w.heap.size,0,none⟩) (ztY _) (.int .i64 (s.legs+1)));clear y0 u0 x1 xl Y B U O1 T1 C;generalize W1.setCell ⟨w.heap.size,0,none⟩ (.int .i64 (s.legs+1))=V at*;clear W1;have y3:=zaj H.1;have u3:=zQ (j:=3) H.1;have Y:=ztW H.1;have c2:=zj a5.1 z g.1;have c3:=zj b9.1 z g.1;have B:=ztU z g.1.size;have d9:IntKind.i64.wrap (f.arr-f.dep)=f.arr-f.dep:=by rw[IntKind.wrap_i64];omega
      have f0:IntKind.i64.wrap (s.blk+(f.arr-f.dep))=s.blk+(f.arr-f.dep):=by rw[IntKind.wrap_i64];omega
      go_region
      have N:=I (show(V.setCell ⟨w.heap.size,3,none⟩ (.int .i64 (s.blk+(f.arr-f.dep)))).drew.heap[w.heap.size]?=some (.cells #[.int .i64 (s.legs+1),s.heads,.int .i64 0,.int .i64 (s.blk+(f.arr-f.dep)),.int .i64 0,.int .i64 0,s.lng,s.sht,.int .i64 0,.int .i64 0,.int .i64 0] 3 (0,0)) from zg (i:=3) (u:=.int .i64 (s.blk+(f.arr-f.dep))) H.1);have Z:=I (show(V.setCell ⟨w.heap.size,3,none⟩ (.int .i64 (s.blk+(f.arr-f.dep)))).drew.ownsRow (w.heap.size+1) 9 1 u6 s.kinds.length (s.kinds.map Value.string) from zcY O2.1 3 (.int .i64 (s.blk+(f.arr-f.dep))));have r:=I ((g.1.setCell (p:=⟨w.heap.size,3,none⟩) (ztY _) (.int .i64 (s.blk+(f.arr-f.dep)))).drew);clear y3 u3 Y c2 c3 B d9 f0 H O2 g;generalize (V.setCell ⟨w.heap.size,3,none⟩ (.int .i64 (s.blk+(f.arr-f.dep)))).drew=W3 at*;clear V;have c5:=zj c6.1 z r.1;have B:=ztU z r.1.size;obtain⟨ka,kc,rfl,E⟩:=zhu Z.1;have Q:=I E;clear E;go_wp2_with fail;refine cb (zj2 s.kinds f.typ ka kc W3 Q.1 (by omega)) ?_;cases R:hasB s.kinds f.typ
      . have HA:=I (show dvA t d k s=⟨s.legs+1,s.heads,s.blk+(f.arr-f.dep),s.lng,s.sht,s.kinds++ [f.typ]⟩ by rw[dvA,if_neg (by rw[HH.1];decide),<-Hf.1,zdZ,if_neg (by rw[R];decide)]);have HK:=I R;clear R Q;go_wp2_with (at_builtin;refine wpList_append_own _ rfl _ _ 140 rfl (w.heap.size+1) 9 i0 (.string ByteArray.empty) 1 16 underlying140 hi d4 d5 d6 rfl (by decide) _ _ _ rfl (Z.1.alloc _) ⟨W3.heap.size,0,none⟩ 1 1 [.string f.typ] rfl rfl ?c1 ?c2 ?c3 ?c4 ?c5 ?_)
        case c1=>exact zaa W3 [.string f.typ] 9
        case c2=>intro u hu;simp at hu;subst hu;rfl
        case c3=>unfold maxLen;omega
        case c4=>omega
        case c5=>have:=ztW N.1;simp;omega
        intro v' WX S D _;have c8:Value.ownBlock (.slice ka s.kinds.length kc)≠some w.heap.size:=λhk=>by have:=zaM Z.1 _ hk;omega
        have GX:=I ((D.block _ (by have:=ztW N.1;simp;omega) (Ne.symm c8)).trans (zd N.1));have l:=I ((r.1.alloc r.1.size _).grown D (by have:=r.1.size;simp;omega) (λj hj=>by have:=zaM Z.1 j hj;omega));have OX:=I (show WX.ownsRow (w.heap.size+1) 9 1 v' (s.kinds++ [f.typ]).length ((s.kinds++ [f.typ]).map Value.string) by rw[zt2,zt3];exact S);clear S D c8 c5 B N Z r;go_wp2_with fail;go_meet
        case rel=>exact⟨_,rfl,I (by rw[HA.1];exact OX.1),I (by rw[HA.1];exact GX.1),l⟩
      have HA:=I (show dvA t d k s=⟨s.legs+1,s.heads,s.blk+(f.arr-f.dep),s.lng,s.sht,s.kinds⟩ by rw[dvA,if_neg (by rw[HH.1];decide),<-Hf.1,zdZ,if_pos R]);clear R Q c5 B;go_wp2_with fail;go_meet
      case rel=>exact⟨_,rfl,I (by rw[HA.1];exact Z.1),I (by rw[HA.1];exact N.1),r⟩
    have HA:=I (show dvA t d k s=⟨s.legs,s.heads+1,s.blk,s.lng,s.sht,s.kinds⟩ by rw[dvA,if_pos hh];rfl);clear hh;have y1:=zu U.1;have u1:=zQ (j:=1) U.1;go_wp2_with fail;have GX:=I (show(W1.setCell ⟨w.heap.size,1,none⟩ (.int .i64 (s.heads+1))).heap[w.heap.size]?=some (.cells #[s.legs,.int .i64 (s.heads+1),.int .i64 0,s.blk,.int .i64 0,.int .i64 0,s.lng,s.sht,.int .i64 0,.int .i64 0,.int .i64 0] 3 (0,0)) from zg (i:=1) (u:=.int .i64 (s.heads+1)) U.1);have OX:=I (zcY O1.1 1 (.int .i64 (s.heads+1)));have l:=I (C.1.setCell (p:=⟨w.heap.size,1,none⟩) (ztY _) (.int .i64 (s.heads+1)));clear y1 u1 x1 xl Y B U O1 T1 C;generalize W1.setCell ⟨w.heap.size,1,none⟩ (.int .i64 (s.heads+1))=WX at*;clear W1;go_meet
    case rel=>exact⟨_,rfl,I (by rw[HA.1];exact OX.1),I (by rw[HA.1];exact GX.1),l⟩
   clear x1 xl Y B U O1 T1 C;obtain⟨v,rfl,OX,GX,l⟩:=hcut;have x:=I (show dvTo t d (k+1)=dvB t d k (dvA t d k s) by rw[dvTo,<-a6.1]);generalize (dvA t d k s)=q at*;rcases Nat.eq_zero_or_pos k with a0|a0
   . have x:=I (x.1.trans (if_neg (by omega)));have dk:decide (0<k)=false:=by simp;omega
     go_wp2_with fail;go_roundw
     case rel=>exact⟨k+1,_,by omega,by go_num,rfl,I (by rw[x.1];exact OX.1),I (by rw[x.1];exact GX.1),l⟩
     case measure=>simp[intOf];omega
   have x:=I (x.1.trans (if_pos a0));rw[<-Hf.1]at x;have dk:decide (0<k)=true:=by simpa using a0
   have a7:k-1<d.length:=by omega
   obtain⟨m',A,a4⟩:=zbO (H3.1 (k-1) a7);have f1:=I (show fAt t.fls m'=(fOf t d (k-1)) by unfold fOf;rw[A];rfl);obtain⟨⟨-,-,-,-,a8,-⟩,-⟩:=b5.1 m' a4;rw[f1.1]at a8;obtain⟨z0,z1⟩:=c7.1 a0;rw[<-Hf.1]at z0 z1;have f2:b<wc.heap.size:=ztU K l.1.size;have f3:fb<wc.heap.size:=ztU z l.1.size;have L:=zj (HT.1 (k-1) a7).1 K l.1;rw[A]at L;have c2:=zj a5.1 z l.1;have c3:=zj a8 z l.1;have c9:=I (o.1.below l.1);have C1:=I (λdd os=>ztZ ((zaF (grow (redrawn wc dd) os) sb t c P (c9.1.below (below_regrown wc dd os)) m' a4 fb a3 b6.1).mono (λe w' h=>And.intro h.1 (show Below (grow (redrawn wc dd) os).heap.size (grow (redrawn wc dd) os) w' from h.2 ▸ ztT _ _))));have a9:(0:Int)<=(k:Int)-1:=by omega
   have b0:(k:Int)-1<(d.length:Int):=by omega
   have e1:IntKind.i64.wrap ((k:Int)-1)=(k:Int)-1:=by rw[IntKind.wrap_i64];omega
   have e2:((k:Int)-1).toNat=k-1:=by omega
   have gX:wc.heap[w.heap.size]?=some (.cells #[q.legs,q.heads,.int .i64 0,q.blk,.int .i64 0,.int .i64 0,q.lng,q.sht,.int .i64 0,.int .i64 0,.int .i64 0] 3 (0,0)):=GX.1;have T:(fOf t d (k-1)).arr=f.dep-(f.dep-(fOf t d (k-1)).arr):=by omega
   have f4:0<=(fOf t d (k-1)).arr/\(fOf t d (k-1)).arr<=60000000:=by have:=zgv o.1.okT HD.1 a7;omega
   obtain⟨h8,h9⟩:=f4;clear T a8 A;go_wp2_with fail;have r0:=λdd os=>cell_regrown L dd os
   have r2:=λdd os=>cell_regrown c2 dd os
   have r3:=λdd os=>cell_regrown c3 dd os
   refine wp_region_quiet_below (by kernel_rfl) (by kernel_rfl) ?_;repeat (first|go_big_quiet_step (first|(with_reducible exact C1.1 _ _))|quiet_step (first|(with_reducible exact C1.1 _ _)))
   refine wpQuiet_nil ?_;intro _ f5;obtain⟨⟨dq,d0⟩,d1⟩:=f5;subst d1;have a1:=below_regrown wc dq d0;have g:=I (ztS l.1 a1);have H:=I ((a1.block _ (ztW GX.1)).trans GX.1);have O2:=I (zcn OX.1 a1);clear a1 r0 r2 r3 L c2 c3 C1 c9 gX f2 f3 a9 b0 e1 e2 OX GX l;generalize grow (redrawn wc dq) d0=V at*;obtain⟨y,T⟩:∃y,y=f.dep-(fOf t d (k-1)).arr:=⟨_,rfl⟩;rw[<-T]at z0 z1 x;rw[<-T];clear T;have y6:=zbm H.1;have u6:=zQ (j:=6) H.1;have Y:=ztW H.1;go_upto_region 17 with fail
   have em:(if q.lng<y then y else q.lng)=mx q.lng y:=rfl;rw[em];clear em;have N:=I (show(V.setCell ⟨w.heap.size,6,none⟩ (.int .i64 (mx q.lng y))).heap[w.heap.size]?=some (.cells #[q.legs,q.heads,.int .i64 0,q.blk,.int .i64 0,.int .i64 0,(mx q.lng y),q.sht,.int .i64 0,.int .i64 0,.int .i64 0] 3 (0,0)) from zg (i:=6) (u:=.int .i64 (mx q.lng y)) H.1);have Z:=I (zcY O2.1 6 (.int .i64 (mx q.lng y)));have r:=I (g.1.setCell (p:=⟨w.heap.size,6,none⟩) (ztY _) (.int .i64 (mx q.lng y)));clear y6 u6 Y H O2 g;generalize V.setCell ⟨w.heap.size,6,none⟩ (.int .i64 (mx q.lng y))=W3 at*;clear V;have y7:=zaK N.1;have u7:=zQ (j:=7) N.1;have Y:=ztW N.1;go_upto_region 18 with fail
   have em:(if y<q.sht then y else q.sht)=mn q.sht y:=rfl;rw[em];clear em;have G4:=I (show(W3.setCell ⟨w.heap.size,7,none⟩ (.int .i64 (mn q.sht y))).heap[w.heap.size]?=some (.cells #[q.legs,q.heads,.int .i64 0,q.blk,.int .i64 0,.int .i64 0,(mx q.lng y),(mn q.sht y),.int .i64 0,.int .i64 0,.int .i64 0] 3 (0,0)) from zg (i:=7) (u:=.int .i64 (mn q.sht y)) N.1);have O4:=I (zcY Z.1 7 (.int .i64 (mn q.sht y)));have f6:=I (r.1.setCell (p:=⟨w.heap.size,7,none⟩) (ztY _) (.int .i64 (mn q.sht y)));clear y7 u7 Y N Z r;generalize W3.setCell ⟨w.heap.size,7,none⟩ (.int .i64 (mn q.sht y))=W4 at*;clear W3;go_wp2_with fail;go_roundw
   case rel=>exact⟨k+1,_,by omega,by go_num,rfl,I (by rw[x.1];exact O4.1),I (by rw[x.1];exact G4.1),f6⟩
   case measure=>simp[intOf];omega
 obtain rfl:k=d.length:=by omega
 clear hk G;have y2:=zC X.1;have u2:=zQ (j:=2) X.1;have lg:=ztW X.1;obtain⟨ka,kc,rfl,E⟩:=zhu hO.1;clear E;go_upto_region 20 with fail
 obtain⟨s,M⟩:∃s,s=dvTo t d d.length:=⟨_,rfl⟩;rw[<-M]at X;rw[<-M];have a6:=I M;clear M;have H:=I (show(wr.setCell ⟨w.heap.size,2,none⟩ (.int .i64 (s.kinds.length:Int))).heap[w.heap.size]?=some (.cells #[s.legs,s.heads,(s.kinds.length:Int),s.blk,.int .i64 0,.int .i64 0,s.lng,s.sht,.int .i64 0,.int .i64 0,.int .i64 0] 3 (0,0)) from zg (i:=2) (u:=.int .i64 (s.kinds.length:Int)) X.1);have g:=I (hB.1.setCell (p:=⟨w.heap.size,2,none⟩) (ztY _) (.int .i64 (s.kinds.length:Int)));clear y2 u2 lg X hO hB;generalize wr.setCell ⟨w.heap.size,2,none⟩ (.int .i64 (s.kinds.length:Int))=V at*;obtain⟨W,-,A,-⟩:=zfN HD.1;have L:=zj (HT.1 0 (by omega)).1 K g.1;have c1:=zj (HT.1 (d.length-1) (by omega)).1 K g.1;rw[W,Nat.zero_mul,Nat.add_zero]at L;rw[A]at c1;have i1:=ztU K g.1.size;obtain⟨n,hn⟩:∃n,d.length=n+1:=⟨d.length-1,by omega⟩;have f7:n<=5:=by omega
 have e1:((n+1:Nat):Int)-1=(n:Int):=by omega
 have e2:((n+1:Nat):Int)=(n:Int)+1:=by omega
 have e3:IntKind.i64.wrap ((n:Int)+1-1)=(n:Int):=by rw[IntKind.wrap_i64];omega
 have e4:((n:Int)+1-1)=(n:Int):=by omega
 have e5:IntKind.i64.wrap (n:Int)=(n:Int):=by rw[IntKind.wrap_i64];omega
 have e6:IntKind.i64.wrap (((n+1:Nat):Int)-1)=(n:Int):=by rw[IntKind.wrap_i64];omega
 have a9:(0:Int)<=(n:Int):=by omega
 have b0:(n:Int)<(n:Int)+1:=by omega
 have f8:n<n+1:=by omega
 have FE:=I (zlj w V.drew sb t c P o.1 (g.1.drew) (fstN d) (lstN d) d7 b1 w.heap.size _ _ _ _ _ _ _ _ _ _ _ (ztY _) H.1 (zhh o.1.okT o.1.okC HD.1) (ztV (zi3 o.1.okT _) (by omega)) (ztV (zi3 o.1.okT _) (by omega)));clear W A h1 h2 f7;rw[hn]at c1 ⊢;rw[Nat.add_sub_cancel]at c1;have i2:=I hn;clear hn;go_region_held3 (λw'=>w'.cell? ⟨b,F,none⟩=some (.int .i64 (fstN d:Int))/\w'.cell? ⟨b,F+n*2,none⟩=some (.int .i64 (lstN d:Int))) (first|exact⟨L,c1⟩|exact⟨m0,m1⟩)
  (first|(go_at_call 98;refine(FE.1).mono ?_;rintro e w5 ⟨rfl,d2,a2⟩;have m0:=((a2.cell (p:=⟨b,F,none⟩) K).trans ((g.1.cell (p:=⟨b,F,none⟩) K).symm)).trans L;have m1:=((a2.cell (p:=⟨b,F+n*2,none⟩) K).trans ((g.1.cell (p:=⟨b,F+n*2,none⟩) K).symm)).trans c1))
 have d3:=I d2;have f9:=I a2;clear d2 a2 m0 m1 L c1 e1 e2 e3 e4 e5 e6 a9 b0 f8 FE;go_wp2_with fail;go_ret;refine⟨w.heap.size,rfl,.inr ⟨w.heap.size,0,rfl,ztW d3.1,λi hi=>?_⟩,f9.1⟩;refine zm d3.1 ?_;have M:=a6.1;subst M;rw[Nat.zero_add];have hl:(zaZ t c d).length=11:=rfl;rw[hl]at hi;rcases i with _|_|_|_|_|_|_|_|_|_|_|i
 all_goals first|rfl|omega
def dErr(t:TTM)(c:ConM)(d:Duty):Int:=if zY t≠0 then zY t else if valT c≠0 then valT c else za6 t c d
theorem zlp{t:TTM}{c:ConM}{d:Duty}(h:zY t≠0):dErr t c d=zY t:=if_pos h
theorem zlr{t:TTM}{c:ConM}{d:Duty}(h:zY t=0)(a:valT c≠0):dErr t c d=valT c:=by rw[dErr,if_neg (by simpa using h),if_pos a]
theorem zlq{t:TTM}{c:ConM}{d:Duty}(h:zY t=0)(a:valT c=0):dErr t c d=za6 t c d:=by rw[dErr,if_neg (by simpa using h),if_neg (by simpa using a)]
theorem ziN{v:Value}{a b:Int}(h:a=b):Ending.returned (.tuple #[v,a])=.returned (.tuple #[v,b]):=by rw[h]
inductive ztC(w:World)(t:TTM)(c:ConM)(d:Duty)(e:Ending)(w':World):Prop
 |bad (h:dErr t c d≠0) (he:e=.returned (.tuple #[.pointer none,(dErr t c d)]))
 |ok (sb:Nat) (P:SetP) (h:dErr t c d=0) (hd:za6 t c d=0) (he:e=.returned (.tuple #[.pointer (some ⟨sb,0,none⟩),.int .i64 0])) (hs:zc6 w' sb t c P) (hn:P.nights=zma c)
def znv(w:World)(t:TTM)(c:ConM)(d:Duty)(e:Ending)(w':World):Prop:=ztC w t c d e w'/\Below w.heap.size w w'
theorem zhI(t:TTM)(c:ConM)(k:zua)(q:Nat)(l:zua)(r:Nat)(fa:zua)(fc:Nat)(p:ConP)(A:NewS t c k q l r fa fc p)(w:World)(B:TCAt w t c k l fa p)(d:Duty)(u:zua)(C:Nat)(K:d.length<=140737488355328)(D:SlAt za3 w u d):Calls prog 85 #[aggT t k q l r fa fc,aggC c p,.slice u d.length C] w (znv w t c d):=by
 try delta aggC aggT
 have L:=I B;have M:=I D;have N:=I A;clear B D A;go_enter func85,ntmps85
 go_wp2_with fail;have f:=I (ztS (J w (objT t k q l r fa fc)) (J _ (objC c p)));generalize (w.alloc (objT t k q l r fa fc)).alloc (objC c p)=Q at*;refine(N.1 Q (L.1.below f.1)).mono ?_;rintro e R ⟨m,n⟩;have b:=I (ztS f.1 n);clear n f;rcases m with⟨h,rfl⟩|⟨h,v,rfl⟩|⟨E,P,rfl,F,_,G⟩
 . have H:(zY t !=0)=true:=by simpa using h
   have a:=I h;clear h;go_wp2_with fail;go_ret2;exact⟨.bad (by rw[zlp a.1];exact a.1) (ziN (zlp a.1).symm),b.1⟩
 . have H:(valT c !=0)=true:=by simpa using v
   have a:=I h;have g:=I v;clear h v;go_wp2_with fail;go_ret2;exact⟨.bad (by rw[zlr a.1 g.1];exact g.1) (ziN (zlr a.1 g.1).symm),b.1⟩
 have s:=I F;have x:=I G;clear F G;go_wp2_with fail;refine ca (zcB R E t c P s.1 d u C K (M.1.below b.1)) λS i=>?_;have o:=I (ztS b.1 i);have y:=I (s.1.below i);have z:=I (zlq (d:=d) s.1.okT s.1.okC);clear i;by_cases j:za6 t c d=0
 . have a:=I j;rw[j];clear j;go_wp2_with fail;go_ret2;exact⟨.ok E P (by rw[z.1];exact a.1) a.1 rfl y.1 x.1,o.1⟩
 have H:(za6 t c d !=0)=true:=by simpa using j
 have a:=I j;clear j;go_wp2_with fail;go_ret2;exact⟨.bad (by rw[z.1];exact a.1) (ziN z.1.symm),o.1⟩
def zkn(w:World)(b:Nat)(N:List ByteArray)(q:List Int):Prop:=∃C,w.heap[b]?=some (.cells C 79 (0,0))/\C.toList.take (q.length*2)=zbL N q q.length
end Go.Proofs.YtbhhejkolnigfaaGreat
