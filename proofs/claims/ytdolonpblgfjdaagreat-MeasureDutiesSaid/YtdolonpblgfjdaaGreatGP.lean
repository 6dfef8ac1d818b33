/- a part of the proof -/
import Derived.Test.YtdolonpblgfjdaaGreatGT
set_option linter.unusedVariables false
set_option linter.unusedSimpArgs false
set_option maxRecDepth 100000
set_option maxHeartbeats 12800000
namespace Go.Proofs.YtdolonpblgfjdaaGreat
open Go.RowKit Go.Sort Go.Proofs.Tryz
theorem zmZ(w:World)(a b:Int):(w.alloc (Obj.cells #[.int .i64 a,.int .i64 b] 40)).heap[w.heap.size]?=some (.cells #[.int .i64 a,.int .i64 b] 40 (0,0))∧Below w.heap.size w (w.alloc (Obj.cells #[.int .i64 a,.int .i64 b] 40)):=by
 exact⟨zh w (Obj.cells #[.int .i64 a,.int .i64 b] 40),J w (Obj.cells #[.int .i64 a,.int .i64 b] 40)⟩
theorem zrl(t:TTM)(c:ConM)(d:Duty):tcE t c (za6 t c d)=dErr t c d:=rfl
theorem zms(t:TTM)(c:ConM)(d:Duty)(k:zua)(i:Nat)(l:zua)(j:Nat)(fa:zua)(fc:Nat)(p:ConP)(Z:zua)(dc:Nat)(w:World)(hn:(t.zones.length≤i∧i≤140737488355328∧t.airs.length≤j∧j≤140737488355328)∧t.fls.length≤fc∧fc≤140737488355328)(hz:SlAt zcg w k t.zones)(ha:SlAt zei w l t.airs)(hf:SlAt zam w fa t.fls)(a0:c.consts.length≤p.cc∧p.cc≤140737488355328)(hc:zdr w.heap.size w c p)(m:d.length≤140737488355328)(hd:SlAt za3 w Z d):
 Calls prog 3 #[.agg #[.slice k t.zones.length i,.slice l t.airs.length j,.slice fa t.fls.length fc],.agg #[.int .i64 c.report,.int .i64 c.release,.int .i64 c.connect,.int .i64 c.sit,.int .i64 c.layover,.int .i64 c.nf,.int .i64 c.nt,.slice p.ca c.consts.length p.cc,.slice p.ra c.rules.length p.rc,.slice p.ka c.costs.length p.kc,.slice p.xa c.credit.length p.xc,.slice p.la c.lims.length p.lc,.slice p.oa c.offs.length p.oc,.int .i64 c.guar],.slice Z d.length dc] w fun e w'=>e=.returned (.bool true)∧Below w.heap.size w w':=by
 have n:=I (fun W (h:Below w.heap.size w W)=>And.intro (TCAt.below ⟨hz,ha,hf,hc⟩ h) (hd.below h));have c6:=hn.1;have c7:t.zones.length≤140737488355328∧t.airs.length≤140737488355328∧t.fls.length≤140737488355328:=by omega
 have g1:(zh3 t c d).length≤140737488355328:=by
  unfold zh3
  split
  · rw[zf2 (show(zaZ t c d).length=(zk 1).length from rfl),zeD];decide
  simp
 have N:=I (show t.zones.length≤i∧i≤140737488355328∧t.airs.length≤j∧j≤140737488355328 by omega);clear hz ha hf hc hd hn c6;go_enter func3,ntmps3
 go_wp2_with fail;have c8:=I (ztS (J w (objT t k i l j fa fc)) (J _ (objC c p)));have q0:=zd (o':=(objC c p)) (zh w (objT t k i l j fa fc));have q1:=zh (w.alloc (objT t k i l j fa fc)) (objC c p);rw[zr]at q1;obtain⟨b0,b5⟩:∃b0,b0=w.heap.size:=⟨_,rfl⟩;obtain⟨b1,b6⟩:∃b1,b1=w.heap.size+1:=⟨_,rfl⟩;rw[←b5]at q0;rw[←b6]at q1;simp only[←b6];simp only[←b5];clear b5 b6;generalize (w.alloc (objT t k i l j fa fc)).alloc (objC c p)=w0 at*;have Q0:=I q0;have Q1:=I q1;clear q0 q1;have P:=I (fun W' (h:Below w0.heap.size w0 W')=>And.intro (zA h Q0.1) (zA h Q1.1));have h2:=I (ztT w0.heap.size w0);refine(zhE t c k i l j fa fc p w0 c7 (n.1 _ c8.1).1).mono ?_;rintro e w1 ⟨bl,rfl,b7⟩;have U:=I (ztS c8.1 b7);have b8:=I b7;clear b7 c7;cases bl
 · have b9:=U;go_wp2_with fail;refine(zh2 _).mono ?_;rintro e wz ⟨rfl,V⟩;have c0:=I (ztS b9.1 V);clear V;go_wp2_with fail;go_ret;exact⟨rfl,c0.1⟩
 by_cases c9:40<d.length
 · have g2:decide ((40:Int)<(d.length:Int))=true:=by simp;omega
   have b9:=U;clear c9;go_wp2_with fail;refine(zh2 _).mono ?_;rintro e wz ⟨rfl,V⟩;have c0:=I (ztS b9.1 V);clear V;go_wp2_with fail;go_ret;exact⟨rfl,c0.1⟩
 have g2:decide ((40:Int)<(d.length:Int))=false:=by simp;omega
 clear c9;obtain⟨s1,d0⟩:∃s1,s1=(spR t c d).1:=⟨_,rfl⟩;obtain⟨s2,d1⟩:∃s2,s2=(spR t c d).2:=⟨_,rfl⟩;have d2:=I d0;have d3:=I d1;clear d0 d1;obtain⟨er,d4⟩:∃er,er=dErr t c d:=⟨_,rfl⟩;have o:=I d4;clear d4;obtain⟨q,r,s,Q⟩:=zdn (P.1 _ b8.1).1;obtain⟨u,v,x,y,z,A,B,C,D,E,a,b,f,g,R⟩:=zbZ (P.1 _ b8.1).2;go_wp2_with fail;refine(zjW t c k i l j fa fc p w1 (zd9 t k l fa i j fc c p) (n.1 _ U.1).1 d Z dc m (n.1 _ U.1).2).mono ?_;rintro e w2 ⟨rfl,c1⟩;have g3:=I (ztS U.1 c1);have g4:=I (ztS b8.1 c1);clear c1;clear q r s Q u v x y z A B C D E a b f g R;rw[←d2.1,←d3.1,←o.1];have bf:=zmZ w2 s1 s2;obtain⟨sa,c2⟩:∃sa,sa=w2.heap.size:=⟨_,rfl⟩;obtain⟨w3,a3⟩:∃W,W=(w2.alloc (Obj.cells #[.int .i64 s1,.int .i64 s2] 40)):=⟨_,rfl⟩;have a4:=bf.1;have F:=ztS g3.1 bf.2;have G:=ztS g4.1 bf.2;rw[←a3]at a4 F G;rw[←c2]at a4;have QA:=I a4;replace F:=I F;replace G:=I G;clear bf a4;obtain⟨q,r,s,Q⟩:=zdn (P.1 _ G.1).1;obtain⟨u,v,x,y,z,A,B,C,D,E,a,b,f,g,R⟩:=zbZ (P.1 _ G.1).2;rw[a3]at q r s Q u v x y z A B C D E a b f g R;go_wp2_with fail;rw[←a3];simp only[←c2];clear c2 a3;clear q r s Q u v x y z A B C D E a b f g R;refine(zjV t c k i l j fa fc p w3 N.1 a0 (n.1 _ F.1).1 d Z dc m (n.1 _ F.1).2).mono ?_;rintro e w4 ⟨rfl,a5⟩;have g5:=I (ztS F.1 a5);have g6:=I (ztS G.1 a5);have d5:=I (blkA a5 QA.1);clear a5 QA G F;rw[←d2.1,←d3.1,←o.1];have bf:=zmZ w4 s1 s2;obtain⟨sb,c3⟩:∃sb,sb=w4.heap.size:=⟨_,rfl⟩;obtain⟨w5,a6⟩:∃W,W=(w4.alloc (Obj.cells #[.int .i64 s1,.int .i64 s2] 40)):=⟨_,rfl⟩;have S:=bf.1;have H:=ztS g5.1 bf.2;have K:=ztS g6.1 bf.2;have X:=blkA bf.2 d5.1;rw[←a6]at S H K X;rw[←c3]at S;replace S:=I S;replace X:=I X;replace H:=I H;replace K:=I K;clear bf d5;obtain⟨q,r,s,Q⟩:=zdn (P.1 _ K.1).1;obtain⟨u,v,x,y,z,A,B,C,D,E,a,b,f,g,R⟩:=zbZ (P.1 _ K.1).2;rw[a6]at q r s Q u v x y z A B C D E a b f g R;go_wp2_with fail;rw[←a6];simp only[←c3];clear c3 a6;clear q r s Q u v x y z A B C D E a b f g R;refine(zdE t c k i l j fa fc p (zd9 t k l fa i j fc c p) w5 (n.1 _ H.1).1 d Z dc m (n.1 _ H.1).2).mono ?_;rintro e w6 hP;obtain⟨a1,k1,rfl,d6,Y⟩:=zf0.list hP;have a7:=I (ztS H.1 Y);have a8:=I (ztS K.1 Y);have d7:=I (blkA Y X.1);have d8:=I (blkA Y S.1);have A1:=I d6;rw[←o.1];clear Y d6 hP X S H K;obtain⟨q,r,s,Q⟩:=zdn (P.1 _ a8.1).1;obtain⟨u,v,x,y,z,A,B,C,D,E,a,b,f,g,R⟩:=zbZ (P.1 _ a8.1).2;go_wp2_with fail;clear q r s Q u v x y z A B C D E a b f g R;refine(zbw t c k i l j fa fc p w6 N.1 a0 (n.1 _ a7.1).1 d Z dc m (n.1 _ a7.1).2).mono ?_;rintro e w7 ⟨a2,k2,rfl,d9,T⟩;have a9:=I (ztS a7.1 T);have b2:=I (ztS a8.1 T);have f0:=I (blkA T d7.1);have f1:=I (blkA T d8.1);have f2:=I (A1.1.below T);have f3:=I d9;rw[←o.1];clear T d9 d7 d8 a7 a8 A1;obtain⟨q,r,s,Q⟩:=zdn (P.1 _ b2.1).1;obtain⟨u,v,x,y,z,A,B,C,D,E,a,b,f,g,R⟩:=zbZ (P.1 _ b2.1).2;go_wp2_with fail;clear q r s Q u v x y z A B C D E a b f g R;refine(zmw t c k i l j fa fc p w7 (zd9 t k l fa i j fc c p) (n.1 _ a9.1).1 d Z dc m (n.1 _ a9.1).2).mono ?_;rintro e w8 ⟨rfl,L⟩;have b3:=I (ztS a9.1 L);have b4:=I (ztS b2.1 L);have f4:=I (blkA L f0.1);have f5:=I (blkA L f1.1);have f6:=I (f2.1.below L);have f7:=I (f3.1.below L);rw[←o.1];clear L f0 f1 a9 b2 f2 f3;obtain⟨q,r,s,Q⟩:=zdn (P.1 _ b4.1).1;obtain⟨u,v,x,y,z,A,B,C,D,E,a,b,f,g,R⟩:=zbZ (P.1 _ b4.1).2;go_wp2_with fail;clear q r s Q u v x y z A B C D E a b f g R;refine(zj0 t c k i l j fa fc p w8 N.1 a0 (n.1 _ b3.1).1 d Z dc m (n.1 _ b3.1).2).mono ?_;rintro e w9 ⟨rfl,M⟩;have g7:=I (ztS b3.1 M);have f8:=I (ztS b4.1 M);have c4:=I (blkA M f4.1);have c5:=I (blkA M f5.1);have g8:=I (f6.1.below M);have g9:=I (f7.1.below M);rw[←o.1];clear M f4 f5 b3 b4 f6 f7;obtain⟨cr,f9⟩:∃cr,cr=crR t c d:=⟨_,rfl⟩;rw[←f9];clear f9;obtain⟨q,r,s,Q⟩:=zdn (P.1 _ f8.1).1;obtain⟨u,v,x,y,z,A,B,C,D,E,a,b,f,g,R⟩:=zbZ (P.1 _ f8.1).2;have u0:=zw c4.1;have u1:=zu c4.1;have ul:=ztW c4.1;have v0:=zw c5.1;have v1:=zu c5.1;have vl:=ztW c5.1;have BG:=I (fun dd os=>ztS g7.1 (below_regrown w9 dd os));have C1:=I (fun dd os=>ztZ (zhP t c k i l j fa fc p (zd9 t k l fa i j fc c p) (grow (redrawn w9 dd) os) (n.1 _ (BG.1 dd os)).1 d Z dc m (n.1 _ (BG.1 dd os)).2));have C2:=I (fun dd os=>ztZ (zdk t c k i l j fa fc p (grow (redrawn w9 dd) os) N.1 a0 (n.1 _ (BG.1 dd os)).1 d Z dc m (n.1 _ (BG.1 dd os)).2));rw[zrl]at C1;rw[←o.1]at C1 C2;have C3:=I (fun dd os=>ztZ (znP (zh3 t c d) a1 k1 a2 k2 (grow (redrawn w9 dd) os) (g8.1.below (below_regrown w9 dd os)) (g9.1.below (below_regrown w9 dd os)) g1));have C4:=I (fun dd os=>ztZ (zh2 (grow (redrawn w9 dd) os)));go_wp2_with fail;have r0:=fun dd os=>cell_regrown q dd os
 have r1:=fun dd os=>cell_regrown r dd os
 have r2:=fun dd os=>cell_regrown s dd os
 have t0:=fun dd os=>cell_regrown u dd os
 have t1:=fun dd os=>cell_regrown v dd os
 have t2:=fun dd os=>cell_regrown x dd os
 have t3:=fun dd os=>cell_regrown y dd os
 have t4:=fun dd os=>cell_regrown z dd os
 have t5:=fun dd os=>cell_regrown A dd os
 have t6:=fun dd os=>cell_regrown B dd os
 have t7:=fun dd os=>cell_regrown C dd os
 have t8:=fun dd os=>cell_regrown D dd os
 have t9:=fun dd os=>cell_regrown E dd os
 have h3:=fun dd os=>cell_regrown a dd os
 have h4:=fun dd os=>cell_regrown b dd os
 have h5:=fun dd os=>cell_regrown f dd os
 have h6:=fun dd os=>cell_regrown g dd os
 have m0:=fun dd os=>cell_regrown u0 dd os
 have m1:=fun dd os=>cell_regrown u1 dd os
 have n0:=fun dd os=>cell_regrown v0 dd os
 have n1:=fun dd os=>cell_regrown v1 dd os
 refine wp_region_quiet_below (by kernel_rfl) (by kernel_rfl) ?_;repeat (first|go_big_quiet_step (first|(with_reducible exact C1.1 _ _)|(with_reducible exact C2.1 _ _)|(with_reducible exact C3.1 _ _)|(with_reducible exact C4.1 _ _))|quiet_step (first|(with_reducible exact C1.1 _ _)|(with_reducible exact C2.1 _ _)|(with_reducible exact C3.1 _ _)|(with_reducible exact C4.1 _ _)))
 refine wpQuiet_nil ?_;intro _ h0;obtain⟨⟨dq,h1⟩,g0⟩:=h0;subst g0;go_wp2_with fail;go_ret;exact⟨rfl,BG.1 dq h1⟩
end Go.Proofs.YtdolonpblgfjdaaGreat
