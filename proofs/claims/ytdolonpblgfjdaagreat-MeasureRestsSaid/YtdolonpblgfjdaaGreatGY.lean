/- a part of the proof -/
import Derived.Test.YtdolonpblgfjdaaGreatGX
import Derived.Test.YtdolonpblgfjdaaGreatGT
set_option linter.unusedVariables false
set_option linter.unusedSimpArgs false
set_option maxRecDepth 100000
set_option maxHeartbeats 12800000
namespace Go.Proofs.YtdolonpblgfjdaaGreat
open Go.RowKit Go.Sort Go.Proofs.Tryz
theorem zuI(t:TTM)(c:ConM)(s:ByteArray)(x y:Duty):(zuy t c s x y).length≤140737488355328:=by
 unfold zuy
 split
 · rw[zf2 (show(zuh t c s x y).length=(zk 2).length from rfl),zuH];decide
 simp
theorem zuE(t:TTM)(c:ConM)(s:ByteArray)(x y:Duty)(i:zua)(d:Nat)(j:zua)(f:Nat)(fa:zua)(fc:Nat)(p:ConP)(M:zua)(Q:Nat)(N:zua)(R:Nat)(w:World)(hn:(t.zones.length≤d∧d≤140737488355328∧t.airs.length≤f∧f≤140737488355328)∧t.fls.length≤fc∧fc≤140737488355328)(hz:SlAt zcg w i t.zones)(ha:SlAt zei w j t.airs)(hf:SlAt zam w fa t.fls)(S:c.consts.length≤p.cc∧p.cc≤140737488355328)(hc:zdr w.heap.size w c p)(u:x.length≤140737488355328)(hx:SlAt za3 w M x)(v:y.length≤140737488355328)(hy:SlAt za3 w N y):
 Calls prog 5 #[.agg #[.slice i t.zones.length d,.slice j t.airs.length f,.slice fa t.fls.length fc],.agg #[.int .i64 c.report,.int .i64 c.release,.int .i64 c.connect,.int .i64 c.sit,.int .i64 c.layover,.int .i64 c.nf,.int .i64 c.nt,.slice p.ca c.consts.length p.cc,.slice p.ra c.rules.length p.rc,.slice p.ka c.costs.length p.kc,.slice p.xa c.credit.length p.xc,.slice p.la c.lims.length p.lc,.slice p.oa c.offs.length p.oc,.int .i64 c.guar],.string s,.slice M x.length Q,.slice N y.length R] w fun e w'=>e=.returned (.bool true)∧Below w.heap.size w w':=by
 have g:=I (fun W (h:Below w.heap.size w W)=>And.intro (TCAt.below ⟨hz,ha,hf,hc⟩ h) (And.intro (hx.below h) (hy.below h)));have T:=hn.1;have U:t.zones.length≤140737488355328∧t.airs.length≤140737488355328∧t.fls.length≤140737488355328:=by omega
 have a7:=zuI t c s x y;have C:=I (show t.zones.length≤d∧d≤140737488355328∧t.airs.length≤f∧f≤140737488355328 by omega);clear hz ha hf hc hx hy hn T;go_enter func5,ntmps5
 go_wp2_with fail;obtain⟨hB,q0,q1⟩:=zuN w t c i d j f fa fc p;have V:=I hB;obtain⟨b0,D⟩:∃b0,b0=w.heap.size:=⟨_,rfl⟩;obtain⟨b1,E⟩:∃b1,b1=w.heap.size+1:=⟨_,rfl⟩;rw[←D]at q0;rw[←E]at q1;simp only[←E];simp only[←D];clear D E hB;generalize (w.alloc (objT t i d j f fa fc)).alloc (objC c p)=w0 at*;have Q0:=I q0;have Q1:=I q1;clear q0 q1;have P:=I (fun W' (h:Below w0.heap.size w0 W')=>And.intro (blkA h Q0.1) (blkA h Q1.1));refine(zhE t c i d j f fa fc p w0 U (g.1 _ V.1).1).mono ?_;rintro e w1 ⟨bl,rfl,F⟩;have a:=I (ztS V.1 F);have z:=I F;clear F U;cases bl
 · have k:=a;go_wp2_with fail;refine(zh2 _).mono ?_;rintro e wz ⟨rfl,b⟩;have l:=I (ztS k.1 b);clear b;go_wp2_with fail;go_ret;exact⟨rfl,l.1⟩
 by_cases G:40<x.length
 · have ex:decide ((40:Int)<(x.length:Int))=true:=by simp;omega
   have k:=a;clear G;go_wp2_with fail;refine(zh2 _).mono ?_;rintro e wz ⟨rfl,b⟩;have l:=I (ztS k.1 b);clear b;go_wp2_with fail;go_ret;exact⟨rfl,l.1⟩
 have ex:decide ((40:Int)<(x.length:Int))=false:=by simp;omega
 by_cases X:40<y.length
 · have ey:decide ((40:Int)<(y.length:Int))=true:=by simp;omega
   have k:=a;clear G X;go_wp2_with fail;refine(zh2 _).mono ?_;rintro e wz ⟨rfl,b⟩;have l:=I (ztS k.1 b);clear b;go_wp2_with fail;go_ret;exact⟨rfl,l.1⟩
 have ey:decide ((40:Int)<(y.length:Int))=false:=by simp;omega
 clear G X;obtain⟨er,Y⟩:∃er,er=zuf t c s x y:=⟨_,rfl⟩;have Z:=I Y;clear Y;obtain⟨x0,x1,x2,xl⟩:=zdn (P.1 _ z.1).1;obtain⟨y0,y1,y2,y3,y4,y5,y6,y7,y8,y9,m,n,o,q,yl⟩:=zbZ (P.1 _ z.1).2;go_wp2_with fail;refine(zui t c i d j f fa fc p (zd9 t i j fa d f fc c p) w1 (g.1 _ a.1).1 s x y M N Q R u v (g.1 _ a.1).2.1 (g.1 _ a.1).2.2).mono ?_;rintro e w2 ⟨a1,k1,rfl,a0,H⟩;have r:=I (ztS a.1 H);have A:=I (ztS z.1 H);have A1:=I a0;rw[←Z.1];clear H a0 a z;clear x0 x1 x2 xl y0 y1 y2 y3 y4 y5 y6 y7 y8 y9 m n o q yl;obtain⟨x0,x1,x2,xl⟩:=zdn (P.1 _ A.1).1;obtain⟨y0,y1,y2,y3,y4,y5,y6,y7,y8,y9,m,n,o,q,yl⟩:=zbZ (P.1 _ A.1).2;go_wp2_with fail;refine(zug t c i d j f fa fc p w2 C.1 S (g.1 _ r.1).1 s x y M N Q R u v (g.1 _ r.1).2.1 (g.1 _ r.1).2.2).mono ?_;rintro e K ⟨a2,k2,rfl,a3,B⟩;have a8:=I (ztS r.1 B);have a4:=I (ztS A.1 B);have a9:=I (A1.1.below B);have A2:=I a3;rw[←Z.1];clear B a3 r A A1;clear x0 x1 x2 xl y0 y1 y2 y3 y4 y5 y6 y7 y8 y9 m n o q yl;obtain⟨x0,x1,x2,xl⟩:=zdn (P.1 _ a4.1).1;obtain⟨y0,y1,y2,y3,y4,y5,y6,y7,y8,y9,m,n,o,q,yl⟩:=zbZ (P.1 _ a4.1).2;have L:=I (fun dd os=>ztS a8.1 (below_regrown K dd os));obtain⟨es,a5⟩:∃es,es=tcE t c (zub t c x y):=⟨_,rfl⟩;have C1:=I (fun dd os=>ztZ (zup t c i d j f fa fc p (zd9 t i j fa d f fc c p) (grow (redrawn K dd) os) (g.1 _ (L.1 dd os)).1 x M Q u (g.1 _ (L.1 dd os)).2.1 y N R v (g.1 _ (L.1 dd os)).2.2));have C2:=I (fun dd os=>ztZ (zuo t c i d j f fa fc p (grow (redrawn K dd) os) C.1 S (g.1 _ (L.1 dd os)).1 x y M N Q R u v (g.1 _ (L.1 dd os)).2.1 (g.1 _ (L.1 dd os)).2.2));rw[←a5]at C1 C2;have C3:=I (fun dd os=>ztZ (znP (zuy t c s x y) a1 k1 a2 k2 (grow (redrawn K dd) os) (a9.1.below (below_regrown K dd os)) (A2.1.below (below_regrown K dd os)) a7));have C4:=I (fun dd os=>ztZ (zh2 (grow (redrawn K dd) os)));clear a5;go_wp2_with fail;have r0:=fun dd os=>cell_regrown x0 dd os
 have r1:=fun dd os=>cell_regrown x1 dd os
 have r2:=fun dd os=>cell_regrown x2 dd os
 have t0:=fun dd os=>cell_regrown y0 dd os
 have t1:=fun dd os=>cell_regrown y1 dd os
 have t2:=fun dd os=>cell_regrown y2 dd os
 have t3:=fun dd os=>cell_regrown y3 dd os
 have t4:=fun dd os=>cell_regrown y4 dd os
 have t5:=fun dd os=>cell_regrown y5 dd os
 have t6:=fun dd os=>cell_regrown y6 dd os
 have t7:=fun dd os=>cell_regrown y7 dd os
 have t8:=fun dd os=>cell_regrown y8 dd os
 have t9:=fun dd os=>cell_regrown y9 dd os
 have b4:=fun dd os=>cell_regrown m dd os
 have b5:=fun dd os=>cell_regrown n dd os
 have b6:=fun dd os=>cell_regrown o dd os
 have b7:=fun dd os=>cell_regrown q dd os
 refine wp_region_quiet_below (by kernel_rfl) (by kernel_rfl) ?_;repeat (first|go_big_quiet_step (first|(with_reducible exact C1.1 _ _)|(with_reducible exact C2.1 _ _)|(with_reducible exact C3.1 _ _)|(with_reducible exact C4.1 _ _))|quiet_step (first|(with_reducible exact C1.1 _ _)|(with_reducible exact C2.1 _ _)|(with_reducible exact C3.1 _ _)|(with_reducible exact C4.1 _ _)))
 refine wpQuiet_nil ?_;intro _ b2;obtain⟨⟨dq,b3⟩,a6⟩:=b2;subst a6;go_wp2_with fail;go_ret;exact⟨rfl,L.1 dq b3⟩
end Go.Proofs.YtdolonpblgfjdaaGreat
