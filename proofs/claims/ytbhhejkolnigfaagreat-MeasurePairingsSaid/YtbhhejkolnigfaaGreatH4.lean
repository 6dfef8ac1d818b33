/- a part of the proof -/
import Derived.Test.YtbhhejkolnigfaaGreatH3
set_option linter.unusedVariables false
set_option linter.unusedSimpArgs false
set_option maxRecDepth 100000
set_option maxHeartbeats 51200000
namespace Go.Proofs.YtbhhejkolnigfaaGreat
open Go.RowKit Go.Sort Go.Proofs.Tryz
theorem zvS(t:TTM)(c:ConM)(s:ByteArray)(L:List Duty):(zvC t c s L).length<=140737488355328:=by
 unfold zvC
 split
 . rw[zf2 (show(zuY t c s L).length=(zk 3).length from rfl)];show 7<=_;decide
 simp
theorem zvL(t:TTM)(c:ConM)(s:ByteArray)(L:List Duty)(k:zua)(b:Nat)(l:zua)(d:Nat)(fa:zua)(fc:Nat)(p:ConP)(x:zua)(cap:Nat)(w:World)(hn:(t.zones.length<=b/\b<=140737488355328/\t.airs.length<=d/\d<=140737488355328)/\t.fls.length<=fc/\fc<=140737488355328)(hz:SlAt zcg w k t.zones)(ha:SlAt zei w l t.airs)(hf:SlAt zam w fa t.fls)(a6:c.consts.length<=p.cc/\p.cc<=140737488355328)(hc:zdr w.heap.size w c p)(c0:s.size<=140737488355328)(m:L.length<=140737488355328)(hl:SlAt dutyRT w x L):
 Calls prog 3 #[aggT t k b l d fa fc,aggC c p,.agg #[.string s,.slice x L.length cap]] w λe w'=>e=.returned (.bool true)/\Bw w w':=by
 try delta aggC aggT
 have y:=I (λW (h:Bw w W)=>And.intro (TCAt.below ⟨hz,ha,hf,hc⟩ h) (hl.below h));have a7:=hn.1;have C:t.zones.length<=140737488355328/\t.airs.length<=140737488355328/\t.fls.length<=140737488355328:=by omega
 have b3:=zvS t c s L;have D:=I (show t.zones.length<=b/\b<=140737488355328/\t.airs.length<=d/\d<=140737488355328 by omega);clear hz ha hf hc hl hn a7;go_enter func3,ntmps3
 go_wp2_with fail;obtain⟨hB,qT,qC,qP⟩:=zvm w t c k b l d fa fc p (Obj.cells #[.string s,.slice x L.length cap] 37);have a8:=I hB;obtain⟨cb,E⟩:∃cb,cb=w.heap.size+1:=⟨_,rfl⟩;obtain⟨pb,F⟩:∃pb,pb=w.heap.size+1+1:=⟨_,rfl⟩;rw[<-F]at qP;rw[<-E]at qC;simp only[<-F];simp only[<-E];clear E F hB;generalize ((w.alloc (objT t k b l d fa fc)).alloc (objC c p)).alloc (Obj.cells #[.string s,.slice x L.length cap] 37)=W0 at*;have a:=I (λW' (h:Bw W0 W')=>(⟨blkA h qT,blkA h qC,blkA h qP⟩:W'.heap[w.heap.size]?=some (objT t k b l d fa fc)/\W'.heap[cb]?=some (objC c p)/\W'.heap[pb]?=some (Obj.cells #[.string s,.slice x L.length cap] 37)));clear qT qC qP;have b4:=I (ztT W0.heap.size W0);refine(zhE t c k b l d fa fc p W0 C (y.1 _ a8.1).1).mono ?_;rintro e w1 ⟨bl,rfl,G⟩;have z:=I (ztS a8.1 G);have n:=I G;clear G C b4;cases bl
 . have o:=z;go_wp2_with fail;refine(zh2 _).mono ?_;rintro e wz ⟨rfl,q⟩;have H:=I (ztS o.1 q);clear q;go_wp2_with fail;go_ret;exact⟨rfl,H.1⟩
 obtain⟨K,M,N,xl⟩:=zdn (a.1 _ n.1).1;obtain⟨P,Q,R,S,T,U,V,X,Y,Z,f,g,i,j,yl⟩:=zbZ (a.1 _ n.1).2.1;obtain⟨g0,g1,gl⟩:=zuw (a.1 _ n.1).2.2;go_wp2_with fail;refine(zu7 s L x cap w1 m (y.1 _ z.1).2).mono ?_;rintro e w2 ⟨rfl,a0⟩;have r:=I (ztS z.1 a0);have u:=I (ztS n.1 a0);clear a0 z n;clear K M N xl P Q R S T U V X Y Z f g i j yl g0 g1 gl;cases b5:zvz L
 . have o:=r;go_wp2_with fail;refine(zh2 _).mono ?_;rintro e wz ⟨rfl,q⟩;have H:=I (ztS o.1 q);clear q;go_wp2_with fail;go_ret;exact⟨rfl,H.1⟩
 clear b5;obtain⟨er,a9⟩:∃er,er=pErr t c s L:=⟨_,rfl⟩;have a3:=I a9;clear a9;obtain⟨K,M,N,xl⟩:=zdn (a.1 _ u.1).1;obtain⟨P,Q,R,S,T,U,V,X,Y,Z,f,g,i,j,yl⟩:=zbZ (a.1 _ u.1).2.1;obtain⟨g0,g1,gl⟩:=zuw (a.1 _ u.1).2.2;go_wp2_with fail;refine(zuV t c k b l d fa fc p (zd9 t k l fa b d fc c p) w2 (y.1 _ r.1).1 s L x cap m (y.1 _ r.1).2).mono ?_;rintro e w3 ⟨a1,k1,rfl,b0,a4⟩;have A:=I (ztS r.1 a4);have v:=I (ztS u.1 a4);have A1:=I b0;rw[<-a3.1];clear a4 b0 r u;clear K M N xl P Q R S T U V X Y Z f g i j yl g0 g1 gl;obtain⟨K,M,N,xl⟩:=zdn (a.1 _ v.1).1;obtain⟨P,Q,R,S,T,U,V,X,Y,Z,f,g,i,j,yl⟩:=zbZ (a.1 _ v.1).2.1;obtain⟨g0,g1,gl⟩:=zuw (a.1 _ v.1).2.2;go_wp2_with fail;refine(zuT t c k b l d fa fc p w3 D.1 a6 (y.1 _ A.1).1 s L x cap m (y.1 _ A.1).2).mono ?_;rintro e w4 ⟨a2,k2,rfl,b1,B⟩;have b6:=I (ztS A.1 B);have a5:=I (ztS v.1 B);have b7:=I (A1.1.below B);have A2:=I b1;rw[<-a3.1];clear B b1 A v A1;clear K M N xl P Q R S T U V X Y Z f g i j yl g0 g1 gl;obtain⟨K,M,N,xl⟩:=zdn (a.1 _ a5.1).1;obtain⟨P,Q,R,S,T,U,V,X,Y,Z,f,g,i,j,yl⟩:=zbZ (a.1 _ a5.1).2.1;obtain⟨g0,g1,gl⟩:=zuw (a.1 _ a5.1).2.2;have BG:=I (λdd os=>ztS b6.1 (below_regrown w4 dd os));have C1:=I (λdd os=>ztZ (zvb t c k b l d fa fc p (zd9 t k l fa b d fc c p) (grow (redrawn w4 dd) os) (y.1 _ (BG.1 dd os)).1 s L x cap m (y.1 _ (BG.1 dd os)).2));have C2:=I (λdd os=>ztZ (zuW t c k b l d fa fc p (grow (redrawn w4 dd) os) D.1 a6 (y.1 _ (BG.1 dd os)).1 s L x cap m (y.1 _ (BG.1 dd os)).2));rw[show tcE t c (zuO t c s L)=er from a3.1.symm]at C1 C2;have C3:=I (λdd os=>ztZ (znP (zvC t c s L) a1 k1 a2 k2 (grow (redrawn w4 dd) os) (b7.1.below (below_regrown w4 dd os)) (A2.1.below (below_regrown w4 dd os)) b3));have C4:=I (λdd os=>ztZ (zh2 (grow (redrawn w4 dd) os)));go_wp2_with fail;have r0:=λdd os=>cell_regrown K dd os
 have r1:=λdd os=>cell_regrown M dd os
 have r2:=λdd os=>cell_regrown N dd os
 have t0:=λdd os=>cell_regrown P dd os
 have t1:=λdd os=>cell_regrown Q dd os
 have t2:=λdd os=>cell_regrown R dd os
 have t3:=λdd os=>cell_regrown S dd os
 have t4:=λdd os=>cell_regrown T dd os
 have t5:=λdd os=>cell_regrown U dd os
 have t6:=λdd os=>cell_regrown V dd os
 have t7:=λdd os=>cell_regrown X dd os
 have t8:=λdd os=>cell_regrown Y dd os
 have t9:=λdd os=>cell_regrown Z dd os
 have c1:=λdd os=>cell_regrown f dd os
 have c2:=λdd os=>cell_regrown g dd os
 have c3:=λdd os=>cell_regrown i dd os
 have c4:=λdd os=>cell_regrown j dd os
 have u0:=λdd os=>cell_regrown g0 dd os
 have u1:=λdd os=>cell_regrown g1 dd os
 refine wp_region_quiet_below (by kernel_rfl) (by kernel_rfl) ?_;repeat (first|go_big_quiet_step (first|(with_reducible exact C1.1 _ _)|(with_reducible exact C2.1 _ _)|(with_reducible exact C3.1 _ _)|(with_reducible exact C4.1 _ _))|quiet_step (first|(with_reducible exact C1.1 _ _)|(with_reducible exact C2.1 _ _)|(with_reducible exact C3.1 _ _)|(with_reducible exact C4.1 _ _)))
 refine wpQuiet_nil ?_;intro _ b8;obtain⟨⟨dq,b9⟩,b2⟩:=b8;subst b2;go_wp2_with fail;go_ret;exact⟨rfl,BG.1 dq b9⟩
end Go.Proofs.YtbhhejkolnigfaaGreat
