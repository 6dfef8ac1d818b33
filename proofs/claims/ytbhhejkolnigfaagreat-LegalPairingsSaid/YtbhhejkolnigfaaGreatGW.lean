/- a part of the proof -/
import Derived.Test.YtbhhejkolnigfaaGreatGV
import Derived.Test.YtbhhejkolnigfaaGreatGN
set_option linter.unusedVariables false
set_option linter.unusedSimpArgs false
set_option maxRecDepth 100000
set_option maxHeartbeats 51200000
namespace Go.Proofs.YtbhhejkolnigfaaGreat
open Go.RowKit Go.Sort Go.Proofs.Tryz
theorem zum(t:TTM)(c:ConM)(v:zua)(z:Nat)(A:zua)(B:Nat)(fa:zua)(fc:Nat)(p:ConP)(w:World)(hT:zY t=0)(hC:valT c=0)(hf:SlAt zam w fa t.fls)(x y:Duty)(xa ya:zua)(xc yc:Nat)(b0:x.length<=140737488355328)(b1:y.length<=140737488355328)(hx:SlAt za3 w xa x)(hy:SlAt za3 w ya y):
 Calls prog 82 #[aggT t v z A B fa fc,aggC c p,.slice xa x.length xc,.slice ya y.length yc] w λe w'=>e=.returned (zub t c x y)/\Bw w w':=by
 try delta aggC aggT
 have HF:=I hf;have HX:=I hx;have HY:=I hy;have HT:=I hT;have HC:=I hC;have C:=(zcJ hT).2.2;clear hf hx hy hT hC;go_enter func82,ntmps82
 go_wp2_with fail;have HB:=I (ztS (J w (objT t v z A B fa fc)) (J _ (objC c p)));have QT:=I (zd (o':=(objC c p)) (zh w (objT t v z A B fa fc)));have QC:=I (zh (w.alloc (objT t v z A B fa fc)) (objC c p));rw[zr]at QC;obtain⟨cb,Z⟩:∃cb,cb=w.heap.size+1:=⟨_,rfl⟩;rw[<-Z]at QC;simp only[<-Z];clear Z;generalize (w.alloc (objT t v z A B fa fc)).alloc (objC c p)=W at*;refine(zlQ t c v z A B fa fc p W HT.1 (HF.1.below HB.1) x xa xc b0 (HX.1.below HB.1)).mono ?_;rintro e w1 ⟨rfl,K⟩;have D:=I (ztS HB.1 K);have a0:=I (blkA K QT.1);have a1:=I (blkA K QC.1);clear K HB QT QC;by_cases u:za6 t c x=0
 . have E:=I u;obtain⟨m,n,o,V⟩:=zdn a0.1;obtain⟨y0,y1,y2,y3,q,y5,y6,y7,y8,y9,L,M,N,P,X⟩:=zbZ a1.1;rw[u];clear u;go_wp2_with fail;clear m n o V y0 y1 y2 y3 q y5 y6 y7 y8 y9 L M N P X;refine(zlQ t c v z A B fa fc p w1 HT.1 (HF.1.below D.1) y ya yc b1 (HY.1.below D.1)).mono ?_;rintro e G ⟨rfl,Q⟩;have j:=I (ztS D.1 Q);have a2:=I (blkA Q a0.1);have a3:=I (blkA Q a1.1);clear Q D a0 a1;by_cases Y:za6 t c y=0
   . have H:=I Y;obtain⟨a5,b2,_,_⟩:(tAt x (x.length-1)).1=(lstN x:Int)/\lstN x<t.fls.length/\1<=x.length/\x.length<=6:=⟨(zfN E.1).2.2.1,(zfN E.1).2.2.2,(zcp E.1).1,(zcp E.1).2.1⟩;obtain⟨a6,b3,_,_⟩:(tAt y 0).1=(fstN y:Int)/\fstN y<t.fls.length/\1<=y.length/\y.length<=6:=⟨(zfN H.1).1,(zfN H.1).2.1,(zcp H.1).1,(zcp H.1).2.1⟩;have HM:=I (And.intro a5 a6);have bx:=zuj HT.1 HC.1 E.1;have bY:=zuj HT.1 HC.1 H.1;have hw:IntKind.i64.wrap ((zcK t c y).1-(zcK t c x).2)=(zcK t c y).1-(zcK t c x).2:=by rw[IntKind.wrap_i64];omega
     have r:∀w:World,(Instr.field 144 (.agg #[.int .i64 (zcK t c y).1,.int .i64 (zcK t c y).2]) 0).run prog w=.ok (.int .i64 (zcK t c y).1) w:=λ_=>by kernel_rfl
     have s:∀w:World,(Instr.field 144 (.agg #[.int .i64 (zcK t c x).1,.int .i64 (zcK t c x).2]) 1).run prog w=.ok (.int .i64 (zcK t c x).2) w:=λ_=>by kernel_rfl
     have g:=I (λdd os=>ztZ (zhi t c v z A B fa fc p (grow (redrawn G dd) os) HT.1 HC.1 (HF.1.below (ztS j.1 (below_regrown G dd os))) y ya yc H.1 (HY.1.below (ztS j.1 (below_regrown G dd os)))));have h:=I (λdd os=>ztZ (zhi t c v z A B fa fc p (grow (redrawn G dd) os) HT.1 HC.1 (HF.1.below (ztS j.1 (below_regrown G dd os))) x xa xc E.1 (HX.1.below (ztS j.1 (below_regrown G dd os)))));clear a5 a6;obtain⟨m,n,o,V⟩:=zdn a2.1;obtain⟨y0,y1,y2,y3,q,y5,y6,y7,y8,y9,L,M,N,P,X⟩:=zbZ a3.1;rw[Y];clear Y;go_wp2_with fail;have R:=λdd os=>cell_regrown m dd os
     have S:=λdd os=>cell_regrown n dd os
     have T:=λdd os=>cell_regrown o dd os
     have s0:=λdd os=>cell_regrown y0 dd os
     have s1:=λdd os=>cell_regrown y1 dd os
     have s2:=λdd os=>cell_regrown y2 dd os
     have s3:=λdd os=>cell_regrown y3 dd os
     have U:=λdd os=>cell_regrown q dd os
     have s5:=λdd os=>cell_regrown y5 dd os
     have s6:=λdd os=>cell_regrown y6 dd os
     have s7:=λdd os=>cell_regrown y7 dd os
     have s8:=λdd os=>cell_regrown y8 dd os
     have s9:=λdd os=>cell_regrown y9 dd os
     have b4:=λdd os=>cell_regrown L dd os
     have b5:=λdd os=>cell_regrown M dd os
     have b6:=λdd os=>cell_regrown N dd os
     have b7:=λdd os=>cell_regrown P dd os
     refine wp_region_quiet_below (by kernel_rfl) (by kernel_rfl) ?_;repeat (first|go_big_quiet_step (first|(with_reducible exact g.1 _ _)|(with_reducible exact h.1 _ _))|quiet_step (first|(with_reducible exact g.1 _ _)|(with_reducible exact h.1 _ _)))
     refine wpQuiet_nil ?_;intro _ f;obtain⟨⟨i,a⟩,b⟩:=f;subst b;have d:=I (ztS j.1 (below_regrown G i a));have a7:=I (blkA (below_regrown G i a) a2.1);have a4:=I (blkA (below_regrown G i a) a3.1);clear R S T s0 s1 s2 s3 U s5 s6 s7 s8 s9 b4 b5 b6 b7 g h m n o V y0 y1 y2 y3 q y5 y6 y7 y8 y9 L M N P X r s j a2 a3;generalize grow (redrawn G i) a=l at*;obtain⟨m,n,o,V⟩:=zdn a7.1;have q:=zbe a4.1;have X:=ztW a4.1;clear a7 a4;have g:=I (λdd os=>ztZ (zlb t v z A B fa fc (grow (redrawn l dd) os) (HF.1.below (ztS d.1 (below_regrown l dd os))) C x xa xc ⟨by omega,by omega⟩ (HX.1.below (ztS d.1 (below_regrown l dd os))) (lstN x) HM.1.1 b2));have h:=I (λdd os=>ztZ (ziT t v z A B fa fc (grow (redrawn l dd) os) (HF.1.below (ztS d.1 (below_regrown l dd os))) C y ya yc ⟨by omega,by omega⟩ (HY.1.below (ztS d.1 (below_regrown l dd os))) (fstN y) HM.1.2 b3));have r:∀w:World,(Instr.field 82 (.agg #[.string (fAt t.fls (lstN x)).num,.string (fAt t.fls (lstN x)).frm,.string (fAt t.fls (lstN x)).to,(fAt t.fls (lstN x)).dep,(fAt t.fls (lstN x)).arr,.string (fAt t.fls (lstN x)).typ,(fAt t.fls (lstN x)).n0,(fAt t.fls (lstN x)).n1,(fAt t.fls (lstN x)).n2]) 2).run prog w=.ok (.string (fAt t.fls (lstN x)).to) w:=λ_=>by kernel_rfl
     have s:∀w:World,(Instr.field 82 (.agg #[.string (fAt t.fls (fstN y)).num,.string (fAt t.fls (fstN y)).frm,.string (fAt t.fls (fstN y)).to,(fAt t.fls (fstN y)).dep,(fAt t.fls (fstN y)).arr,.string (fAt t.fls (fstN y)).typ,(fAt t.fls (fstN y)).n0,(fAt t.fls (fstN y)).n1,(fAt t.fls (fstN y)).n2]) 1).run prog w=.ok (.string (fAt t.fls (fstN y)).frm) w:=λ_=>by kernel_rfl
     cases u:((fAt t.fls (lstN x)).to.toList==(fAt t.fls (fstN y)).frm.toList)
     . have F:=I (show zub t c x y=14 by rw[zub,if_neg (by simp[E.1]),if_neg (by simp[H.1]),if_pos (by simp[zuk,u])]);have a8:((fAt t.fls (lstN x)).to.toList !=(fAt t.fls (fstN y)).frm.toList)=true:=by simpa using u
       go_wp2_with fail;have R:=λdd os=>cell_regrown m dd os
       have S:=λdd os=>cell_regrown n dd os
       have T:=λdd os=>cell_regrown o dd os
       have U:=λdd os=>cell_regrown q dd os
       refine wp_region_quiet_below (by kernel_rfl) (by kernel_rfl) ?_;repeat (first|go_big_quiet_step (first|(with_reducible exact g.1 _ _)|(with_reducible exact h.1 _ _))|quiet_step (first|(with_reducible exact g.1 _ _)|(with_reducible exact h.1 _ _)))
       refine wpQuiet_nil ?_;intro _ f;obtain⟨⟨i,a⟩,b⟩:=f;subst b;have k:=I (ztS d.1 (below_regrown l i a));clear R S T U g h m n o V q X r s d;generalize grow (redrawn l i) a=w4 at*;go_wp2_with fail;go_ret;exact⟨ze F.1.symm,k.1⟩
     have a8:((fAt t.fls (lstN x)).to.toList !=(fAt t.fls (fstN y)).frm.toList)=false:=by simpa using u
     by_cases Y:(zcK t c y).1-(zcK t c x).2<0
     . have F:=I (show zub t c x y=14 by rw[zub,if_neg (by simp[E.1]),if_neg (by simp[H.1]),if_pos (by simp only[zuk,u,Bool.true_and,Bool.and_eq_false_iff,decide_eq_false_iff_not];exact .inl (by omega))]);have a9:decide ((zcK t c y).1-(zcK t c x).2<0)=true:=by simpa using Y
       go_wp2_with fail;have R:=λdd os=>cell_regrown m dd os
       have S:=λdd os=>cell_regrown n dd os
       have T:=λdd os=>cell_regrown o dd os
       have U:=λdd os=>cell_regrown q dd os
       refine wp_region_quiet_below (by kernel_rfl) (by kernel_rfl) ?_;repeat (first|go_big_quiet_step (first|(with_reducible exact g.1 _ _)|(with_reducible exact h.1 _ _))|quiet_step (first|(with_reducible exact g.1 _ _)|(with_reducible exact h.1 _ _)))
       refine wpQuiet_nil ?_;intro _ f;obtain⟨⟨i,a⟩,b⟩:=f;subst b;have k:=I (ztS d.1 (below_regrown l i a));clear R S T U g h m n o V q X r s d;generalize grow (redrawn l i) a=w4 at*;go_wp2_with fail;go_ret;exact⟨ze F.1.symm,k.1⟩
     have a9:decide ((zcK t c y).1-(zcK t c x).2<0)=false:=by simpa using Y
     by_cases e2:c.layover<(zcK t c y).1-(zcK t c x).2
     . have F:=I (show zub t c x y=14 by rw[zub,if_neg (by simp[E.1]),if_neg (by simp[H.1]),if_pos (by simp only[zuk,u,Bool.true_and,Bool.and_eq_false_iff,decide_eq_false_iff_not];exact .inr (by omega))]);have b8:decide (c.layover<(zcK t c y).1-(zcK t c x).2)=true:=by simpa using e2
       go_wp2_with fail;have R:=λdd os=>cell_regrown m dd os
       have S:=λdd os=>cell_regrown n dd os
       have T:=λdd os=>cell_regrown o dd os
       have U:=λdd os=>cell_regrown q dd os
       refine wp_region_quiet_below (by kernel_rfl) (by kernel_rfl) ?_;repeat (first|go_big_quiet_step (first|(with_reducible exact g.1 _ _)|(with_reducible exact h.1 _ _))|quiet_step (first|(with_reducible exact g.1 _ _)|(with_reducible exact h.1 _ _)))
       refine wpQuiet_nil ?_;intro _ f;obtain⟨⟨i,a⟩,b⟩:=f;subst b;have k:=I (ztS d.1 (below_regrown l i a));clear R S T U g h m n o V q X r s d;generalize grow (redrawn l i) a=w4 at*;go_wp2_with fail;go_ret;exact⟨ze F.1.symm,k.1⟩
     have F:=I (show zub t c x y=0 by rw[zub,if_neg (by simp[E.1]),if_neg (by simp[H.1]),if_neg (by simp only[zuk,u,Bool.true_and];simp;omega)]);have b8:decide (c.layover<(zcK t c y).1-(zcK t c x).2)=false:=by simpa using e2
     go_wp2_with fail;have R:=λdd os=>cell_regrown m dd os
     have S:=λdd os=>cell_regrown n dd os
     have T:=λdd os=>cell_regrown o dd os
     have U:=λdd os=>cell_regrown q dd os
     refine wp_region_quiet_below (by kernel_rfl) (by kernel_rfl) ?_;repeat (first|go_big_quiet_step (first|(with_reducible exact g.1 _ _)|(with_reducible exact h.1 _ _))|quiet_step (first|(with_reducible exact g.1 _ _)|(with_reducible exact h.1 _ _)))
     refine wpQuiet_nil ?_;intro _ f;obtain⟨⟨i,a⟩,b⟩:=f;subst b;have k:=I (ztS d.1 (below_regrown l i a));clear R S T U g h m n o V q X r s d;generalize grow (redrawn l i) a=w4 at*;go_wp2_with fail;go_ret;exact⟨ze F.1.symm,k.1⟩
   have F:=I (show zub t c x y=za6 t c y by rw[zub,if_neg (by simp[E.1]),if_pos Y]);have a9:(za6 t c y !=0)=true:=by simpa using Y
   go_wp2_with fail;go_ret;exact⟨ze F.1.symm,j.1⟩
 have F:=I (show zub t c x y=za6 t c x by rw[zub,if_pos u]);have a8:(za6 t c x !=0)=true:=by simpa using u
 go_wp2_with fail;go_ret;exact⟨ze F.1.symm,D.1⟩
theorem zuG{t:TTM}{c:ConM}{e:Int}(h:tcV t c≠0):tcE t c e=tcV t c:=by
 by_cases a:zY t=0
 . have b:valT c≠0:=by simpa[tcV,a] using h
   rw[tcE_c a b];simp[tcV,a]
 rw[tcE_t a];simp[tcV,a]

end Go.Proofs.YtbhhejkolnigfaaGreat
