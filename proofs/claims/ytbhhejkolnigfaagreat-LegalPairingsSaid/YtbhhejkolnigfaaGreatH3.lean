/- a part of the proof -/
import Derived.Test.YtbhhejkolnigfaaGreatH2
set_option linter.unusedVariables false
set_option linter.unusedSimpArgs false
set_option maxRecDepth 100000
set_option maxHeartbeats 51200000
namespace Go.Proofs.YtbhhejkolnigfaaGreat
open Go.RowKit Go.Sort Go.Proofs.Tryz
theorem zvY{L:List Duty}{k:Nat}(h:k<L.length):poF L k (L.length-k)=(zu6 (dAt L k) || poF L (k+1) (L.length-(k+1))):=by
 cases e:zu6 (dAt L k)
 . rw[zv2 h e];rfl
 rw[zvQ h e];rfl
theorem zvJ{t:TTM}{c:ConM}{x y:Duty}(a:za6 t c x=0)(b:za6 t c y=0):zub t c x y=if zuk t c x y=true then 0 else 14:=by
 rw[zub,if_neg (by simp[a]),if_neg (by simp[b])];cases zuk t c x y <;> rfl
theorem zvH(t:TTM)(c:ConM)(za:zua)(zc:Nat)(aa:zua)(ac:Nat)(fa:zua)(fc:Nat)(p:ConP)(w:World)(hT:zY t=0)(hC:valT c=0)(ha:SlAt zei w aa t.airs)(hf:SlAt zam w fa t.fls)(s:ByteArray)(L:List Duty)(la:zua)(cap:Nat)(f0:L.length<=140737488355328)(hl:SlAt dutyRT w la L):
 Calls prog 36 #[aggT t za zc aa ac fa fc,aggC c p,.agg #[.string s,.slice la L.length cap]] w λe w'=>e=.returned (zuO t c s L)/\Bw w w':=by
 try delta aggC aggT
 have HT:=I hT;have HC:=I hC;have HF:=I hf;have HA:=I ha;have HL:=I hl;have a4:=(zcJ hT).2.2;have f1:=(zcJ hT).2.1;have b3:=I (zux t s);clear hT hC hf ha hl;go_enter func36,ntmps36
 go_wp2_with fail;obtain⟨z,qT,qC,qP⟩:=zvm w t c za zc aa ac fa fc p (oP s la L.length cap);have a:=I z;obtain⟨cb,a8⟩:∃cb,cb=w.heap.size+1:=⟨_,rfl⟩;obtain⟨pb,a9⟩:∃pb,pb=w.heap.size+1+1:=⟨_,rfl⟩;rw[<-a9]at qP;rw[<-a8]at qC;simp only[<-a9];simp only[<-a8];clear a8 a9 z;generalize ((w.alloc (objT t za zc aa ac fa fc)).alloc (objC c p)).alloc (oP s la L.length cap)=W0 at*;have r:=I (λW' (h:Bw W0 W')=>(⟨blkA h qT,blkA h qC,blkA h qP⟩:W'.heap[w.heap.size]?=some (objT t za zc aa ac fa fc)/\W'.heap[cb]?=some (objC c p)/\W'.heap[pb]?=some (oP s la L.length cap)));clear qT qC qP;have M:=I (ztT W0.heap.size W0);refine(zbE t.airs s aa ac W0 (HA.1.below a.1) (by omega)).mono ?_;rintro e w' ⟨rfl,rfl⟩;cases hb:zul t s
 . have N:=I (show zuO t c s L=6 by rw[zuO,if_pos hb]);have u:decide (ziu t.airs s<0)=true:=by rw[b3.1,hb];rfl
   clear hb;go_wp2_with fail;go_ret;exact⟨ze N.1.symm,a.1⟩
 have u:decide (ziu t.airs s<0)=false:=by rw[b3.1,hb];rfl
 obtain⟨P,Q,R,xl⟩:=zdn (r.1 _ M.1).1;obtain⟨S,T,U,V,W,X,Y,Z,y8,y9,d,f,g,l,yl⟩:=zbZ (r.1 _ M.1).2.1;obtain⟨g0,g1,gl⟩:=zuw (r.1 _ M.1).2.2;by_cases b4:L.length<1
 . have N:=I (show zuO t c s L=5 by rw[zuO,if_neg (by simp[hb]),if_pos (.inl b4)]);have en:decide ((L.length:Int)<1)=true:=by simp;omega
   clear hb;go_wp2_with fail;go_ret;exact⟨ze N.1.symm,a.1⟩
 have en:decide ((L.length:Int)<1)=false:=by simp;omega
 by_cases b5:6<L.length
 . have N:=I (show zuO t c s L=5 by rw[zuO,if_neg (by simp[hb]),if_pos (.inr b5)]);have em:decide ((6:Int)<(L.length:Int))=true:=by simp;omega
   clear hb;go_wp2_with fail;go_ret;exact⟨ze N.1.symm,a.1⟩
 have em:decide ((6:Int)<(L.length:Int))=false:=by simp;omega
 have HP:=I (show zuO t c s L=if fstE (pdE t c L) 0 (L.length-0)≠0 then fstE (pdE t c L) 0 (L.length-0) else if fstE (pfE t c L) 1 (L.length-1)≠0 then 14 else if zu0 t s L=false then 14 else if poB L=true then 0 else 14 by rw[zuO,if_neg (by simp[hb]),if_neg (by omega)]);have h1:1<=L.length:=by omega
 have h6:L.length<=6:=by omega
 clear hb b4 b5;go_wp2_with fail;clear u en em P Q R xl S T U V W X Y Z y8 y9 d f g l yl g0 g1 gl;obtain⟨db,f2,rfl,F,b6⟩:=zuQ HL.1 (by omega);have a3:=I b6;clear b6;go_loopw [8,9] (λo i wr=>∃(k:Nat) (b:Bool),k<=L.length/\o=.bool b/\i=.int .i64 k/\ztR (fstE (pdE t c L) 0 (L.length-0)=fstE (pdE t c L) k (L.length-k))/\ztR (poB L=(b || poF L k (L.length-k)))/\ztR (Bw W0 wr)) (λ_ i _=>L.length-(intOf i).toNat)
 case atStart=>exact⟨0,false,ztX _,rfl,rfl,I rfl,I rfl,M⟩
 clear M;obtain⟨k,b,hk,rfl,rfl,hv,hO,z⟩:=hrel;by_cases u:k<L.length
 . obtain⟨P,Q,R,xl⟩:=zdn (r.1 _ z.1).1;obtain⟨S,T,U,V,W,X,Y,Z,y8,y9,d,f,g,l,yl⟩:=zbZ (r.1 _ z.1).2.1;obtain⟨g0,g1,gl⟩:=zuw (r.1 _ z.1).2.2;obtain⟨ak,ck,d0,dl,ds⟩:=(a3.1.below F (ztS a.1 z.1)) k u;have v:=ztU F (ztS a.1 z.1).size;have DS:=I ds;have H:=I z.1;have G:=I (λdd os=>ztZ (zlQ t c za zc aa ac fa fc p (grow (redrawn wr dd) os) HT.1 (HF.1.below (ztS a.1 (ztS H.1 (below_regrown wr dd os)))) (dAt L k) ak ck dl (DS.1.below (below_regrown wr dd os))));have c3:(k:Int)<(L.length:Int):=by omega
   clear ds z;go_wp2_with fail;have r0:=λdd os=>cell_regrown P dd os
   have r1:=λdd os=>cell_regrown Q dd os
   have r2:=λdd os=>cell_regrown R dd os
   have s0:=λdd os=>cell_regrown S dd os
   have s1:=λdd os=>cell_regrown T dd os
   have s2:=λdd os=>cell_regrown U dd os
   have s3:=λdd os=>cell_regrown V dd os
   have s4:=λdd os=>cell_regrown W dd os
   have s5:=λdd os=>cell_regrown X dd os
   have s6:=λdd os=>cell_regrown Y dd os
   have s7:=λdd os=>cell_regrown Z dd os
   have s8:=λdd os=>cell_regrown y8 dd os
   have s9:=λdd os=>cell_regrown y9 dd os
   have A:=λdd os=>cell_regrown d dd os
   have B:=λdd os=>cell_regrown f dd os
   have C:=λdd os=>cell_regrown g dd os
   have D:=λdd os=>cell_regrown l dd os
   have t0:=λdd os=>cell_regrown g0 dd os
   have t1:=λdd os=>cell_regrown g1 dd os
   have t2:=λdd os=>cell_regrown d0 dd os
   refine wp_region_quiet_below (by kernel_rfl) (by kernel_rfl) ?_;repeat (first|go_big_quiet_step (first|(with_reducible exact G.1 _ _))|quiet_step (first|(with_reducible exact G.1 _ _)))
   refine wpQuiet_nil ?_;intro _ E;obtain⟨⟨dq,m⟩,n⟩:=E;subst n;have x:=I (ztS H.1 (below_regrown wr dq m));clear r0 r1 r2 s0 s1 s2 s3 s4 s5 s6 s7 s8 s9 A B C D t0 t1 t2 P Q R xl S T U V W X Y Z y8 y9 d f g l yl g0 g1 gl G DS H d0 v;generalize grow (redrawn wr dq) m=w2 at*;by_cases K:za6 t c (dAt L k)=0
   . have c4:=I (hv.1.trans (zcS u K));rw[K];clear hv K;go_wp2_with fail;go_loopw [8,11] (λo j wr=>∃(q:Nat) (b1:Bool),q<=(dAt L k).length/\o=.bool b1/\j=.int .i64 q/\ztR ((b || zu6 (dAt L k))=(b1 || zu3 (dAt L k) q ((dAt L k).length-q)))/\ztR (Bw W0 wr)) (λ_ j _=>(dAt L k).length-(intOf j).toNat)
     case atStart=>exact⟨0,b,ztX _,rfl,rfl,I rfl,x⟩
     clear x;obtain⟨q,b1,hq,rfl,rfl,hI,y⟩:=hrel;obtain⟨P,Q,R,xl⟩:=zdn (r.1 _ y.1).1;obtain⟨S,T,U,V,W,X,Y,Z,y8,y9,d,f,g,l,yl⟩:=zbZ (r.1 _ y.1).2.1;obtain⟨g0,g1,gl⟩:=zuw (r.1 _ y.1).2.2;obtain⟨ak,ck,d0,dl,ds⟩:=(a3.1.below F (ztS a.1 y.1)) k u;have v:=ztU F (ztS a.1 y.1).size;by_cases b0:q<(dAt L k).length
     . obtain⟨tb,d9,rfl,f3,b7⟩:=zbF ds (by omega);have c1:=(b7 q b0).2;have f4:(q:Int)<((dAt L k).length:Int):=by omega
       clear b7;cases b1
       . cases hh:(tAt (dAt L k) q).2
         . rw[hh]at c1;have HI:=I (show(b || zu6 (dAt L k))=(true || zu3 (dAt L k) (q+1) ((dAt L k).length-(q+1))) by rw[hI.1,zvv b0 hh];rfl);have a2:=I y.1;clear hI y;go_wp2_with fail;go_roundw
           case rel=>exact⟨q+1,true,by omega,rfl,by go_num,HI,a2⟩
           case measure=>simp[intOf];omega
         rw[hh]at c1;have HI:=I (show(b || zu6 (dAt L k))=(false || zu3 (dAt L k) (q+1) ((dAt L k).length-(q+1))) by rw[hI.1,zvG b0 hh]);have a2:=I y.1;clear hI y;go_wp2_with fail;go_roundw
         case rel=>exact⟨q+1,false,by omega,rfl,by go_num,HI,a2⟩
         case measure=>simp[intOf];omega
       have HI:=I (show(b || zu6 (dAt L k))=(true || zu3 (dAt L k) (q+1) ((dAt L k).length-(q+1))) by rw[hI.1];rfl);have a2:=I y.1;clear hI y;go_wp2_with fail;go_roundw
       case rel=>exact⟨q+1,true,by omega,rfl,by go_num,HI,a2⟩
       case measure=>simp[intOf];omega
     obtain rfl:q=(dAt L k).length:=by omega
     have c5:=I (show poB L=(b1 || poF L (k+1) (L.length-(k+1))) by
      have h:=hI.1;rw[zvw,Bool.or_false]at h;rw[hO.1,zvY u,<-Bool.or_assoc,h])
     have a2:=I y.1;clear hI y hO ds;go_wp2_with fail;go_roundw
     case rel=>exact⟨k+1,b1,by omega,rfl,by go_num,c4,c5,a2⟩
     case measure=>simp[intOf];omega
   have N:=I (show zuO t c s L=za6 t c (dAt L k) by
    have h:=hv.1.trans (zbN u K);rw[HP.1,h];exact if_pos K)
   have e1:(za6 t c (dAt L k) !=0)=true:=by simpa using K
   clear K hv;go_wp2_with fail;go_ret;exact⟨ze N.1.symm,ztS a.1 x.1⟩
 obtain rfl:k=L.length:=by omega
 have hz:=hv.1.trans (zb9 _ _);have HD:=I (λ(j:Nat) (hj:j<L.length)=>(show za6 t c (dAt L j)=0 from zcN _ _ hz j (by omega) (by omega)));have b2:=I (show zuO t c s L=if fstE (pfE t c L) 1 (L.length-1)≠0 then 14 else if zu0 t s L=false then 14 else if poB L=true then 0 else 14 by rw[HP.1,hz];rfl);have b8:=I (show poB L=b by rw[hO.1,zvR,Bool.or_false]);have b9:=I z.1;clear hv hO z hz u hk HP;go_wp2_with fail;go_loopw [12] (λi wr=>∃(k:Nat),1<=k/\k<=L.length/\i=.int .i64 k/\ztR (fstE (pfE t c L) 1 (L.length-1)=fstE (pfE t c L) k (L.length-k))/\ztR (Bw W0 wr)) (λi _=>L.length-(intOf i).toNat)
 case atStart=>exact⟨1,by omega,h1,rfl,I rfl,b9⟩
 clear b9;obtain⟨k,c6,hk,rfl,hv,z⟩:=hrel;by_cases u:k<L.length
 . obtain⟨q,rfl⟩:∃q,k=q+1:=⟨k-1,by omega⟩;obtain⟨P,Q,R,xl⟩:=zdn (r.1 _ z.1).1;obtain⟨S,T,U,V,W,X,Y,Z,y8,y9,d,f,g,l,yl⟩:=zbZ (r.1 _ z.1).2.1;obtain⟨g0,g1,gl⟩:=zuw (r.1 _ z.1).2.2;obtain⟨aj,cj,d0,dl,ds⟩:=(a3.1.below F (ztS a.1 z.1)) q (by omega);obtain⟨ak,ck,d1,el,es⟩:=(a3.1.below F (ztS a.1 z.1)) (q+1) u;have v:=ztU F (ztS a.1 z.1).size;have DS:=I (And.intro ds es);have H:=I z.1;have G:=I (λdd os=>ztZ (zum t c za zc aa ac fa fc p (grow (redrawn wr dd) os) HT.1 HC.1 (HF.1.below (ztS a.1 (ztS H.1 (below_regrown wr dd os)))) (dAt L q) (dAt L (q+1)) aj ak cj ck dl el (DS.1.1.below (below_regrown wr dd os)) (DS.1.2.below (below_regrown wr dd os))));rw[zvJ (HD.1 q (by omega)) (HD.1 (q+1) u)]at G;have c7:IntKind.i64.wrap (((q+1:Nat):Int)-1)=(q:Int):=by rw[IntKind.wrap_i64];omega
   have c3:((q+1:Nat):Int)<(L.length:Int):=by omega
   have f5:(q:Int)<(L.length:Int):=by omega
   clear ds es z;go_wp2_with fail;have r0:=λdd os=>cell_regrown P dd os
   have r1:=λdd os=>cell_regrown Q dd os
   have r2:=λdd os=>cell_regrown R dd os
   have s0:=λdd os=>cell_regrown S dd os
   have s1:=λdd os=>cell_regrown T dd os
   have s2:=λdd os=>cell_regrown U dd os
   have s3:=λdd os=>cell_regrown V dd os
   have s4:=λdd os=>cell_regrown W dd os
   have s5:=λdd os=>cell_regrown X dd os
   have s6:=λdd os=>cell_regrown Y dd os
   have s7:=λdd os=>cell_regrown Z dd os
   have s8:=λdd os=>cell_regrown y8 dd os
   have s9:=λdd os=>cell_regrown y9 dd os
   have A:=λdd os=>cell_regrown d dd os
   have B:=λdd os=>cell_regrown f dd os
   have C:=λdd os=>cell_regrown g dd os
   have D:=λdd os=>cell_regrown l dd os
   have t0:=λdd os=>cell_regrown g0 dd os
   have t1:=λdd os=>cell_regrown g1 dd os
   have t2:=λdd os=>cell_regrown d0 dd os
   have t3:=λdd os=>cell_regrown d1 dd os
   refine wp_region_quiet_below (by kernel_rfl) (by kernel_rfl) ?_;repeat (first|go_big_quiet_step (first|(with_reducible exact G.1 _ _))|quiet_step (first|(with_reducible exact G.1 _ _)))
   refine wpQuiet_nil ?_;intro _ E;obtain⟨⟨dq,m⟩,n⟩:=E;subst n;have x:=I (ztS H.1 (below_regrown wr dq m));clear r0 r1 r2 s0 s1 s2 s3 s4 s5 s6 s7 s8 s9 A B C D t0 t1 t2 t3 P Q R xl S T U V W X Y Z y8 y9 d f g l yl g0 g1 gl G DS H d0 d1 v;generalize grow (redrawn wr dq) m=w2 at*;cases K:zuk t c (dAt L q) (dAt L (q+1))
   . have N:=I (show zuO t c s L=14 by
      have h:pfE t c L (q+1)=14:=if_neg (by rw[Nat.add_sub_cancel,K];decide);rw[b2.1,hv.1,zbN u (by rw[h];decide),if_pos (by rw[h];decide)])
     clear K hv;go_wp2_with fail;go_ret;exact⟨ze N.1.symm,ztS a.1 x.1⟩
   have c8:=I (hv.1.trans (zcS u (show pfE t c L (q+1)=0 from if_pos (by rw[Nat.add_sub_cancel,K]))));clear K hv;go_wp2_with fail;go_roundw
   case rel=>exact⟨q+1+1,by omega,by omega,by go_num,c8,x⟩
   case measure=>simp[intOf];omega
 obtain rfl:k=L.length:=by omega
 have a5:=I (show zuO t c s L=if zu0 t s L=false then 14 else if b=true then 0 else 14 by rw[b2.1,hv.1,zb9,b8.1];rfl);have H:=I z.1;clear hv z u hk c6 b2 b8;obtain⟨P,Q,R,xl⟩:=zdn (r.1 _ H.1).1;obtain⟨S,T,U,V,W,X,Y,Z,y8,y9,d,f,g,l,yl⟩:=zbZ (r.1 _ H.1).2.1;obtain⟨g0,g1,gl⟩:=zuw (r.1 _ H.1).2.2;obtain⟨a0,k0,d0,dl,ds⟩:=(a3.1.below F (ztS a.1 H.1)) 0 (by omega);obtain⟨a1,k1,d1,el,es⟩:=(a3.1.below F (ztS a.1 H.1)) (L.length-1) (by omega);rw[Nat.add_zero]at d0;have v:=ztU F (ztS a.1 H.1).size;have DS:=I (And.intro ds es);have z0:=HD.1 0 (by omega);have zn:=HD.1 (L.length-1) (by omega);obtain⟨c0,c9,d2,d3⟩:(tAt (dAt L 0) 0).1=(fstN (dAt L 0):Int)/\fstN (dAt L 0)<t.fls.length/\1<=(dAt L 0).length/\(dAt L 0).length<=6:=⟨(zfN z0).1,(zfN z0).2.1,(zcp z0).1,(zcp z0).2.1⟩;obtain⟨c2,d4,d5,d6⟩:(tAt (dAt L (L.length-1)) ((dAt L (L.length-1)).length-1)).1=(lstN (dAt L (L.length-1)):Int)/\lstN (dAt L (L.length-1))<t.fls.length/\1<=(dAt L (L.length-1)).length/\(dAt L (L.length-1)).length<=6:=⟨(zfN zn).2.2.1,(zfN zn).2.2.2,(zcp zn).1,(zcp zn).2.1⟩;have HM:=I (And.intro c0 c2);have G:=I (λdd os=>ztZ (ziT t za zc aa ac fa fc (grow (redrawn wr dd) os) (HF.1.below (ztS a.1 (ztS H.1 (below_regrown wr dd os)))) a4 (dAt L 0) a0 k0 ⟨d2,d3⟩ (DS.1.1.below (below_regrown wr dd os)) (fstN (dAt L 0)) HM.1.1 c9));have C2:=I (λdd os=>ztZ (zlb t za zc aa ac fa fc (grow (redrawn wr dd) os) (HF.1.below (ztS a.1 (ztS H.1 (below_regrown wr dd os)))) a4 (dAt L (L.length-1)) a1 k1 ⟨d5,d6⟩ (DS.1.2.below (below_regrown wr dd os)) (lstN (dAt L (L.length-1))) HM.1.2 d4));have a6:∀w:World,(Instr.field 82 (.agg #[.string (fAt t.fls (fstN (dAt L 0))).num,.string (fAt t.fls (fstN (dAt L 0))).frm,.string (fAt t.fls (fstN (dAt L 0))).to,(fAt t.fls (fstN (dAt L 0))).dep,(fAt t.fls (fstN (dAt L 0))).arr,.string (fAt t.fls (fstN (dAt L 0))).typ,(fAt t.fls (fstN (dAt L 0))).n0,(fAt t.fls (fstN (dAt L 0))).n1,(fAt t.fls (fstN (dAt L 0))).n2]) 1).run prog w=.ok (.string (fAt t.fls (fstN (dAt L 0))).frm) w:=λ_=>by kernel_rfl
 have a7:∀w:World,(Instr.field 82 (.agg #[.string (fAt t.fls (lstN (dAt L (L.length-1)))).num,.string (fAt t.fls (lstN (dAt L (L.length-1)))).frm,.string (fAt t.fls (lstN (dAt L (L.length-1)))).to,(fAt t.fls (lstN (dAt L (L.length-1)))).dep,(fAt t.fls (lstN (dAt L (L.length-1)))).arr,.string (fAt t.fls (lstN (dAt L (L.length-1)))).typ,(fAt t.fls (lstN (dAt L (L.length-1)))).n0,(fAt t.fls (lstN (dAt L (L.length-1)))).n1,(fAt t.fls (lstN (dAt L (L.length-1)))).n2]) 2).run prog w=.ok (.string (fAt t.fls (lstN (dAt L (L.length-1)))).to) w:=λ_=>by kernel_rfl
 have c7:IntKind.i64.wrap ((L.length:Int)-1)=(L.length:Int)-1:=by rw[IntKind.wrap_i64];omega
 have f6:(0:Int)<(L.length:Int):=by omega
 have f7:(L.length:Int)-1<(L.length:Int):=by omega
 have f8:(0:Int)<=(L.length:Int)-1:=by omega
 have f9:((L.length:Int)-1).toNat=L.length-1:=by omega
 have hL:¬ L= []:=by rintro rfl;simp at h1
 have g2:¬ (L.length:Int)<1:=by omega
 clear ds es z0 zn c0 c2;cases K:((fAt t.fls (fstN (dAt L 0))).frm.toList==s.toList)
 . have N:=I (show zuO t c s L=14 by rw[a5.1,if_pos (by simp[zu0,K])]);have d7:((fAt t.fls (fstN (dAt L 0))).frm.toList !=s.toList)=true:=by simpa using K
   go_wp2_with fail;have r0:=λdd os=>cell_regrown P dd os
   have r1:=λdd os=>cell_regrown Q dd os
   have r2:=λdd os=>cell_regrown R dd os
   have s0:=λdd os=>cell_regrown S dd os
   have s1:=λdd os=>cell_regrown T dd os
   have s2:=λdd os=>cell_regrown U dd os
   have s3:=λdd os=>cell_regrown V dd os
   have s4:=λdd os=>cell_regrown W dd os
   have s5:=λdd os=>cell_regrown X dd os
   have s6:=λdd os=>cell_regrown Y dd os
   have s7:=λdd os=>cell_regrown Z dd os
   have s8:=λdd os=>cell_regrown y8 dd os
   have s9:=λdd os=>cell_regrown y9 dd os
   have A:=λdd os=>cell_regrown d dd os
   have B:=λdd os=>cell_regrown f dd os
   have C:=λdd os=>cell_regrown g dd os
   have D:=λdd os=>cell_regrown l dd os
   have t0:=λdd os=>cell_regrown g0 dd os
   have t1:=λdd os=>cell_regrown g1 dd os
   have t2:=λdd os=>cell_regrown d0 dd os
   have t3:=λdd os=>cell_regrown d1 dd os
   refine wp_region_quiet_below (by kernel_rfl) (by kernel_rfl) ?_;repeat (first|go_big_quiet_step (first|(with_reducible exact G.1 _ _)|(with_reducible exact C2.1 _ _))|quiet_step (first|(with_reducible exact G.1 _ _)|(with_reducible exact C2.1 _ _)))
   refine wpQuiet_nil ?_;intro _ E;obtain⟨⟨dq,m⟩,n⟩:=E;subst n;have x:=I (ztS a.1 (ztS H.1 (below_regrown wr dq m)));clear r0 r1 r2 s0 s1 s2 s3 s4 s5 s6 s7 s8 s9 A B C D t0 t1 t2 t3 P Q R xl S T U V W X Y Z y8 y9 d f g l yl g0 g1 gl G C2 a6 a7 d0 d1 v;generalize grow (redrawn wr dq) m=w2 at*;go_wp2_with fail;go_ret;exact⟨ze N.1.symm,x.1⟩
 have d7:((fAt t.fls (fstN (dAt L 0))).frm.toList !=s.toList)=false:=by simpa using K
 cases e1:((fAt t.fls (lstN (dAt L (L.length-1)))).to.toList==s.toList)
 . have N:=I (show zuO t c s L=14 by rw[a5.1,if_pos (by simp[zu0,e1])]);have d8:((fAt t.fls (lstN (dAt L (L.length-1)))).to.toList !=s.toList)=true:=by simpa using e1
   go_wp2_with fail;have r0:=λdd os=>cell_regrown P dd os
   have r1:=λdd os=>cell_regrown Q dd os
   have r2:=λdd os=>cell_regrown R dd os
   have s0:=λdd os=>cell_regrown S dd os
   have s1:=λdd os=>cell_regrown T dd os
   have s2:=λdd os=>cell_regrown U dd os
   have s3:=λdd os=>cell_regrown V dd os
   have s4:=λdd os=>cell_regrown W dd os
   have s5:=λdd os=>cell_regrown X dd os
   have s6:=λdd os=>cell_regrown Y dd os
   have s7:=λdd os=>cell_regrown Z dd os
   have s8:=λdd os=>cell_regrown y8 dd os
   have s9:=λdd os=>cell_regrown y9 dd os
   have A:=λdd os=>cell_regrown d dd os
   have B:=λdd os=>cell_regrown f dd os
   have C:=λdd os=>cell_regrown g dd os
   have D:=λdd os=>cell_regrown l dd os
   have t0:=λdd os=>cell_regrown g0 dd os
   have t1:=λdd os=>cell_regrown g1 dd os
   have t2:=λdd os=>cell_regrown d0 dd os
   have t3:=λdd os=>cell_regrown d1 dd os
   refine wp_region_quiet_below (by kernel_rfl) (by kernel_rfl) ?_;repeat (first|go_big_quiet_step (first|(with_reducible exact G.1 _ _)|(with_reducible exact C2.1 _ _))|quiet_step (first|(with_reducible exact G.1 _ _)|(with_reducible exact C2.1 _ _)))
   refine wpQuiet_nil ?_;intro _ E;obtain⟨⟨dq,m⟩,n⟩:=E;subst n;have x:=I (ztS a.1 (ztS H.1 (below_regrown wr dq m)));clear r0 r1 r2 s0 s1 s2 s3 s4 s5 s6 s7 s8 s9 A B C D t0 t1 t2 t3 P Q R xl S T U V W X Y Z y8 y9 d f g l yl g0 g1 gl G C2 a6 a7 d0 d1 v;generalize grow (redrawn wr dq) m=w2 at*;go_wp2_with fail;go_ret;exact⟨ze N.1.symm,x.1⟩
 have d8:((fAt t.fls (lstN (dAt L (L.length-1)))).to.toList !=s.toList)=false:=by simpa using e1
 cases b
 . have N:=I (show zuO t c s L=14 by rw[a5.1,if_neg (by simp[zu0,K,e1])];rfl);go_wp2_with fail;have r0:=λdd os=>cell_regrown P dd os
   have r1:=λdd os=>cell_regrown Q dd os
   have r2:=λdd os=>cell_regrown R dd os
   have s0:=λdd os=>cell_regrown S dd os
   have s1:=λdd os=>cell_regrown T dd os
   have s2:=λdd os=>cell_regrown U dd os
   have s3:=λdd os=>cell_regrown V dd os
   have s4:=λdd os=>cell_regrown W dd os
   have s5:=λdd os=>cell_regrown X dd os
   have s6:=λdd os=>cell_regrown Y dd os
   have s7:=λdd os=>cell_regrown Z dd os
   have s8:=λdd os=>cell_regrown y8 dd os
   have s9:=λdd os=>cell_regrown y9 dd os
   have A:=λdd os=>cell_regrown d dd os
   have B:=λdd os=>cell_regrown f dd os
   have C:=λdd os=>cell_regrown g dd os
   have D:=λdd os=>cell_regrown l dd os
   have t0:=λdd os=>cell_regrown g0 dd os
   have t1:=λdd os=>cell_regrown g1 dd os
   have t2:=λdd os=>cell_regrown d0 dd os
   have t3:=λdd os=>cell_regrown d1 dd os
   refine wp_region_quiet_below (by kernel_rfl) (by kernel_rfl) ?_;repeat (first|go_big_quiet_step (first|(with_reducible exact G.1 _ _)|(with_reducible exact C2.1 _ _))|quiet_step (first|(with_reducible exact G.1 _ _)|(with_reducible exact C2.1 _ _)))
   refine wpQuiet_nil ?_;intro _ E;obtain⟨⟨dq,m⟩,n⟩:=E;subst n;have x:=I (ztS a.1 (ztS H.1 (below_regrown wr dq m)));clear r0 r1 r2 s0 s1 s2 s3 s4 s5 s6 s7 s8 s9 A B C D t0 t1 t2 t3 P Q R xl S T U V W X Y Z y8 y9 d f g l yl g0 g1 gl G C2 a6 a7 d0 d1 v;generalize grow (redrawn wr dq) m=w2 at*;go_wp2_with fail;go_ret;exact⟨ze N.1.symm,x.1⟩
 have N:=I (show zuO t c s L=0 by rw[a5.1,if_neg (by simp[zu0,K,e1])];rfl);go_wp2_with fail;have r0:=λdd os=>cell_regrown P dd os
 have r1:=λdd os=>cell_regrown Q dd os
 have r2:=λdd os=>cell_regrown R dd os
 have s0:=λdd os=>cell_regrown S dd os
 have s1:=λdd os=>cell_regrown T dd os
 have s2:=λdd os=>cell_regrown U dd os
 have s3:=λdd os=>cell_regrown V dd os
 have s4:=λdd os=>cell_regrown W dd os
 have s5:=λdd os=>cell_regrown X dd os
 have s6:=λdd os=>cell_regrown Y dd os
 have s7:=λdd os=>cell_regrown Z dd os
 have s8:=λdd os=>cell_regrown y8 dd os
 have s9:=λdd os=>cell_regrown y9 dd os
 have A:=λdd os=>cell_regrown d dd os
 have B:=λdd os=>cell_regrown f dd os
 have C:=λdd os=>cell_regrown g dd os
 have D:=λdd os=>cell_regrown l dd os
 have t0:=λdd os=>cell_regrown g0 dd os
 have t1:=λdd os=>cell_regrown g1 dd os
 have t2:=λdd os=>cell_regrown d0 dd os
 have t3:=λdd os=>cell_regrown d1 dd os
 refine wp_region_quiet_below (by kernel_rfl) (by kernel_rfl) ?_;repeat (first|go_big_quiet_step (first|(with_reducible exact G.1 _ _)|(with_reducible exact C2.1 _ _))|quiet_step (first|(with_reducible exact G.1 _ _)|(with_reducible exact C2.1 _ _)))
 refine wpQuiet_nil ?_;intro _ E;obtain⟨⟨dq,m⟩,n⟩:=E;subst n;have x:=I (ztS a.1 (ztS H.1 (below_regrown wr dq m)));clear r0 r1 r2 s0 s1 s2 s3 s4 s5 s6 s7 s8 s9 A B C D t0 t1 t2 t3 P Q R xl S T U V W X Y Z y8 y9 d f g l yl g0 g1 gl G C2 a6 a7 d0 d1 v;generalize grow (redrawn wr dq) m=w2 at*;go_wp2_with fail;go_ret;exact⟨ze N.1.symm,x.1⟩
theorem zuW(t:TTM)(c:ConM)(l:zua)(g:Nat)(m:zua)(h:Nat)(fa:zua)(fc:Nat)(p:ConP)(w:World)(o:(t.zones.length<=g/\g<=140737488355328/\t.airs.length<=h/\h<=140737488355328))(A:c.consts.length<=p.cc/\p.cc<=140737488355328)(q:TCAt w t c l m fa p)(s:ByteArray)(L:List Duty)(r:zua)(cap:Nat)(B:L.length<=140737488355328)(M:SlAt dutyRT w r L):
 Calls prog 12 #[aggT t l g m h fa fc,aggC c p,.agg #[.string s,.slice r L.length cap]] w λe w'=>e=.returned (tcE t c (zuO t c s L))/\Bw w w':=by
 try delta aggC aggT
 have N:=I q;have V:=I M;clear q M;go_enter func12,ntmps12
 go_wp2_with fail;obtain⟨P,Q,C,D⟩:=zvm w t c l g m h fa fc p (oP s r L.length cap);have i:=I P;obtain⟨R,j⟩:∃R,R=w.heap.size+1:=⟨_,rfl⟩;obtain⟨S,k⟩:∃S,S=w.heap.size+1+1:=⟨_,rfl⟩;rw[<-k]at D;rw[<-j]at C;simp only[<-k];simp only[<-j];clear j k P;generalize ((w.alloc (objT t l g m h fa fc)).alloc (objC c p)).alloc (oP s r L.length cap)=T at*;have y:=I (And.intro Q (And.intro C D));clear Q C D;have u:=I (N.1.below i.1);refine ca (zlD t c l g m h fa fc p T T.heap.size (ztY _) o A u.1.z u.1.a u.1.f u.1.c) λW b=>?_;have d:=I (ztS i.1 b);have E:=I (And.intro (blkA b y.1.1) (And.intro (blkA b y.1.2.1) (blkA b y.1.2.2)));clear b i y u;by_cases n:tcV t c=0
 . obtain⟨F,G⟩:=zrk n;have H:=I (tcE_d (e:=zuO t c s L) F G);have v:=I (And.intro F G);obtain⟨x0,x1,x2,xl⟩:=zdn E.1.1;obtain⟨y0,y1,y2,y3,y4,y5,y6,y7,y8,y9,X,Y,Z,a0,yl⟩:=zbZ E.1.2.1;obtain⟨g0,g1,gl⟩:=zuw E.1.2.2;clear F G;rw[n];clear n;go_wp2_with fail;have U:=N.1.below d.1;refine ca (zvH t c l g m h fa fc p W v.1.1 v.1.2 U.a U.f s L r cap B (V.1.below d.1)) λw2 x=>?_;have K:=I (ztS d.1 x);clear x;go_wp2_with fail;go_ret;exact⟨ze H.1.symm,K.1⟩
 have H:=I (zuG (e:=zuO t c s L) n);have e1:(tcV t c !=0)=true:=by simpa using n
 clear n;go_wp2_with fail;go_ret;exact⟨ze H.1.symm,d.1⟩
theorem zvl{t:TTM}{c:ConM}{s:ByteArray}{L:List Duty}(h:zuO t c s L=0):zul t s=true/\1<=L.length/\L.length<=6/\∀k,k<L.length->za6 t c (dAt L k)=0:=by
 unfold zuO at h
 by_cases a:zul t s=false
 . rw[if_pos a]at h;omega
 rw[if_neg a]at h;by_cases d:L.length<1\/6<L.length
 . rw[if_pos d]at h;omega
 rw[if_neg d]at h;by_cases b:fstE (pdE t c L) 0 (L.length-0)≠0
 . rw[if_pos b]at h;exact absurd h b
 have e:=zcN _ _ (Classical.not_not.1 b);exact⟨by simpa using a,by omega,by omega,λk hk=>e k (by omega) (by omega)⟩
def pErr(t:TTM)(c:ConM)(s:ByteArray)(L:List Duty):Int:=tcE t c (zuO t c s L)
theorem zvT{t:TTM}{c:ConM}{s:ByteArray}{L:List Duty}(h:pErr t c s L=0):zY t=0/\valT c=0/\zuO t c s L=0:=by
 unfold pErr tcE at h
 by_cases a:zY t=0
 . by_cases b:valT c=0
   . rw[if_neg (by simpa using a),if_neg (by simpa using b)]at h;exact⟨a,b,h⟩
   rw[if_neg (by simpa using a),if_pos b]at h;exact absurd h b
 rw[if_pos a]at h;exact absurd h a
end Go.Proofs.YtbhhejkolnigfaaGreat
