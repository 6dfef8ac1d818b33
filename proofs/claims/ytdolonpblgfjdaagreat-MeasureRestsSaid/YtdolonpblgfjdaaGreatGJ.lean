/- a part of the proof -/
import Derived.Test.YtdolonpblgfjdaaGreatGI
import Derived.Test.YtdolonpblgfjdaaGreatGC
import Derived.Test.YtdolonpblgfjdaaGreatGD
set_option linter.unusedVariables false
set_option linter.unusedSimpArgs false
set_option maxRecDepth 100000
set_option maxHeartbeats 12800000
namespace Go.Proofs.YtdolonpblgfjdaaGreat
open Go.RowKit Go.Sort Go.Proofs.Tryz
theorem zqK{l:List zB}{n i:Nat}(h:i<n):csAt (l.take n) i=csAt l i:=by
 unfold csAt;rw[zt0,zt0,List.getElem?_take,if_pos h]
theorem zhC(l:List zB)(n m:Nat)(b:m≤n)(h:∀j,j<m→ctyp (l.take n) j=ctyp l j):lkC (l.take n) m=lkC l m:=by
 funext s
 unfold lkC
 rw[zhK];cases fi l s with
 |none=>rfl
 |some j=>
  by_cases g:j<m
  · have a:j<n:=by omega
    simp[g,a,h j g]
  by_cases a:j<n
  · simp[g,a]
  simp[g,a]
theorem zqJ(l:List zB)(n i:Nat)(a:i<n):ctyp (l.take n) i=ctyp l i:=by
 induction i using Nat.strongRecOn with
 |_ i ih=>
  rw[zge,zge,zqK a,zhC l n i (by omega) (fun j hj=>ih j hj (by omega))]
theorem zkI(l:List zB)(n:Nat)(a:Int)(x:zH):typX (l.take n) n a x=typX l n a x:=by
 unfold typX
 rw[zhC l n n (ztY _) (fun j hj=>zqJ l n j hj)]
theorem zkJ(l:List zB)(i:Nat):typX l i 0 (csAt l i).ex=ctyp l i:=by rw[zge];rfl
theorem zgl:∀(l:List zcx) (acc:List (Int×ByteArray)),zbW acc l=0→∀k,k<l.length→1≤(rlAt l k).scope∧(rlAt l k).scope≤3
 |[],_,_,k,hk=>by simp at hk
 |x::l,acc,h,k,hk=>by
  rw[zbW]at h;by_cases a:(btwB x.scope 1 3&&zZ x.name)=false
  · rw[if_pos a]at h;omega
  rw[if_neg a]at h;by_cases c:hasR acc x.scope x.name=true
  · rw[if_pos c]at h;omega
  rw[if_neg c]at h;by_cases b:valE x.ex≠0
  · rw[if_pos b]at h;exact absurd h b
  rw[if_neg b]at h;cases k with
  |zero=>
   have:btwB x.scope 1 3=true:=by
    cases d:btwB x.scope 1 3
    · rw[d]at a;exact absurd rfl a
    rfl
   exact zbz.1 this
  |succ k=>exact zgl l _ h k (by simpa using hk)
theorem zgm:∀(l:List zdw),zcv l=0→∀k,k<l.length→1≤(coAt l k).scope∧(coAt l k).scope≤3
 |[],_,k,hk=>by simp at hk
 |x::l,h,k,hk=>by
  rw[zcv]at h;by_cases a:btwB x.scope 1 3=false
  · rw[if_pos a]at h;omega
  rw[if_neg a]at h;by_cases b:valE x.ex≠0
  · rw[if_pos b]at h;exact absurd h b
  rw[if_neg b]at h;cases k with
  |zero=>
   have:btwB x.scope 1 3=true:=by
    cases c:btwB x.scope 1 3
    · exact absurd c a
    rfl
   exact zbz.1 this
  |succ k=>exact zgm l h k (by simpa using hk)
theorem zri{c:ConM}(h:valG c=0):zdP c=true∧zbW [] c.rules=0∧zcv c.costs=0:=by
 unfold valG at h
 by_cases f:zcy c=false
 · rw[if_pos f]at h;omega
 rw[if_neg f]at h;by_cases b:zdP c=false
 · rw[if_pos b]at h;omega
 rw[if_neg b]at h;by_cases d:zcw [] c.consts≠0
 · rw[if_pos d]at h;exact absurd h d
 rw[if_neg d]at h;by_cases a:zbW [] c.rules≠0
 · rw[if_pos a]at h;exact absurd h a
 rw[if_neg a]at h;by_cases e:zcv c.costs≠0
 · rw[if_pos e]at h;exact absurd h e
 refine⟨?_,Classical.not_not.1 a,Classical.not_not.1 e⟩;cases g:zdP c
 · exact absurd g b
 rfl
theorem zlE(c:ConM)(p:ConP)(w:World)(B:Nat)(M:B≤w.heap.size)(R:c.consts.length≤p.cc∧p.cc≤140737488355328)(ha:zdr B w c p):
 Calls prog 106 #[.agg #[.int .i64 c.report,.int .i64 c.release,.int .i64 c.connect,.int .i64 c.sit,.int .i64 c.layover,.int .i64 c.nf,.int .i64 c.nt,.slice p.ca c.consts.length p.cc,.slice p.ra c.rules.length p.rc,.slice p.ka c.costs.length p.kc,.slice p.xa c.credit.length p.xc,.slice p.la c.lims.length p.lc,.slice p.oa c.offs.length p.oc,.int .i64 c.guar]] w fun e w'=>e=.returned (.int .i64 (valT c))∧Below w.heap.size w w':=by
 have d1:=ha.rules.1;have d2:=ha.costs.1;have d3:=ha.creditN;have d4:=I ha.creditF;have HA:=I ha;clear ha;go_enter func106,ntmps106
 go_wp2_with fail;have HX:=I (zh w (objC c p));have HB:=I (J w (objC c p));generalize w.alloc (objC c p)=W at*;refine(zg7 c p W B (ztV M HB.1.size) (HA.1.keep (HB.1.mono M))).mono ?_;rintro e w1 ⟨rfl,a7⟩;have a8:=I (ztS HB.1 a7);have a3:=I (blkA a7 HX.1);clear a7 HB HX;by_cases eG:valG c=0
 case neg=>
  have P:=I (show valT c=valG c from if_pos eG);have n:(valG c !=0)=true:=by simpa using eG
  clear eG;go_wp2_with fail;go_ret;exact⟨ze P.1.symm,a8.1⟩
 obtain⟨b3,b4,b5⟩:=zri eG;have a9:c.consts.length≤1000:=by simp[zdP]at b3;omega
 have c6:=I (fun k (hk:k<c.rules.length)=>zgl c.rules [] b4 k hk);have c7:=I (fun k (hk:k<c.costs.length)=>zgm c.costs b5 k hk);have Hv:=I (show valT c=if fstE (cErr c.consts) 0 (c.consts.length-0)≠0 then fstE (cErr c.consts) 0 (c.consts.length-0) else if fstE (rErr c) 0 (c.rules.length-0)≠0 then fstE (rErr c) 0 (c.rules.length-0) else if fstE (kErr c) 0 (c.costs.length-0)≠0 then fstE (kErr c) 0 (c.costs.length-0) else fstE (xErr c) 0 (c.credit.length-0) from if_neg (by simpa using eG));clear b3 b4 b5;rw[eG];clear eG;have H:=zaK a3.1;have N:=ztW a3.1;go_wp2_with fail;clear H N;go_loopw [4] (fun i wr=>∃(k:Nat),k≤c.consts.length∧i=.int .i64 k∧ztR (fstE (cErr c.consts) 0 (c.consts.length-0)=fstE (cErr c.consts) k (c.consts.length-k))∧ztR (wr.heap[w.heap.size]?=some (objC c p))∧ztR (Below w.heap.size w wr)) (fun i _=>c.consts.length-(intOf i).toNat)
 case atStart=>exact⟨0,ztX _,rfl,I rfl,a3,a8⟩
 clear a3 a8;obtain⟨k,hk,rfl,E,r,a⟩:=hrel;have H:=zaK r.1;have N:=ztW r.1;by_cases f:k<c.consts.length
 · obtain⟨b,a4,j,hb,s⟩:=(HA.1.keep (a.1.mono M)).consts.cells (by omega);obtain⟨c0,c8,a2,t,⟨S,T,U,V⟩,h,d⟩:=s k f;have o:b<wr.heap.size:=by have:=a.1.size;omega
   rw[j]at H;have c9:=I j;have HF:=I h;have b6:=I d;clear j s d h;go_wp2_with fail;refine(zoo _ wr c8).mono ?_;rintro e w2 ⟨rfl,q⟩;have a5:=I (ztS a.1 q);have b7:=I (blkA q r.1);have u:B≤wr.heap.size:=ztV M a.1.size;have a6:=I (b6.1.keep (q.mono u));have y7:=zj H N q;have yl:w.heap.size<w2.heap.size:=ztU N q.size;have z1:=zj S o q;have z2:=zj T o q;have z3:=zj U o q;have z4:=zj V o q;have zb:b<w2.heap.size:=ztU o q.size;have b8:B≤w2.heap.size:=ztV u q.size;clear q c0 S T U V H N a r b6 o;cases eK:zen (csAt c.consts k).name
   · have G:=I (show cErr c.consts k=(ctyp c.consts k).2 by rw[cErr,eK];rfl);have b0:(c.consts.take k).length=k:=by rw[List.length_take];omega
     have F:=I (fun dd os=>ztZ (zfd (c.consts.take k) (some ⟨b,a4,none⟩) p.cc B 0 (by decide) (csAt c.consts k).ex a2 t (grow (redrawn w2 dd) os) (ztV b8 (below_regrown w2 dd os).size) (by rw[b0];omega) (by rw[b0];omega) (zc4 (c9.1 ▸ (HA.1.keep ((ztS a5.1 (below_regrown w2 dd os)).mono M)).consts) k) HF.1 (a6.1.keep ((below_regrown w2 dd os).mono b8))));rw[b0,zkI,zkJ]at F;go_wp2_with fail;have r0:=fun dd os=>cell_regrown y7 dd os
     have r1:=fun dd os=>cell_regrown z1 dd os
     have r2:=fun dd os=>cell_regrown z2 dd os
     have r3:=fun dd os=>cell_regrown z3 dd os
     have r4:=fun dd os=>cell_regrown z4 dd os
     refine wp_region_quiet_below (by kernel_rfl) (by kernel_rfl) ?_;repeat (first|go_big_quiet_step (first|(with_reducible exact F.1 _ _))|quiet_step (first|(with_reducible exact F.1 _ _)))
     refine wpQuiet_nil ?_;intro _ K;obtain⟨⟨L,l⟩,v⟩:=K;subst v;have m:=I (ztS a5.1 (below_regrown w2 L l));have x:=I (blkA (below_regrown w2 L l) b7.1);clear r0 r1 r2 r3 r4 F y7 yl z1 z2 z3 z4 zb a5 b7 a6;generalize grow (redrawn w2 L) l=W3 at*;by_cases n:(ctyp c.consts k).2=0
     · have g:=I (E.1.trans (zcS f (G.1.trans n)));rw[n];go_wp2_with fail;go_roundw
       case rel=>first|exact⟨k+1,by omega,by go_num,g,x,m⟩|((repeat apply Exists.intro);exact⟨⟨k+1,by omega,by go_num,g,x,m⟩,rfl⟩)
       case measure=>simp[intOf];omega
     have g:=I (E.1.trans (zbN f (by rw[G.1];exact n)));have P:=I (show valT c=(ctyp c.consts k).2 by rw[Hv.1,g.1,G.1,if_pos n]);have e2:((ctyp c.consts k).2 !=0)=true:=by simpa using n
     clear n;go_wp2_with fail;go_ret;exact⟨ze P.1.symm,m.1⟩
   have G:=I (show cErr c.consts k=7 by rw[cErr,eK];rfl);have g:=I (E.1.trans (zbN f (by rw[G.1];decide)));have P:=I (show valT c=7 by rw[Hv.1,g.1,G.1];rfl);go_wp2_with fail;go_ret;exact⟨ze P.1.symm,a5.1⟩
 obtain rfl:k=c.consts.length:=by omega
 have z:=I (E.1.trans (zb9 _ _));have b1:=I (Hv.1.trans (if_neg (by rw[z.1];simp)));clear Hv E hk f z;have Q:=zaX r.1;go_wp2_with fail;clear H Q N;go_loopw [7] (fun i wr=>∃(k:Nat),k≤c.rules.length∧i=.int .i64 k∧ztR (fstE (rErr c) 0 (c.rules.length-0)=fstE (rErr c) k (c.rules.length-k))∧ztR (wr.heap[w.heap.size]?=some (objC c p))∧ztR (Below w.heap.size w wr)) (fun i _=>c.rules.length-(intOf i).toNat)
 case atStart=>exact⟨0,ztX _,rfl,I rfl,r,a⟩
 clear r a;obtain⟨k,hk,rfl,E,r,a⟩:=hrel;obtain⟨x0,x1,x2,x3,x4,x5,x6,H,Q,X,y,A,C,D,N⟩:=zbZ r.1;by_cases f:k<c.rules.length
 · obtain⟨b,a4,j,hb,s⟩:=(HA.1.keep (a.1.mono M)).rules.cells (by omega);obtain⟨c0,S,_,_,a2,t,⟨T,U,V,c5⟩,h,d⟩:=s k f;have d0:=c6.1 k f;have o:b<wr.heap.size:=by have:=a.1.size;omega
   have u:B≤wr.heap.size:=ztV M a.1.size;have F:=I (fun dd os=>ztZ (zfl c p B (rlAt c.rules k).scope ⟨by omega,by omega⟩ (rlAt c.rules k).ex a2 t 4 (grow (redrawn wr dd) os) (ztV u (below_regrown wr dd os).size) R a9 (HA.1.keep ((ztS a.1 (below_regrown wr dd os)).mono M)) h (d.keep ((below_regrown wr dd os).mono u))));rw[j]at Q;simp only[j]at F;clear s d h j;go_wp2_with fail;have r0:=fun dd os=>cell_regrown x0 dd os
   have r1:=fun dd os=>cell_regrown x1 dd os
   have r2:=fun dd os=>cell_regrown x2 dd os
   have r3:=fun dd os=>cell_regrown x3 dd os
   have r4:=fun dd os=>cell_regrown x4 dd os
   have r5:=fun dd os=>cell_regrown x5 dd os
   have r6:=fun dd os=>cell_regrown x6 dd os
   have r7:=fun dd os=>cell_regrown H dd os
   have r8:=fun dd os=>cell_regrown Q dd os
   have r9:=fun dd os=>cell_regrown X dd os
   have Y:=fun dd os=>cell_regrown y dd os
   have Z:=fun dd os=>cell_regrown A dd os
   have a0:=fun dd os=>cell_regrown C dd os
   have a1:=fun dd os=>cell_regrown D dd os
   have s0:=fun dd os=>cell_regrown c0 dd os
   have s1:=fun dd os=>cell_regrown S dd os
   have s2:=fun dd os=>cell_regrown T dd os
   have s3:=fun dd os=>cell_regrown U dd os
   have s4:=fun dd os=>cell_regrown V dd os
   have s5:=fun dd os=>cell_regrown c5 dd os
   refine wp_region_quiet_below (by kernel_rfl) (by kernel_rfl) ?_;repeat (first|go_big_quiet_step (first|(with_reducible exact F.1 _ _))|quiet_step (first|(with_reducible exact F.1 _ _)))
   refine wpQuiet_nil ?_;intro _ K;obtain⟨⟨L,l⟩,v⟩:=K;subst v;have m:=I (ztS a.1 (below_regrown wr L l));have x:=I (blkA (below_regrown wr L l) r.1);clear r0 r1 r2 r3 r4 r5 r6 r7 r8 r9 Y Z a0 a1 s0 s1 s2 s3 s4 s5 x0 x1 x2 x3 x4 x5 x6 H Q X y A C D N c0 S T U V c5 F r a o;generalize grow (redrawn wr L) l=W3 at*;have G:=I (show rErr c k=(expE (typX c.consts c.consts.length (rlAt c.rules k).scope (rlAt c.rules k).ex) 4) from rfl);by_cases n:(expE (typX c.consts c.consts.length (rlAt c.rules k).scope (rlAt c.rules k).ex) 4)=0
   · have g:=I (E.1.trans (zcS f (G.1.trans n)));rw[n];go_wp2_with fail;go_roundw
     case rel=>first|exact⟨k+1,by omega,by go_num,g,x,m⟩|((repeat apply Exists.intro);exact⟨⟨k+1,by omega,by go_num,g,x,m⟩,rfl⟩)
     case measure=>simp[intOf];omega
   have g:=I (E.1.trans (zbN f (by rw[G.1];exact n)));have P:=I (show valT c=(expE (typX c.consts c.consts.length (rlAt c.rules k).scope (rlAt c.rules k).ex) 4) by rw[b1.1,g.1,G.1,if_pos n]);have e2:((expE (typX c.consts c.consts.length (rlAt c.rules k).scope (rlAt c.rules k).ex) 4) !=0)=true:=by simpa using n
   clear n;go_wp2_with fail;go_ret;exact⟨ze P.1.symm,m.1⟩
 obtain rfl:k=c.rules.length:=by omega
 have z:=I (E.1.trans (zb9 _ _));have b2:=I (b1.1.trans (if_neg (by rw[z.1];simp)));clear b1 E hk f z;go_wp2_with fail;clear x0 x1 x2 x3 x4 x5 x6 H Q X y A C D N;go_loopw [9] (fun i wr=>∃(k:Nat),k≤c.costs.length∧i=.int .i64 k∧ztR (fstE (kErr c) 0 (c.costs.length-0)=fstE (kErr c) k (c.costs.length-k))∧ztR (wr.heap[w.heap.size]?=some (objC c p))∧ztR (Below w.heap.size w wr)) (fun i _=>c.costs.length-(intOf i).toNat)
 case atStart=>exact⟨0,ztX _,rfl,I rfl,r,a⟩
 clear r a;obtain⟨k,hk,rfl,E,r,a⟩:=hrel;obtain⟨x0,x1,x2,x3,x4,x5,x6,H,Q,X,y,A,C,D,N⟩:=zbZ r.1;by_cases f:k<c.costs.length
 · obtain⟨b,a4,j,hb,s⟩:=(HA.1.keep (a.1.mono M)).costs.cells (by omega);obtain⟨c0,_,a2,t,⟨S,T,U,V⟩,h,d⟩:=s k f;have d0:=c7.1 k f;have o:b<wr.heap.size:=by have:=a.1.size;omega
   have u:B≤wr.heap.size:=ztV M a.1.size;have F:=I (fun dd os=>ztZ (zfl c p B (coAt c.costs k).scope ⟨by omega,by omega⟩ (coAt c.costs k).ex a2 t 1 (grow (redrawn wr dd) os) (ztV u (below_regrown wr dd os).size) R a9 (HA.1.keep ((ztS a.1 (below_regrown wr dd os)).mono M)) h (d.keep ((below_regrown wr dd os).mono u))));rw[j]at X;simp only[j]at F;clear s d h j;go_wp2_with fail;have r0:=fun dd os=>cell_regrown x0 dd os
   have r1:=fun dd os=>cell_regrown x1 dd os
   have r2:=fun dd os=>cell_regrown x2 dd os
   have r3:=fun dd os=>cell_regrown x3 dd os
   have r4:=fun dd os=>cell_regrown x4 dd os
   have r5:=fun dd os=>cell_regrown x5 dd os
   have r6:=fun dd os=>cell_regrown x6 dd os
   have r7:=fun dd os=>cell_regrown H dd os
   have r8:=fun dd os=>cell_regrown Q dd os
   have r9:=fun dd os=>cell_regrown X dd os
   have Y:=fun dd os=>cell_regrown y dd os
   have Z:=fun dd os=>cell_regrown A dd os
   have a0:=fun dd os=>cell_regrown C dd os
   have a1:=fun dd os=>cell_regrown D dd os
   have s0:=fun dd os=>cell_regrown c0 dd os
   have s1:=fun dd os=>cell_regrown S dd os
   have s2:=fun dd os=>cell_regrown T dd os
   have s3:=fun dd os=>cell_regrown U dd os
   have s4:=fun dd os=>cell_regrown V dd os
   refine wp_region_quiet_below (by kernel_rfl) (by kernel_rfl) ?_;repeat (first|go_big_quiet_step (first|(with_reducible exact F.1 _ _))|quiet_step (first|(with_reducible exact F.1 _ _)))
   refine wpQuiet_nil ?_;intro _ K;obtain⟨⟨L,l⟩,v⟩:=K;subst v;have m:=I (ztS a.1 (below_regrown wr L l));have x:=I (blkA (below_regrown wr L l) r.1);clear r0 r1 r2 r3 r4 r5 r6 r7 r8 r9 Y Z a0 a1 s0 s1 s2 s3 s4 x0 x1 x2 x3 x4 x5 x6 H Q X y A C D N c0 S T U V F r a o;generalize grow (redrawn wr L) l=W3 at*;have G:=I (show kErr c k=(expE (typX c.consts c.consts.length (coAt c.costs k).scope (coAt c.costs k).ex) 1) from rfl);by_cases n:(expE (typX c.consts c.consts.length (coAt c.costs k).scope (coAt c.costs k).ex) 1)=0
   · have g:=I (E.1.trans (zcS f (G.1.trans n)));rw[n];go_wp2_with fail;go_roundw
     case rel=>first|exact⟨k+1,by omega,by go_num,g,x,m⟩|((repeat apply Exists.intro);exact⟨⟨k+1,by omega,by go_num,g,x,m⟩,rfl⟩)
     case measure=>simp[intOf];omega
   have g:=I (E.1.trans (zbN f (by rw[G.1];exact n)));have P:=I (show valT c=(expE (typX c.consts c.consts.length (coAt c.costs k).scope (coAt c.costs k).ex) 1) by rw[b2.1,g.1,G.1,if_pos n]);have e2:((expE (typX c.consts c.consts.length (coAt c.costs k).scope (coAt c.costs k).ex) 1) !=0)=true:=by simpa using n
   clear n;go_wp2_with fail;go_ret;exact⟨ze P.1.symm,m.1⟩
 obtain rfl:k=c.costs.length:=by omega
 have z:=I (E.1.trans (zb9 _ _));have b9:=I (b2.1.trans (if_neg (by rw[z.1];simp)));clear b2 E hk f z;go_wp2_with fail;clear x0 x1 x2 x3 x4 x5 x6 H Q X y A C D N;go_loopw [11] (fun i wr=>∃(k:Nat),k≤c.credit.length∧i=.int .i64 k∧ztR (fstE (xErr c) 0 (c.credit.length-0)=fstE (xErr c) k (c.credit.length-k))∧ztR (wr.heap[w.heap.size]?=some (objC c p))∧ztR (Below w.heap.size w wr)) (fun i _=>c.credit.length-(intOf i).toNat)
 case atStart=>exact⟨0,ztX _,rfl,I rfl,r,a⟩
 clear r a;obtain⟨k,hk,rfl,E,r,a⟩:=hrel;obtain⟨x0,x1,x2,x3,x4,x5,x6,H,Q,X,y,A,C,D,N⟩:=zbZ r.1;by_cases f:k<c.credit.length
 · obtain⟨b,a4,j,hb,s⟩:=(HA.1.keep (a.1.mono M)).credit.cells (by omega);obtain⟨a2,t,_,⟨S,T,U,V⟩,h,d⟩:=s.at k f;have o:b<wr.heap.size:=by have:=a.1.size;omega
   have u:B≤wr.heap.size:=ztV M a.1.size;have F:=I (fun dd os=>ztZ (zfl c p B 1 (by decide) (eAt c.credit k) a2 t 2 (grow (redrawn wr dd) os) (ztV u (below_regrown wr dd os).size) R a9 (HA.1.keep ((ztS a.1 (below_regrown wr dd os)).mono M)) h (d.keep ((below_regrown wr dd os).mono u))));rw[j]at y;simp only[j]at F;clear s d h j;go_wp2_with fail;have r0:=fun dd os=>cell_regrown x0 dd os
   have r1:=fun dd os=>cell_regrown x1 dd os
   have r2:=fun dd os=>cell_regrown x2 dd os
   have r3:=fun dd os=>cell_regrown x3 dd os
   have r4:=fun dd os=>cell_regrown x4 dd os
   have r5:=fun dd os=>cell_regrown x5 dd os
   have r6:=fun dd os=>cell_regrown x6 dd os
   have r7:=fun dd os=>cell_regrown H dd os
   have r8:=fun dd os=>cell_regrown Q dd os
   have r9:=fun dd os=>cell_regrown X dd os
   have Y:=fun dd os=>cell_regrown y dd os
   have Z:=fun dd os=>cell_regrown A dd os
   have a0:=fun dd os=>cell_regrown C dd os
   have a1:=fun dd os=>cell_regrown D dd os
   have s0:=fun dd os=>cell_regrown S dd os
   have s1:=fun dd os=>cell_regrown T dd os
   have s2:=fun dd os=>cell_regrown U dd os
   have s3:=fun dd os=>cell_regrown V dd os
   refine wp_region_quiet_below (by kernel_rfl) (by kernel_rfl) ?_;repeat (first|go_big_quiet_step (first|(with_reducible exact F.1 _ _))|quiet_step (first|(with_reducible exact F.1 _ _)))
   refine wpQuiet_nil ?_;intro _ K;obtain⟨⟨L,l⟩,v⟩:=K;subst v;have m:=I (ztS a.1 (below_regrown wr L l));have x:=I (blkA (below_regrown wr L l) r.1);clear r0 r1 r2 r3 r4 r5 r6 r7 r8 r9 Y Z a0 a1 s0 s1 s2 s3 x0 x1 x2 x3 x4 x5 x6 H Q X y A C D N S T U V F r a o;generalize grow (redrawn wr L) l=W3 at*;have G:=I (show xErr c k=(expE (typX c.consts c.consts.length 1 (eAt c.credit k)) 2) from rfl);by_cases n:(expE (typX c.consts c.consts.length 1 (eAt c.credit k)) 2)=0
   · have g:=I (E.1.trans (zcS f (G.1.trans n)));rw[n];go_wp2_with fail;go_roundw
     case rel=>first|exact⟨k+1,by omega,by go_num,g,x,m⟩|((repeat apply Exists.intro);exact⟨⟨k+1,by omega,by go_num,g,x,m⟩,rfl⟩)
     case measure=>simp[intOf];omega
   have g:=I (E.1.trans (zbN f (by rw[G.1];exact n)));have P:=I (show valT c=(expE (typX c.consts c.consts.length 1 (eAt c.credit k)) 2) by rw[b9.1,g.1,G.1]);have e2:((expE (typX c.consts c.consts.length 1 (eAt c.credit k)) 2) !=0)=true:=by simpa using n
   clear n;go_wp2_with fail;go_ret;exact⟨ze P.1.symm,m.1⟩
 obtain rfl:k=c.credit.length:=by omega
 have z:=I (E.1.trans (zb9 _ _));have P:=I (b9.1.trans z.1);go_wp2_with fail;go_ret;exact⟨ze P.1.symm,a.1⟩
def tcV(t:TTM)(c:ConM):Int:=if zY t≠0 then zY t else valT c
theorem zlD(t:TTM)(c:ConM)(h:zua)(b:Nat)(i:zua)(d:Nat)(fa:zua)(fc:Nat)(p:ConP)(w:World)(B:Nat)(u:B≤w.heap.size)(k:t.zones.length≤b∧b≤140737488355328∧t.airs.length≤d∧d≤140737488355328)(o:c.consts.length≤p.cc∧p.cc≤140737488355328)(v:SlAt zcg w h t.zones)(x:SlAt zei w i t.airs)(y:SlAt zam w fa t.fls)(z:zdr B w c p):
 Calls prog 57 #[.agg #[.slice h t.zones.length b,.slice i t.airs.length d,.slice fa t.fls.length fc],.agg #[.int .i64 c.report,.int .i64 c.release,.int .i64 c.connect,.int .i64 c.sit,.int .i64 c.layover,.int .i64 c.nf,.int .i64 c.nt,.slice p.ca c.consts.length p.cc,.slice p.ra c.rules.length p.rc,.slice p.ka c.costs.length p.kc,.slice p.xa c.credit.length p.xc,.slice p.la c.lims.length p.lc,.slice p.oa c.offs.length p.oc,.int .i64 c.guar]] w fun e w'=>e=.returned (.int .i64 (tcV t c))∧Below w.heap.size w w':=by
 have C:=I v;have D:=I x;have E:=I y;have F:=I z;clear v x y z;go_enter func57,ntmps57
 go_wp2_with fail;have l:=I (ztS (J w (objT t h b i d fa fc)) (J _ (objC c p)));have n:=I (zh (w.alloc (objT t h b i d fa fc)) (objC c p));rw[zr]at n;obtain⟨A,f⟩:∃A,A=w.heap.size+1:=⟨_,rfl⟩;rw[←f]at n;simp only[←f];clear f;generalize (w.alloc (objT t h b i d fa fc)).alloc (objC c p)=W at*;refine(zif t h i fa b d fc W k (C.1.below l.1) (D.1.below l.1) (E.1.below l.1)).mono ?_;rintro e G ⟨rfl,g⟩;have a:=I (ztS l.1 g);have q:=I (blkA g n.1);clear g l n;by_cases j:zY t=0
 · have r:=I (show tcV t c=valT c from if_neg (by simpa using j));obtain⟨N,P,Q,R,S,T,U,V,X,Y,H,K,L,M,Z⟩:=zbZ q.1;rw[j];clear j;go_wp2_with fail;refine(zlE c p G B (ztV u a.1.size) o (F.1.keep (a.1.mono u))).mono ?_;rintro e w2 ⟨rfl,m⟩;have s:=I (ztS a.1 m);clear m;go_wp2_with fail;go_ret;exact⟨ze r.1.symm,s.1⟩
 have r:=I (show tcV t c=zY t from if_pos j);have e1:(zY t !=0)=true:=by simpa using j
 clear j;go_wp2_with fail;go_ret;exact⟨ze r.1.symm,a.1⟩
theorem zD{w w':World}{b o:Nat}{v:Value}(h:w.cell? ⟨b,o,none⟩=some v)(a:b<w.heap.size)(c:Below w.heap.size w w'):w'.cell? ⟨b,o,none⟩=some v:=(c.cell (p:=⟨b,o,none⟩) a).trans h
theorem zop(t:TTM)(c:ConM)(n:zua)(o:Nat)(q:zua)(r:Nat)(fa:zua)(fc:Nat)(p:ConP)(w:World)(hT:zY t=0)(hf:SlAt zam w fa t.fls)(i j:Nat)(M:i<t.fls.length)(N:j<t.fls.length):
 Calls prog 107 #[.agg #[.slice n t.zones.length o,.slice q t.airs.length r,.slice fa t.fls.length fc],.agg #[.int .i64 c.report,.int .i64 c.release,.int .i64 c.connect,.int .i64 c.sit,.int .i64 c.layover,.int .i64 c.nf,.int .i64 c.nt,.slice p.ca c.consts.length p.cc,.slice p.ra c.rules.length p.rc,.slice p.ka c.costs.length p.kc,.slice p.xa c.credit.length p.xc,.slice p.la c.lims.length p.lc,.slice p.oa c.offs.length p.oc,.int .i64 c.guar],.int .i64 i,.int .i64 j] w fun e w'=>e=.returned (.bool (zcZ t c i j))∧Below w.heap.size w w':=by
 obtain⟨b,f,rfl,l,F⟩:=zaO hf (by omega);obtain⟨⟨_,_,G,_,H,_,_,_,_⟩,_⟩:=F i M;obtain⟨⟨_,K,_,L,_,_,_,_,_⟩,_⟩:=F j N;obtain⟨a4,a5,a6,a7⟩:=zas hT M;obtain⟨a8,a9,b0,b1⟩:=zas hT N;have a0:-52593120≤(fAt t.fls j).dep-(fAt t.fls i).arr:=by omega
 have a1:(fAt t.fls j).dep-(fAt t.fls i).arr≤52593120:=by omega
 have a2:=(zcJ hT).2.2;clear F hf;cases e0:((fAt t.fls i).to.toList==(fAt t.fls j).frm.toList)
 · have P:=I (show zcZ t c i j=false by simp[zcZ,e0]);go_enter func107,ntmps107
   go_wp2_with fail;have s:=I (ztS (J w (objT t n o q r (some ⟨b,f,none⟩) fc)) (J _ (objC c p)));have u:=I (zd (o':=(objC c p)) (zh w (objT t n o q r (some ⟨b,f,none⟩) fc)));have h:=I (zh (w.alloc (objT t n o q r (some ⟨b,f,none⟩) fc)) (objC c p));rw[zr]at h;obtain⟨y,g⟩:∃y,y=w.heap.size+1:=⟨_,rfl⟩;rw[←g]at h;simp only[←g];clear g;have k:=s.1;have z:=zD G l k;have Q:=zD H l k;have A:=zD K l k;have R:=zD L l k;have d:=ztU l k.size;have B:=zC u.1;have C:=zC h.1;have D:=zaj h.1;have v:=ztW u.1;have m:=ztW h.1;clear k u h;generalize (w.alloc (objT t n o q r (some ⟨b,f,none⟩) fc)).alloc (objC c p)=W at*;go_quiet (fail)
   have a:=dr W nq;have S:=zD z d a;have T:=zD A d a;have U:=zD B v a;have V:=zD C m a;have X:=zD D m a;have E:=ztU d a.size;have Y:=ztU v a.size;have Z:=ztU m a.size;have x:=I (ztS s.1 a);clear a s z Q A R B C D v m d;generalize W.drewN nq=W1 at*;go_wp2_with fail;go_quiet (fail)
   go_wp2_with fail;go_ret;exact⟨zz P.1.symm,ztS x.1 (dr _ _)⟩
 by_cases e1:c.connect≤(fAt t.fls j).dep-(fAt t.fls i).arr
 · have P:=I (show zcZ t c i j=decide ((fAt t.fls j).dep-(fAt t.fls i).arr≤c.sit) by simp[zcZ,e0,e1]);have a3:decide (c.connect≤(fAt t.fls j).dep-(fAt t.fls i).arr)=true:=by simpa using e1
   go_enter func107,ntmps107
   go_wp2_with fail;have s:=I (ztS (J w (objT t n o q r (some ⟨b,f,none⟩) fc)) (J _ (objC c p)));have u:=I (zd (o':=(objC c p)) (zh w (objT t n o q r (some ⟨b,f,none⟩) fc)));have h:=I (zh (w.alloc (objT t n o q r (some ⟨b,f,none⟩) fc)) (objC c p));rw[zr]at h;obtain⟨y,g⟩:∃y,y=w.heap.size+1:=⟨_,rfl⟩;rw[←g]at h;simp only[←g];clear g;have k:=s.1;have z:=zD G l k;have Q:=zD H l k;have A:=zD K l k;have R:=zD L l k;have d:=ztU l k.size;have B:=zC u.1;have C:=zC h.1;have D:=zaj h.1;have v:=ztW u.1;have m:=ztW h.1;clear k u h;generalize (w.alloc (objT t n o q r (some ⟨b,f,none⟩) fc)).alloc (objC c p)=W at*;go_quiet (fail)
   have a:=dr W nq;have S:=zD z d a;have T:=zD A d a;have U:=zD B v a;have V:=zD C m a;have X:=zD D m a;have E:=ztU d a.size;have Y:=ztU v a.size;have Z:=ztU m a.size;have x:=I (ztS s.1 a);clear a s z Q A R B C D v m d;generalize W.drewN nq=W1 at*;go_wp2_with fail;go_quiet (fail)
   go_wp2_with fail;go_ret;exact⟨zz P.1.symm,ztS x.1 (dr _ _)⟩
 have P:=I (show zcZ t c i j=false by simp[zcZ,e1]);have a3:decide (c.connect≤(fAt t.fls j).dep-(fAt t.fls i).arr)=false:=by simpa using e1
 go_enter func107,ntmps107
 go_wp2_with fail;have s:=I (ztS (J w (objT t n o q r (some ⟨b,f,none⟩) fc)) (J _ (objC c p)));have u:=I (zd (o':=(objC c p)) (zh w (objT t n o q r (some ⟨b,f,none⟩) fc)));have h:=I (zh (w.alloc (objT t n o q r (some ⟨b,f,none⟩) fc)) (objC c p));rw[zr]at h;obtain⟨y,g⟩:∃y,y=w.heap.size+1:=⟨_,rfl⟩;rw[←g]at h;simp only[←g];clear g;have k:=s.1;have z:=zD G l k;have Q:=zD H l k;have A:=zD K l k;have R:=zD L l k;have d:=ztU l k.size;have B:=zC u.1;have C:=zC h.1;have D:=zaj h.1;have v:=ztW u.1;have m:=ztW h.1;clear k u h;generalize (w.alloc (objT t n o q r (some ⟨b,f,none⟩) fc)).alloc (objC c p)=W at*;go_quiet (fail)
 have a:=dr W nq;have S:=zD z d a;have T:=zD A d a;have U:=zD B v a;have V:=zD C m a;have X:=zD D m a;have E:=ztU d a.size;have Y:=ztU v a.size;have Z:=ztU m a.size;have x:=I (ztS s.1 a);clear a s z Q A R B C D v m d;generalize W.drewN nq=W1 at*;go_wp2_with fail;go_quiet (fail)
 go_wp2_with fail;go_ret;exact⟨zz P.1.symm,ztS x.1 (dr _ _)⟩
theorem zrF{t:TTM}{n:Int}(h:flOk t n=false):n<0∨(0≤n∧(t.fls.length:Int)≤n):=by
 simp only[flOk,Bool.and_eq_false_iff,decide_eq_false_iff_not]at h;omega
theorem zlQ(t:TTM)(c:ConM)(s:zua)(u:Nat)(v:zua)(x:Nat)(fa:zua)(fc:Nat)(p:ConP)(w:World)(hT:zY t=0)(hf:SlAt zam w fa t.fls)(d:Duty)(da:zua)(dc:Nat)(a9:d.length≤140737488355328)(hd:SlAt za3 w da d):
 Calls prog 58 #[.agg #[.slice s t.zones.length u,.slice v t.airs.length x,.slice fa t.fls.length fc],.agg #[.int .i64 c.report,.int .i64 c.release,.int .i64 c.connect,.int .i64 c.sit,.int .i64 c.layover,.int .i64 c.nf,.int .i64 c.nt,.slice p.ca c.consts.length p.cc,.slice p.ra c.rules.length p.rc,.slice p.ka c.costs.length p.kc,.slice p.xa c.credit.length p.xc,.slice p.la c.lims.length p.lc,.slice p.oa c.offs.length p.oc,.int .i64 c.guar],.slice da d.length dc] w fun e w'=>e=.returned (.int .i64 (za6 t c d))∧Below w.heap.size w w':=by
 by_cases h1:d.length<1
 · have y:=I (show za6 t c d=5 from if_pos (.inl h1));go_enter func58,ntmps58
   go_wp2_with fail;go_ret;exact⟨ze y.1.symm,ztS (J w (Obj.cells #[.slice s t.zones.length u,.slice v t.airs.length x,.slice fa t.fls.length fc] 26)) (J _ (Obj.cells #[.int .i64 c.report,.int .i64 c.release,.int .i64 c.connect,.int .i64 c.sit,.int .i64 c.layover,.int .i64 c.nf,.int .i64 c.nt,.slice p.ca c.consts.length p.cc,.slice p.ra c.rules.length p.rc,.slice p.ka c.costs.length p.kc,.slice p.xa c.credit.length p.xc,.slice p.la c.lims.length p.lc,.slice p.oa c.offs.length p.oc,.int .i64 c.guar] 34))⟩
 by_cases h2:6<d.length
 · have y:=I (show za6 t c d=5 from if_pos (.inr h2));go_enter func58,ntmps58
   go_wp2_with fail;go_ret;exact⟨ze y.1.symm,ztS (J w (Obj.cells #[.slice s t.zones.length u,.slice v t.airs.length x,.slice fa t.fls.length fc] 26)) (J _ (Obj.cells #[.int .i64 c.report,.int .i64 c.release,.int .i64 c.connect,.int .i64 c.sit,.int .i64 c.layover,.int .i64 c.nf,.int .i64 c.nt,.slice p.ca c.consts.length p.cc,.slice p.ra c.rules.length p.rc,.slice p.ka c.costs.length p.kc,.slice p.xa c.credit.length p.xc,.slice p.la c.lims.length p.lc,.slice p.oa c.offs.length p.oc,.int .i64 c.guar] 34))⟩
 have Hv:=I (show za6 t c d=if fstE (unkE t d) 0 (d.length-0)≠0 then fstE (unkE t d) 0 (d.length-0) else fstE (chnE t c d) 1 (d.length-1) from if_neg (by omega));have HF:=I hf;have HD:=I hd;have a0:=(zcJ hT).2.2;have a1:=I hT;clear hf hd hT;go_enter func58,ntmps58
 go_wp2_with fail;have HB:=I (ztS (J w (objT t s u v x fa fc)) (J _ (objC c p)));have QT:=I (zd (o':=(objC c p)) (zh w (objT t s u v x fa fc)));have V:=I (zh (w.alloc (objT t s u v x fa fc)) (objC c p));rw[zr]at V;obtain⟨X,C⟩:∃X,X=w.heap.size+1:=⟨_,rfl⟩;rw[←C]at V;simp only[←C];clear C;generalize (w.alloc (objT t s u v x fa fc)).alloc (objC c p)=W at*;go_loopw [7] (fun i wr=>∃(k:Nat),k≤d.length∧i=.int .i64 k∧ztR (fstE (unkE t d) 0 (d.length-0)=fstE (unkE t d) k (d.length-k))∧ztR (wr.heap[w.heap.size]?=some (objT t s u v x fa fc))∧ztR (wr.heap[X]?=some (objC c p))∧ztR (Below w.heap.size w wr)) (fun i _=>d.length-(intOf i).toNat)
 case atStart=>exact⟨0,ztX _,rfl,I rfl,QT,V,HB⟩
 clear QT V HB;obtain⟨k,hk,rfl,A,f,o,a⟩:=hrel;have Y:=zC f.1;have xl:=ztW f.1;by_cases h:k<d.length
 · obtain⟨b,a2,D,hb,r⟩:=zbF (HD.1.below a.1) (by omega);have H:=(r k h).1;subst D;clear r;cases B:flOk t (tAt d k).1
   · have l:=I (A.1.trans (zbN h (by rw[unkE,B];decide)));have y:=I (show za6 t c d=6 by rw[Hv.1,l.1,unkE,B];rfl);rcases zrF B with g|⟨g,g2⟩
     · clear B;go_wp2_with fail;go_quiet (fail)
       go_wp2_with fail;go_ret;exact⟨ze y.1.symm,ztS a.1 (dr _ _)⟩
     clear B;go_wp2_with fail;go_quiet (fail)
     go_wp2_with fail;go_ret;exact⟨ze y.1.symm,ztS a.1 (dr _ _)⟩
   obtain⟨m,G,K⟩:=zbO B;have l:=I (A.1.trans (zcS h (by rw[unkE,B];rfl)));rw[G]at H;clear B G;go_wp2_with fail;go_quiet (fail)
   go_wp2_with fail;go_roundw
   case rel=>first|exact⟨k+1,by omega,by go_num,l,I (blkA (dr _ _) f.1),I (blkA (dr _ _) o.1),I (ztS a.1 (dr _ _))⟩|((repeat apply Exists.intro);exact⟨⟨k+1,by omega,by go_num,l,I (blkA (dr _ _) f.1),I (blkA (dr _ _) o.1),I (ztS a.1 (dr _ _))⟩,rfl⟩)
   case measure=>simp[intOf];omega
 obtain rfl:k=d.length:=by omega
 have E:=A.1.trans (zb9 _ _)
 have L:=I (fun j (hj:j<d.length)=>show flOk t (tAt d j).1=true from by
  have:=zcN _ _ E j (by omega) (by omega);unfold unkE at this
  by_cases e:flOk t (tAt d j).1=true
  · exact e
  rw[if_neg e]at this;omega)
 have M:=I (Hv.1.trans (if_neg (by rw[E];simp)));clear Hv A hk h E;go_wp2_with fail;clear Y xl;go_loopw [8] (fun i wr=>∃(k:Nat),1≤k∧k≤d.length∧i=.int .i64 k∧ztR (fstE (chnE t c d) 1 (d.length-1)=fstE (chnE t c d) k (d.length-k))∧ztR (wr.heap[w.heap.size]?=some (objT t s u v x fa fc))∧ztR (wr.heap[X]?=some (objC c p))∧ztR (Below w.heap.size w wr)) (fun i _=>d.length-(intOf i).toNat)
 case atStart=>exact⟨1,by omega,by omega,rfl,I rfl,f,o,a⟩
 clear f o a;obtain⟨k,b0,hk,rfl,A,f,o,a⟩:=hrel;by_cases h:k<d.length
 · obtain⟨q,rfl⟩:∃q,k=q+1:=⟨k-1,by omega⟩;obtain⟨b,a2,D,hb,r⟩:=zbF (HD.1.below a.1) (by omega);have H:=(r q (by omega)).1;have t1:=(r (q+1) h).1;subst D;obtain⟨m,G,K⟩:=zbO (L.1 q (by omega));obtain⟨n,hn,a3⟩:=zbO (L.1 (q+1) h);have hE:=I (show chnE t c d (q+1)=if zcZ t c m n=true then 0 else 14 by rw[chnE,Nat.add_sub_cancel,G,hn];rfl);rw[G]at H;rw[hn]at t1;have b1:((q+1:Nat):Int)-1=(q:Int):=by omega
   have b2:q<d.length:=by omega
   have C1:=I (fun dd os=>ztZ (zop t c s u v x fa fc p (grow (redrawn wr dd) os) a1.1 (HF.1.below (ztS a.1 (below_regrown wr dd os))) m n K a3));clear r G hn;obtain⟨x0,x1,Y,xl⟩:=zdn f.1;obtain⟨y0,y1,y2,y3,y4,y5,y6,y7,y8,y9,N,P,Q,R,yl⟩:=zbZ o.1;go_wp2_with fail;have r0:=fun dd os=>cell_regrown x0 dd os
   have r1:=fun dd os=>cell_regrown x1 dd os
   have r2:=fun dd os=>cell_regrown Y dd os
   have s0:=fun dd os=>cell_regrown y0 dd os
   have s1:=fun dd os=>cell_regrown y1 dd os
   have s2:=fun dd os=>cell_regrown y2 dd os
   have s3:=fun dd os=>cell_regrown y3 dd os
   have s4:=fun dd os=>cell_regrown y4 dd os
   have s5:=fun dd os=>cell_regrown y5 dd os
   have s6:=fun dd os=>cell_regrown y6 dd os
   have s7:=fun dd os=>cell_regrown y7 dd os
   have s8:=fun dd os=>cell_regrown y8 dd os
   have s9:=fun dd os=>cell_regrown y9 dd os
   have a4:=fun dd os=>cell_regrown N dd os
   have a5:=fun dd os=>cell_regrown P dd os
   have a6:=fun dd os=>cell_regrown Q dd os
   have a7:=fun dd os=>cell_regrown R dd os
   have k0:=fun dd os=>cell_regrown H dd os
   have k1:=fun dd os=>cell_regrown t1 dd os
   refine wp_region_quiet_below (by kernel_rfl) (by kernel_rfl) ?_;repeat (first|go_big_quiet_step (first|(with_reducible exact C1.1 _ _))|quiet_step (first|(with_reducible exact C1.1 _ _)))
   refine wpQuiet_nil ?_;intro _ a8;obtain⟨⟨Z,z⟩,S⟩:=a8;subst S;have F:=I (ztS a.1 (below_regrown wr Z z));have T:=I (blkA (below_regrown wr Z z) f.1);have U:=I (blkA (below_regrown wr Z z) o.1);clear r0 r1 r2 s0 s1 s2 s3 s4 s5 s6 s7 s8 s9 a4 a5 a6 a7 k0 k1 x0 x1 Y xl y0 y1 y2 y3 y4 y5 y6 y7 y8 y9 N P Q R yl H t1 C1 f o a hb;generalize grow (redrawn wr Z) z=W2 at*;cases eJ:zcZ t c m n
   · have l:=I (A.1.trans (zbN h (by rw[hE.1,eJ];decide)));have y:=I (show za6 t c d=14 by rw[M.1,l.1,hE.1,eJ];rfl);go_wp2_with fail;go_ret;exact⟨ze y.1.symm,F.1⟩
   have l:=I (A.1.trans (zcS h (by rw[hE.1,eJ];rfl)));go_wp2_with fail;go_roundw
   case rel=>first|exact⟨q+1+1,by omega,by omega,by go_num,l,T,U,F⟩|((repeat apply Exists.intro);exact⟨⟨q+1+1,by omega,by omega,by go_num,l,T,U,F⟩,rfl⟩)
   case measure=>simp[intOf];omega
 obtain rfl:k=d.length:=by omega
 have y:=I (M.1.trans (A.1.trans (zb9 _ _)));go_wp2_with fail;go_ret;exact⟨ze y.1.symm,a.1⟩
theorem zrk{t:TTM}{c:ConM}(h:tcV t c=0):zY t=0∧valT c=0:=by
 unfold tcV at h
 by_cases e:zY t=0
 · rw[if_neg (by simpa using e)]at h;exact⟨e,h⟩
 rw[if_pos e]at h;exact absurd h e
theorem zrN{t:TTM}{c:ConM}{d:Duty}(h:tcV t c≠0):dErr t c d=tcV t c:=by
 by_cases e:zY t=0
 · have a:valT c≠0:=by simpa[tcV,e] using h
   rw[zlr e a];simp[tcV,e]
 rw[zlp e];simp[tcV,e]
theorem zdk(t:TTM)(c:ConM)(j:zua)(b:Nat)(k:zua)(g:Nat)(fa:zua)(fc:Nat)(p:ConP)(w:World)(n:(t.zones.length≤b∧b≤140737488355328∧t.airs.length≤g∧g≤140737488355328))(u:c.consts.length≤p.cc∧p.cc≤140737488355328)(o:TCAt w t c j k fa p)(d:Duty)(v:zua)(G:Nat)(x:d.length≤140737488355328)(H:SlAt za3 w v d):
 Calls prog 18 #[.agg #[.slice j t.zones.length b,.slice k t.airs.length g,.slice fa t.fls.length fc],.agg #[.int .i64 c.report,.int .i64 c.release,.int .i64 c.connect,.int .i64 c.sit,.int .i64 c.layover,.int .i64 c.nf,.int .i64 c.nt,.slice p.ca c.consts.length p.cc,.slice p.ra c.rules.length p.rc,.slice p.ka c.costs.length p.kc,.slice p.xa c.credit.length p.xc,.slice p.la c.lims.length p.lc,.slice p.oa c.offs.length p.oc,.int .i64 c.guar],.slice v d.length G] w fun e w'=>e=.returned (.int .i64 (dErr t c d))∧Below w.heap.size w w':=by
 have K:=I o;have P:=I H;clear o H;go_enter func18,ntmps18
 go_wp2_with fail;have y:=I (ztS (J w (objT t j b k g fa fc)) (J _ (objC c p)));have L:=I (zd (o':=(objC c p)) (zh w (objT t j b k g fa fc)));have s:=I (zh (w.alloc (objT t j b k g fa fc)) (objC c p));rw[zr]at s;obtain⟨M,l⟩:∃M,M=w.heap.size+1:=⟨_,rfl⟩;rw[←l]at s;simp only[←l];clear l;generalize (w.alloc (objT t j b k g fa fc)).alloc (objC c p)=W at*;have q:=I (K.1.below y.1);refine(zlD t c j b k g fa fc p W W.heap.size (ztY _) n u q.1.z q.1.a q.1.f q.1.c).mono ?_;rintro e Q ⟨rfl,h⟩;have i:=I (ztS y.1 h);have A:=I (blkA h L.1);have B:=I (blkA h s.1);clear h y L s q;by_cases m:tcV t c=0
 · obtain⟨C,N⟩:=zrk m;have D:=I (zlq (d:=d) C N);have E:=I C;clear C N;obtain⟨V,X,Y,Z⟩:=zdn A.1;obtain⟨y0,y1,y2,y3,y4,y5,y6,y7,y8,y9,R,S,T,U,yl⟩:=zbZ B.1;rw[m];clear m;go_wp2_with fail;refine(zlQ t c j b k g fa fc p Q E.1 (K.1.below i.1).f d v G x (P.1.below i.1)).mono ?_;rintro e w2 ⟨rfl,r⟩;have F:=I (ztS i.1 r);clear r;go_wp2_with fail;go_ret;exact⟨ze D.1.symm,F.1⟩
 have D:=I (zrN (d:=d) m);have e1:(tcV t c !=0)=true:=by simpa using m
 clear m;go_wp2_with fail;go_ret;exact⟨ze D.1.symm,i.1⟩
theorem set9{w:World}{b:Nat}{T:TypeId}{v t s r p o m l j:Value}(a c d e f g k n q:Value)(h:w.heap[b]?=some (.cells #[v,t,s,r,p,o,m,l,j] T (0,0))):(((((((((w.setCell ⟨b,0,none⟩ a).setCell ⟨b,1,none⟩ c).setCell ⟨b,2,none⟩ d).setCell ⟨b,3,none⟩ e).setCell ⟨b,4,none⟩ f).setCell ⟨b,5,none⟩ g).setCell ⟨b,6,none⟩ k).setCell ⟨b,7,none⟩ n).setCell ⟨b,8,none⟩ q).heap[b]?=some (.cells #[a,c,d,e,f,g,k,n,q] T (0,0)):=by
 have x:(w.setCell ⟨b,0,none⟩ a).heap[b]?=some (.cells #[a,t,s,r,p,o,m,l,j] T (0,0)):=zg (i:=0) (u:=a) h;have y:((w.setCell ⟨b,0,none⟩ a).setCell ⟨b,1,none⟩ c).heap[b]?=some (.cells #[a,c,s,r,p,o,m,l,j] T (0,0)):=zg (i:=1) (u:=c) x;have z:(((w.setCell ⟨b,0,none⟩ a).setCell ⟨b,1,none⟩ c).setCell ⟨b,2,none⟩ d).heap[b]?=some (.cells #[a,c,d,r,p,o,m,l,j] T (0,0)):=zg (i:=2) (u:=d) y;have A:((((w.setCell ⟨b,0,none⟩ a).setCell ⟨b,1,none⟩ c).setCell ⟨b,2,none⟩ d).setCell ⟨b,3,none⟩ e).heap[b]?=some (.cells #[a,c,d,e,p,o,m,l,j] T (0,0)):=zg (i:=3) (u:=e) z;have B:(((((w.setCell ⟨b,0,none⟩ a).setCell ⟨b,1,none⟩ c).setCell ⟨b,2,none⟩ d).setCell ⟨b,3,none⟩ e).setCell ⟨b,4,none⟩ f).heap[b]?=some (.cells #[a,c,d,e,f,o,m,l,j] T (0,0)):=zg (i:=4) (u:=f) A;have C:((((((w.setCell ⟨b,0,none⟩ a).setCell ⟨b,1,none⟩ c).setCell ⟨b,2,none⟩ d).setCell ⟨b,3,none⟩ e).setCell ⟨b,4,none⟩ f).setCell ⟨b,5,none⟩ g).heap[b]?=some (.cells #[a,c,d,e,f,g,m,l,j] T (0,0)):=zg (i:=5) (u:=g) B;have D:(((((((w.setCell ⟨b,0,none⟩ a).setCell ⟨b,1,none⟩ c).setCell ⟨b,2,none⟩ d).setCell ⟨b,3,none⟩ e).setCell ⟨b,4,none⟩ f).setCell ⟨b,5,none⟩ g).setCell ⟨b,6,none⟩ k).heap[b]?=some (.cells #[a,c,d,e,f,g,k,l,j] T (0,0)):=zg (i:=6) (u:=k) C;have E:((((((((w.setCell ⟨b,0,none⟩ a).setCell ⟨b,1,none⟩ c).setCell ⟨b,2,none⟩ d).setCell ⟨b,3,none⟩ e).setCell ⟨b,4,none⟩ f).setCell ⟨b,5,none⟩ g).setCell ⟨b,6,none⟩ k).setCell ⟨b,7,none⟩ n).heap[b]?=some (.cells #[a,c,d,e,f,g,k,n,j] T (0,0)):=zg (i:=7) (u:=n) D;have F:(((((((((w.setCell ⟨b,0,none⟩ a).setCell ⟨b,1,none⟩ c).setCell ⟨b,2,none⟩ d).setCell ⟨b,3,none⟩ e).setCell ⟨b,4,none⟩ f).setCell ⟨b,5,none⟩ g).setCell ⟨b,6,none⟩ k).setCell ⟨b,7,none⟩ n).setCell ⟨b,8,none⟩ q).heap[b]?=some (.cells #[a,c,d,e,f,g,k,n,q] T (0,0)):=zg (i:=8) (u:=q) E;exact F
theorem ziT(t:TTM)(N:zua)(P:Nat)(Q:zua)(R:Nat)(fa:zua)(fc:Nat)(w:World)(hf:SlAt zam w fa t.fls)(a0:t.fls.length≤200)(d:Duty)(da:zua)(dc:Nat)(a4:0<d.length∧d.length≤6)(hd:SlAt za3 w da d)(m:Nat)(hm:(tAt d 0).1=m)(a1:m<t.fls.length):
 Calls prog 86 #[.agg #[.slice N t.zones.length P,.slice Q t.airs.length R,.slice fa t.fls.length fc],.slice da d.length dc] w fun e w'=>e=.returned (.agg #[.string (fAt t.fls m).num,.string (fAt t.fls m).frm,.string (fAt t.fls m).to,.int .i64 (fAt t.fls m).dep,.int .i64 (fAt t.fls m).arr,.string (fAt t.fls m).typ,.int .i64 (fAt t.fls m).n0,.int .i64 (fAt t.fls m).n1,.int .i64 (fAt t.fls m).n2])∧Below w.heap.size w w':=by
 obtain⟨b,a,rfl,s,S⟩:=zaO hf (by omega);obtain⟨⟨p0,p1,p2,p3,p4,p5,p6,p7,p8⟩,_⟩:=S m a1;obtain⟨z,j,rfl,T,x⟩:=zbF hd (by omega);have Z:=(x 0 (by omega)).1;rw[hm]at Z;have Z:w.cell? ⟨z,j,none⟩=some (.int .i64 (m:Int)):=by simpa using Z
 clear S x hm hf hd;go_enter func86,ntmps86
 go_wp2_with fail;have p:=I (ztS (J w (objT t N P Q R (some ⟨b,a,none⟩) fc)) (J _ (Obj.cells #[.string ⟨#[]⟩,.string ⟨#[]⟩,.string ⟨#[]⟩,.int .i64 0,.int .i64 0,.string ⟨#[]⟩,.int .i64 0,.int .i64 0,.int .i64 0] 95)));have QT:=I (zd (o':=(Obj.cells #[.string ⟨#[]⟩,.string ⟨#[]⟩,.string ⟨#[]⟩,.int .i64 0,.int .i64 0,.string ⟨#[]⟩,.int .i64 0,.int .i64 0,.int .i64 0] 95)) (zh w (objT t N P Q R (some ⟨b,a,none⟩) fc)));have U:=I (zh (w.alloc (objT t N P Q R (some ⟨b,a,none⟩) fc)) (Obj.cells #[.string ⟨#[]⟩,.string ⟨#[]⟩,.string ⟨#[]⟩,.int .i64 0,.int .i64 0,.string ⟨#[]⟩,.int .i64 0,.int .i64 0,.int .i64 0] 95));rw[zr]at U;obtain⟨f,r⟩:∃f,f=w.heap.size+1:=⟨_,rfl⟩;rw[←r]at U;simp only[←r];have k:w.heap.size≤f:=by omega
 clear r;generalize (w.alloc (objT t N P Q R (some ⟨b,a,none⟩) fc)).alloc (Obj.cells #[.string ⟨#[]⟩,.string ⟨#[]⟩,.string ⟨#[]⟩,.int .i64 0,.int .i64 0,.string ⟨#[]⟩,.int .i64 0,.int .i64 0,.int .i64 0] 95)=W at*;have u0:=zD p0 s p.1;have u1:=zD p1 s p.1;have u2:=zD p2 s p.1;have u3:=zD p3 s p.1;have u4:=zD p4 s p.1;have u5:=zD p5 s p.1;have u6:=zD p6 s p.1;have u7:=zD p7 s p.1;have u8:=zD p8 s p.1;have ut:=zD Z T p.1;have V:=ztU s p.1.size;have y:=ztU T p.1.size;have x2:=zC QT.1;have xl:=ztW QT.1;have rl:=ztW U.1;have Y:=I p.1.drew;have c:ztR (W.drew.heap[f]?=some (.cells #[.string ⟨#[]⟩,.string ⟨#[]⟩,.string ⟨#[]⟩,.int .i64 0,.int .i64 0,.string ⟨#[]⟩,.int .i64 0,.int .i64 0,.int .i64 0] 95 (0,0))):=U;have g:W.drew.cell? ⟨w.heap.size,2,none⟩=some (.slice (some ⟨b,a,none⟩) t.fls.length fc)∧W.drew.cell? ⟨z,j,none⟩=some (.int .i64 (m:Int))∧W.drew.cell? ⟨b,a+m*9,none⟩=some (.string (fAt t.fls m).num)∧W.drew.cell? ⟨b,a+m*9+1,none⟩=some (.string (fAt t.fls m).frm)∧W.drew.cell? ⟨b,a+m*9+2,none⟩=some (.string (fAt t.fls m).to)∧W.drew.cell? ⟨b,a+m*9+3,none⟩=some (.int .i64 (fAt t.fls m).dep)∧W.drew.cell? ⟨b,a+m*9+4,none⟩=some (.int .i64 (fAt t.fls m).arr)∧W.drew.cell? ⟨b,a+m*9+5,none⟩=some (.string (fAt t.fls m).typ)∧W.drew.cell? ⟨b,a+m*9+6,none⟩=some (.int .i64 (fAt t.fls m).n0)∧W.drew.cell? ⟨b,a+m*9+7,none⟩=some (.int .i64 (fAt t.fls m).n1)∧W.drew.cell? ⟨b,a+m*9+8,none⟩=some (.int .i64 (fAt t.fls m).n2):=⟨x2,ut,u0,u1,u2,u3,u4,u5,u6,u7,u8⟩;obtain⟨l,q⟩:∃l,W.drew=l:=⟨_,rfl⟩;rw[q]at Y c g;have a5:w.heap.size<l.heap.size:=q ▸ xl;have a6:b<l.heap.size:=q ▸ V;have a3:z<l.heap.size:=q ▸ y;clear U QT x2 ut u0 u1 u2 u3 u4 u5 u6 u7 u8 xl rl V y;refine zbD (fun w'=>w'.cell? ⟨w.heap.size,2,none⟩=some (.slice (some ⟨b,a,none⟩) t.fls.length fc)∧w'.cell? ⟨z,j,none⟩=some (.int .i64 (m:Int))∧w'.cell? ⟨b,a+m*9,none⟩=some (.string (fAt t.fls m).num)∧w'.cell? ⟨b,a+m*9+1,none⟩=some (.string (fAt t.fls m).frm)∧w'.cell? ⟨b,a+m*9+2,none⟩=some (.string (fAt t.fls m).to)∧w'.cell? ⟨b,a+m*9+3,none⟩=some (.int .i64 (fAt t.fls m).dep)∧w'.cell? ⟨b,a+m*9+4,none⟩=some (.int .i64 (fAt t.fls m).arr)∧w'.cell? ⟨b,a+m*9+5,none⟩=some (.string (fAt t.fls m).typ)∧w'.cell? ⟨b,a+m*9+6,none⟩=some (.int .i64 (fAt t.fls m).n0)∧w'.cell? ⟨b,a+m*9+7,none⟩=some (.int .i64 (fAt t.fls m).n1)∧w'.cell? ⟨b,a+m*9+8,none⟩=some (.int .i64 (fAt t.fls m).n2)) [8] (by kernel_rfl) q ?_;clear q;refine zx (i:=0) (v:=.pointer (some ⟨w.heap.size,2,none⟩)) rfl (fun w' hS'=>?_) g ?_
 · obtain⟨A,B,C,D,E,F,G,H,L,M,n⟩:=hS';go_simp
 try simp only[Act.put,O]
 refine zx (i:=1) (v:=.slice (some ⟨b,a,none⟩) t.fls.length fc) rfl (fun w' hS'=>?_) g ?_
 · obtain⟨A,B,C,D,E,F,G,H,L,M,n⟩:=hS';go_simp
 try simp only[Act.put,O]
 refine zx (i:=2) (v:=.slice (some ⟨z,j,none⟩) d.length dc) rfl (fun w' hS'=>?_) g ?_
 · obtain⟨A,B,C,D,E,F,G,H,L,M,n⟩:=hS';go_simp
 try simp only[Act.put,O]
 refine zx (i:=3) (v:=.pointer (some ⟨z,j,none⟩)) rfl (fun w' hS'=>?_) g ?_
 · obtain⟨A,B,C,D,E,F,G,H,L,M,n⟩:=hS';go_simp
 try simp only[Act.put,O]
 refine zx (i:=4) (v:=.pointer (some ⟨z,j,none⟩)) rfl (fun w' hS'=>?_) g ?_
 · obtain⟨A,B,C,D,E,F,G,H,L,M,n⟩:=hS';go_simp
 try simp only[Act.put,O]
 refine zx (i:=5) (v:=.int .i64 (m:Int)) rfl (fun w' hS'=>?_) g ?_
 · obtain⟨A,B,C,D,E,F,G,H,L,M,n⟩:=hS';go_simp
 try simp only[Act.put,O]
 refine zx (i:=6) (v:=.pointer (some ⟨b,a+m*9,none⟩)) rfl (fun w' hS'=>?_) g ?_
 · obtain⟨A,B,C,D,E,F,G,H,L,M,n⟩:=hS';go_simp
 try simp only[Act.put,O]
 refine zx (i:=7) (v:=.agg #[.string (fAt t.fls m).num,.string (fAt t.fls m).frm,.string (fAt t.fls m).to,.int .i64 (fAt t.fls m).dep,.int .i64 (fAt t.fls m).arr,.string (fAt t.fls m).typ,.int .i64 (fAt t.fls m).n0,.int .i64 (fAt t.fls m).n1,.int .i64 (fAt t.fls m).n2]) rfl (fun w' hS'=>?_) g ?_
 · obtain⟨A,B,C,D,E,F,G,H,L,M,n⟩:=hS';go_simp
 try simp only[Act.put,O]
 have z0:=zw c.1;have f0:l.frozen? ⟨f,0,none⟩=false:=zQ c.1;have z1:=zu c.1;have f1:l.frozen? ⟨f,1,none⟩=false:=zQ c.1;have z2:=zC c.1;have f2:l.frozen? ⟨f,2,none⟩=false:=zQ c.1;have z3:=zaj c.1;have f3:l.frozen? ⟨f,3,none⟩=false:=zQ c.1;have z4:=zbe c.1;have f4:l.frozen? ⟨f,4,none⟩=false:=zQ c.1;have z5:=zbn c.1;have f5:l.frozen? ⟨f,5,none⟩=false:=zQ c.1;have z6:=zbm c.1;have f6:l.frozen? ⟨f,6,none⟩=false:=zQ c.1;have z7:=zaK c.1;have f7:l.frozen? ⟨f,7,none⟩=false:=zQ c.1;have z8:=zaX c.1;have f8:l.frozen? ⟨f,8,none⟩=false:=zQ c.1;have a7:=ztW c.1;refine zo (i:=8) (o:={dst:=none,op:=Op.store 95 (Operand.tmp 4) (Operand.tmp 12),type:=0,pos:= "measure.go:51",after:=_,guard:=none}) (by kernel_rfl) rfl (by rfl) (fun K hK=>?_);go_simp;refine hK.1 _ _ (fun h _=>absurd (by decide:(8:Nat)∈ [8]) h) ?_;clear hK K z0 f0 z1 f1 z2 f2 z3 f3 z4 f4 z5 f5 z6 f6 z7 f7 z8 f8 g;try simp only[Act.put,O]
 refine zM (by kernel_rfl) ?_;go_wp2_with fail;have Q0:=c.1;have u:=set9 (.string (fAt t.fls m).num) (.string (fAt t.fls m).frm) (.string (fAt t.fls m).to) (.int .i64 (fAt t.fls m).dep) (.int .i64 (fAt t.fls m).arr) (.string (fAt t.fls m).typ) (.int .i64 (fAt t.fls m).n0) (.int .i64 (fAt t.fls m).n1) (.int .i64 (fAt t.fls m).n2) Q0;have a2:Below w.heap.size w (((((((((l.setCell ⟨f,0,none⟩ (.string (fAt t.fls m).num)).setCell ⟨f,1,none⟩ (.string (fAt t.fls m).frm)).setCell ⟨f,2,none⟩ (.string (fAt t.fls m).to)).setCell ⟨f,3,none⟩ (.int .i64 (fAt t.fls m).dep)).setCell ⟨f,4,none⟩ (.int .i64 (fAt t.fls m).arr)).setCell ⟨f,5,none⟩ (.string (fAt t.fls m).typ)).setCell ⟨f,6,none⟩ (.int .i64 (fAt t.fls m).n0)).setCell ⟨f,7,none⟩ (.int .i64 (fAt t.fls m).n1)).setCell ⟨f,8,none⟩ (.int .i64 (fAt t.fls m).n2)):=(((((((((Y.1.setCell k _).setCell k _).setCell k _).setCell k _).setCell k _).setCell k _).setCell k _).setCell k _).setCell k _);generalize (((((((((l.setCell ⟨f,0,none⟩ (.string (fAt t.fls m).num)).setCell ⟨f,1,none⟩ (.string (fAt t.fls m).frm)).setCell ⟨f,2,none⟩ (.string (fAt t.fls m).to)).setCell ⟨f,3,none⟩ (.int .i64 (fAt t.fls m).dep)).setCell ⟨f,4,none⟩ (.int .i64 (fAt t.fls m).arr)).setCell ⟨f,5,none⟩ (.string (fAt t.fls m).typ)).setCell ⟨f,6,none⟩ (.int .i64 (fAt t.fls m).n0)).setCell ⟨f,7,none⟩ (.int .i64 (fAt t.fls m).n1)).setCell ⟨f,8,none⟩ (.int .i64 (fAt t.fls m).n2))=X at*;have r0:=zw u;have r1:=zu u;have r2:=zC u;have r3:=zaj u;have r4:=zbe u;have r5:=zbn u;have r6:=zbm u;have r7:=zaK u;have r8:=zaX u;clear Q0 u;refine bodyPost_ret (v:=.agg #[.string (fAt t.fls m).num,.string (fAt t.fls m).frm,.string (fAt t.fls m).to,.int .i64 (fAt t.fls m).dep,.int .i64 (fAt t.fls m).arr,.string (fAt t.fls m).typ,.int .i64 (fAt t.fls m).n0,.int .i64 (fAt t.fls m).n1,.int .i64 (fAt t.fls m).n2]) (by simp[results,results86,go_sem,r0,r1,r2,r3,r4,r5,r6,r7,r8]) rfl ?_;exact⟨rfl,a2⟩
theorem zlb(t:TTM)(P:zua)(Q:Nat)(R:zua)(S:Nat)(fa:zua)(fc:Nat)(w:World)(hf:SlAt zam w fa t.fls)(a1:t.fls.length≤200)(d:Duty)(da:zua)(dc:Nat)(a5:0<d.length∧d.length≤6)(hd:SlAt za3 w da d)(m:Nat)(T:(tAt d (d.length-1)).1=m)(a2:m<t.fls.length):
 Calls prog 87 #[.agg #[.slice P t.zones.length Q,.slice R t.airs.length S,.slice fa t.fls.length fc],.slice da d.length dc] w fun e w'=>e=.returned (.agg #[.string (fAt t.fls m).num,.string (fAt t.fls m).frm,.string (fAt t.fls m).to,.int .i64 (fAt t.fls m).dep,.int .i64 (fAt t.fls m).arr,.string (fAt t.fls m).typ,.int .i64 (fAt t.fls m).n0,.int .i64 (fAt t.fls m).n1,.int .i64 (fAt t.fls m).n2])∧Below w.heap.size w w':=by
 obtain⟨b,a,rfl,u,U⟩:=zaO hf (by omega);obtain⟨⟨p0,p1,p2,p3,p4,p5,p6,p7,p8⟩,_⟩:=U m a2;obtain⟨N,k,rfl,V,L⟩:=zbF hd (by omega);obtain⟨n,hn⟩:∃n,d.length=n+1:=⟨d.length-1,by omega⟩;have T:(tAt d n).1=m:=by rw[show d.length-1=n by omega]at T;exact T
 have hq:(d.length:Int)-1=(n:Int):=by omega
 have a6:n<d.length:=by omega
 have a7:IntKind.i64.wrap (n:Int)=(n:Int):=by rw[IntKind.wrap_i64];omega
 clear hn;have t0:=(L n (by omega)).1;rw[T]at t0;clear U L T hf hd;go_enter func87,ntmps87
 go_wp2_with fail;have q:=I (ztS (J w (objT t P Q R S (some ⟨b,a,none⟩) fc)) (J _ (Obj.cells #[.string ⟨#[]⟩,.string ⟨#[]⟩,.string ⟨#[]⟩,.int .i64 0,.int .i64 0,.string ⟨#[]⟩,.int .i64 0,.int .i64 0,.int .i64 0] 95)));have QT:=I (zd (o':=(Obj.cells #[.string ⟨#[]⟩,.string ⟨#[]⟩,.string ⟨#[]⟩,.int .i64 0,.int .i64 0,.string ⟨#[]⟩,.int .i64 0,.int .i64 0,.int .i64 0] 95)) (zh w (objT t P Q R S (some ⟨b,a,none⟩) fc)));have Y:=I (zh (w.alloc (objT t P Q R S (some ⟨b,a,none⟩) fc)) (Obj.cells #[.string ⟨#[]⟩,.string ⟨#[]⟩,.string ⟨#[]⟩,.int .i64 0,.int .i64 0,.string ⟨#[]⟩,.int .i64 0,.int .i64 0,.int .i64 0] 95));rw[zr]at Y;obtain⟨f,s⟩:∃f,f=w.heap.size+1:=⟨_,rfl⟩;rw[←s]at Y;simp only[←s];have l:w.heap.size≤f:=by omega
 clear s;generalize (w.alloc (objT t P Q R S (some ⟨b,a,none⟩) fc)).alloc (Obj.cells #[.string ⟨#[]⟩,.string ⟨#[]⟩,.string ⟨#[]⟩,.int .i64 0,.int .i64 0,.string ⟨#[]⟩,.int .i64 0,.int .i64 0,.int .i64 0] 95)=W at*;have u0:=zD p0 u q.1;have u1:=zD p1 u q.1;have u2:=zD p2 u q.1;have u3:=zD p3 u q.1;have u4:=zD p4 u q.1;have u5:=zD p5 u q.1;have u6:=zD p6 u q.1;have u7:=zD p7 u q.1;have u8:=zD p8 u q.1;have ut:=zD t0 V q.1;have Z:=ztU u q.1.size;have M:=ztU V q.1.size;have x2:=zC QT.1;have xl:=ztW QT.1;have rl:=ztW Y.1;have a0:=I q.1.drew;have c:ztR (W.drew.heap[f]?=some (.cells #[.string ⟨#[]⟩,.string ⟨#[]⟩,.string ⟨#[]⟩,.int .i64 0,.int .i64 0,.string ⟨#[]⟩,.int .i64 0,.int .i64 0,.int .i64 0] 95 (0,0))):=Y;have g:W.drew.cell? ⟨w.heap.size,2,none⟩=some (.slice (some ⟨b,a,none⟩) t.fls.length fc)∧W.drew.cell? ⟨N,k+n*2,none⟩=some (.int .i64 (m:Int))∧W.drew.cell? ⟨b,a+m*9,none⟩=some (.string (fAt t.fls m).num)∧W.drew.cell? ⟨b,a+m*9+1,none⟩=some (.string (fAt t.fls m).frm)∧W.drew.cell? ⟨b,a+m*9+2,none⟩=some (.string (fAt t.fls m).to)∧W.drew.cell? ⟨b,a+m*9+3,none⟩=some (.int .i64 (fAt t.fls m).dep)∧W.drew.cell? ⟨b,a+m*9+4,none⟩=some (.int .i64 (fAt t.fls m).arr)∧W.drew.cell? ⟨b,a+m*9+5,none⟩=some (.string (fAt t.fls m).typ)∧W.drew.cell? ⟨b,a+m*9+6,none⟩=some (.int .i64 (fAt t.fls m).n0)∧W.drew.cell? ⟨b,a+m*9+7,none⟩=some (.int .i64 (fAt t.fls m).n1)∧W.drew.cell? ⟨b,a+m*9+8,none⟩=some (.int .i64 (fAt t.fls m).n2):=⟨x2,ut,u0,u1,u2,u3,u4,u5,u6,u7,u8⟩;obtain⟨p,r⟩:∃p,W.drew=p:=⟨_,rfl⟩;rw[r]at a0 c g;have a8:w.heap.size<p.heap.size:=r ▸ xl;have a9:b<p.heap.size:=r ▸ Z;have a4:N<p.heap.size:=r ▸ M;clear Y QT x2 ut u0 u1 u2 u3 u4 u5 u6 u7 u8 xl rl Z M;refine zbD (fun w'=>w'.cell? ⟨w.heap.size,2,none⟩=some (.slice (some ⟨b,a,none⟩) t.fls.length fc)∧w'.cell? ⟨N,k+n*2,none⟩=some (.int .i64 (m:Int))∧w'.cell? ⟨b,a+m*9,none⟩=some (.string (fAt t.fls m).num)∧w'.cell? ⟨b,a+m*9+1,none⟩=some (.string (fAt t.fls m).frm)∧w'.cell? ⟨b,a+m*9+2,none⟩=some (.string (fAt t.fls m).to)∧w'.cell? ⟨b,a+m*9+3,none⟩=some (.int .i64 (fAt t.fls m).dep)∧w'.cell? ⟨b,a+m*9+4,none⟩=some (.int .i64 (fAt t.fls m).arr)∧w'.cell? ⟨b,a+m*9+5,none⟩=some (.string (fAt t.fls m).typ)∧w'.cell? ⟨b,a+m*9+6,none⟩=some (.int .i64 (fAt t.fls m).n0)∧w'.cell? ⟨b,a+m*9+7,none⟩=some (.int .i64 (fAt t.fls m).n1)∧w'.cell? ⟨b,a+m*9+8,none⟩=some (.int .i64 (fAt t.fls m).n2)) [11] (by kernel_rfl) r ?_;clear r;refine zx (i:=0) (v:=.pointer (some ⟨w.heap.size,2,none⟩)) rfl (fun w' hS'=>?_) g ?_
 · obtain⟨x,y,z,A,B,C,D,E,F,G,j⟩:=hS';go_simp
 try simp only[Act.put,O]
 refine zx (i:=1) (v:=.slice (some ⟨b,a,none⟩) t.fls.length fc) rfl (fun w' hS'=>?_) g ?_
 · obtain⟨x,y,z,A,B,C,D,E,F,G,j⟩:=hS';go_simp
 try simp only[Act.put,O]
 refine zx (i:=2) (v:=.slice (some ⟨N,k,none⟩) d.length dc) rfl (fun w' hS'=>?_) g ?_
 · obtain⟨x,y,z,A,B,C,D,E,F,G,j⟩:=hS';go_simp
 try simp only[Act.put,O]
 refine zx (i:=3) (v:=.slice (some ⟨N,k,none⟩) d.length dc) rfl (fun w' hS'=>?_) g ?_
 · obtain⟨x,y,z,A,B,C,D,E,F,G,j⟩:=hS';go_simp
 try simp only[Act.put,O]
 refine zx (i:=4) (v:=.int .i64 (d.length:Int)) rfl (fun w' hS'=>?_) g ?_
 · obtain⟨x,y,z,A,B,C,D,E,F,G,j⟩:=hS';go_simp
 try simp only[Act.put,O]
 refine zx (i:=5) (v:=.int .i64 (n:Int)) rfl (fun w' hS'=>?_) g ?_
 · obtain⟨x,y,z,A,B,C,D,E,F,G,j⟩:=hS';go_simp
 try simp only[Act.put,O]
 refine zx (i:=6) (v:=.pointer (some ⟨N,k+n*2,none⟩)) rfl (fun w' hS'=>?_) g ?_
 · obtain⟨x,y,z,A,B,C,D,E,F,G,j⟩:=hS';go_simp
 try simp only[Act.put,O]
 refine zx (i:=7) (v:=.pointer (some ⟨N,k+n*2,none⟩)) rfl (fun w' hS'=>?_) g ?_
 · obtain⟨x,y,z,A,B,C,D,E,F,G,j⟩:=hS';go_simp
 try simp only[Act.put,O]
 refine zx (i:=8) (v:=.int .i64 (m:Int)) rfl (fun w' hS'=>?_) g ?_
 · obtain⟨x,y,z,A,B,C,D,E,F,G,j⟩:=hS';go_simp
 try simp only[Act.put,O]
 refine zx (i:=9) (v:=.pointer (some ⟨b,a+m*9,none⟩)) rfl (fun w' hS'=>?_) g ?_
 · obtain⟨x,y,z,A,B,C,D,E,F,G,j⟩:=hS';go_simp
 try simp only[Act.put,O]
 refine zx (i:=10) (v:=.agg #[.string (fAt t.fls m).num,.string (fAt t.fls m).frm,.string (fAt t.fls m).to,.int .i64 (fAt t.fls m).dep,.int .i64 (fAt t.fls m).arr,.string (fAt t.fls m).typ,.int .i64 (fAt t.fls m).n0,.int .i64 (fAt t.fls m).n1,.int .i64 (fAt t.fls m).n2]) rfl (fun w' hS'=>?_) g ?_
 · obtain⟨x,y,z,A,B,C,D,E,F,G,j⟩:=hS';go_simp
 try simp only[Act.put,O]
 have z0:=zw c.1;have f0:p.frozen? ⟨f,0,none⟩=false:=zQ c.1;have z1:=zu c.1;have f1:p.frozen? ⟨f,1,none⟩=false:=zQ c.1;have z2:=zC c.1;have f2:p.frozen? ⟨f,2,none⟩=false:=zQ c.1;have z3:=zaj c.1;have f3:p.frozen? ⟨f,3,none⟩=false:=zQ c.1;have z4:=zbe c.1;have f4:p.frozen? ⟨f,4,none⟩=false:=zQ c.1;have z5:=zbn c.1;have f5:p.frozen? ⟨f,5,none⟩=false:=zQ c.1;have z6:=zbm c.1;have f6:p.frozen? ⟨f,6,none⟩=false:=zQ c.1;have z7:=zaK c.1;have f7:p.frozen? ⟨f,7,none⟩=false:=zQ c.1;have z8:=zaX c.1;have f8:p.frozen? ⟨f,8,none⟩=false:=zQ c.1;have b0:=ztW c.1;refine zo (i:=11) (o:={dst:=none,op:=Op.store 95 (Operand.tmp 4) (Operand.tmp 15),type:=0,pos:= "measure.go:53",after:=_,guard:=none}) (by kernel_rfl) rfl (by rfl) (fun K hK=>?_);go_simp;refine hK.1 _ _ (fun h _=>absurd (by decide:(11:Nat)∈ [11]) h) ?_;clear hK K z0 f0 z1 f1 z2 f2 z3 f3 z4 f4 z5 f5 z6 f6 z7 f7 z8 f8 g;try simp only[Act.put,O]
 refine zM (by kernel_rfl) ?_;go_wp2_with fail;have Q0:=c.1;have H:=set9 (.string (fAt t.fls m).num) (.string (fAt t.fls m).frm) (.string (fAt t.fls m).to) (.int .i64 (fAt t.fls m).dep) (.int .i64 (fAt t.fls m).arr) (.string (fAt t.fls m).typ) (.int .i64 (fAt t.fls m).n0) (.int .i64 (fAt t.fls m).n1) (.int .i64 (fAt t.fls m).n2) Q0;have a3:Below w.heap.size w (((((((((p.setCell ⟨f,0,none⟩ (.string (fAt t.fls m).num)).setCell ⟨f,1,none⟩ (.string (fAt t.fls m).frm)).setCell ⟨f,2,none⟩ (.string (fAt t.fls m).to)).setCell ⟨f,3,none⟩ (.int .i64 (fAt t.fls m).dep)).setCell ⟨f,4,none⟩ (.int .i64 (fAt t.fls m).arr)).setCell ⟨f,5,none⟩ (.string (fAt t.fls m).typ)).setCell ⟨f,6,none⟩ (.int .i64 (fAt t.fls m).n0)).setCell ⟨f,7,none⟩ (.int .i64 (fAt t.fls m).n1)).setCell ⟨f,8,none⟩ (.int .i64 (fAt t.fls m).n2)):=(((((((((a0.1.setCell l _).setCell l _).setCell l _).setCell l _).setCell l _).setCell l _).setCell l _).setCell l _).setCell l _);generalize (((((((((p.setCell ⟨f,0,none⟩ (.string (fAt t.fls m).num)).setCell ⟨f,1,none⟩ (.string (fAt t.fls m).frm)).setCell ⟨f,2,none⟩ (.string (fAt t.fls m).to)).setCell ⟨f,3,none⟩ (.int .i64 (fAt t.fls m).dep)).setCell ⟨f,4,none⟩ (.int .i64 (fAt t.fls m).arr)).setCell ⟨f,5,none⟩ (.string (fAt t.fls m).typ)).setCell ⟨f,6,none⟩ (.int .i64 (fAt t.fls m).n0)).setCell ⟨f,7,none⟩ (.int .i64 (fAt t.fls m).n1)).setCell ⟨f,8,none⟩ (.int .i64 (fAt t.fls m).n2))=X at*;have r0:=zw H;have r1:=zu H;have r2:=zC H;have r3:=zaj H;have r4:=zbe H;have r5:=zbn H;have r6:=zbm H;have r7:=zaK H;have r8:=zaX H;clear Q0 H;refine bodyPost_ret (v:=.agg #[.string (fAt t.fls m).num,.string (fAt t.fls m).frm,.string (fAt t.fls m).to,.int .i64 (fAt t.fls m).dep,.int .i64 (fAt t.fls m).arr,.string (fAt t.fls m).typ,.int .i64 (fAt t.fls m).n0,.int .i64 (fAt t.fls m).n1,.int .i64 (fAt t.fls m).n2]) (by simp[results,results87,go_sem,r0,r1,r2,r3,r4,r5,r6,r7,r8]) rfl ?_;exact⟨rfl,a3⟩
theorem zhi(t:TTM)(c:ConM)(l:zua)(m:Nat)(n:zua)(q:Nat)(fa:zua)(fc:Nat)(p:ConP)(w:World)(hT:zY t=0)(hC:valT c=0)(hf:SlAt zam w fa t.fls)(d:Duty)(H:zua)(U:Nat)(L:za6 t c d=0)(hd:SlAt za3 w H d):
 Calls prog 49 #[.agg #[.slice l t.zones.length m,.slice n t.airs.length q,.slice fa t.fls.length fc],.agg #[.int .i64 c.report,.int .i64 c.release,.int .i64 c.connect,.int .i64 c.sit,.int .i64 c.layover,.int .i64 c.nf,.int .i64 c.nt,.slice p.ca c.consts.length p.cc,.slice p.ra c.rules.length p.rc,.slice p.ka c.costs.length p.kc,.slice p.xa c.credit.length p.xc,.slice p.la c.lims.length p.lc,.slice p.oa c.offs.length p.oc,.int .i64 c.guar],.slice H d.length U] w fun e w'=>e=.returned (.agg #[.int .i64 (zcK t c d).1,.int .i64 (zcK t c d).2])∧Below w.heap.size w w':=by
 obtain⟨a4,Y,a5,Z⟩:=zfN L;obtain⟨a9,b0,_,_⟩:=zcp L;have ta:=zas hT Y;have tz:=zas hT Z;obtain⟨b1,b2,_⟩:=zdl hC;have B:=(zcJ hT).2.2;have b3:IntKind.i64.wrap ((fAt t.fls (fstN d)).dep-c.report)=((fAt t.fls (fstN d)).dep-c.report):=by rw[IntKind.wrap_i64];omega
 have b4:IntKind.i64.wrap ((fAt t.fls (lstN d)).arr+c.release)=((fAt t.fls (lstN d)).arr+c.release):=by rw[IntKind.wrap_i64];omega
 have HF:=I hf;have HD:=I hd;have b5:∀w:World,(Instr.field 95 (.agg #[.string (fAt t.fls (fstN d)).num,.string (fAt t.fls (fstN d)).frm,.string (fAt t.fls (fstN d)).to,.int .i64 (fAt t.fls (fstN d)).dep,.int .i64 (fAt t.fls (fstN d)).arr,.string (fAt t.fls (fstN d)).typ,.int .i64 (fAt t.fls (fstN d)).n0,.int .i64 (fAt t.fls (fstN d)).n1,.int .i64 (fAt t.fls (fstN d)).n2]) 3).run prog w=.ok (.int .i64 (fAt t.fls (fstN d)).dep) w:=fun _=>by kernel_rfl
 have b6:∀w:World,(Instr.field 95 (.agg #[.string (fAt t.fls (lstN d)).num,.string (fAt t.fls (lstN d)).frm,.string (fAt t.fls (lstN d)).to,.int .i64 (fAt t.fls (lstN d)).dep,.int .i64 (fAt t.fls (lstN d)).arr,.string (fAt t.fls (lstN d)).typ,.int .i64 (fAt t.fls (lstN d)).n0,.int .i64 (fAt t.fls (lstN d)).n1,.int .i64 (fAt t.fls (lstN d)).n2]) 4).run prog w=.ok (.int .i64 (fAt t.fls (lstN d)).arr) w:=fun _=>by kernel_rfl
 show Calls prog 49 #[.agg #[.slice l t.zones.length m,.slice n t.airs.length q,.slice fa t.fls.length fc],.agg #[.int .i64 c.report,.int .i64 c.release,.int .i64 c.connect,.int .i64 c.sit,.int .i64 c.layover,.int .i64 c.nf,.int .i64 c.nt,.slice p.ca c.consts.length p.cc,.slice p.ra c.rules.length p.rc,.slice p.ka c.costs.length p.kc,.slice p.xa c.credit.length p.xc,.slice p.la c.lims.length p.lc,.slice p.oa c.offs.length p.oc,.int .i64 c.guar],.slice H d.length U] w fun e w'=>e=.returned (.agg #[.int .i64 ((fAt t.fls (fstN d)).dep-c.report),.int .i64 ((fAt t.fls (lstN d)).arr+c.release)])∧Below w.heap.size w w'
 clear hf hd L hT hC;go_enter func49,ntmps49
 go_wp2_with fail;have HB:=I (ztS (ztS (J w (objT t l m n q fa fc)) (J _ (objC c p))) (J _ zjC));have QT:=I (zd (o':=zjC) (zd (o':=(objC c p)) (zh w (objT t l m n q fa fc))));have V:=I (zd (o':=zjC) (zh (w.alloc (objT t l m n q fa fc)) (objC c p)));have QR:=I (zh ((w.alloc (objT t l m n q fa fc)).alloc (objC c p)) (Obj.cells #[.int .i64 0,.int .i64 0] 40));rw[zr]at V;rw[zr,zr]at QR;obtain⟨z,C⟩:∃z,z=w.heap.size+1+1:=⟨_,rfl⟩;obtain⟨A,M⟩:∃A,A=w.heap.size+1:=⟨_,rfl⟩;rw[←C]at QR;rw[←M]at V;simp only[←C];simp only[←M];have a0:w.heap.size≤z:=by omega
 clear C M;generalize ((w.alloc (objT t l m n q fa fc)).alloc (objC c p)).alloc (Obj.cells #[.int .i64 0,.int .i64 0] 40)=W at*;have f:W.drew.cell? ⟨w.heap.size,0,none⟩=some (.slice l t.zones.length m)∧W.drew.cell? ⟨w.heap.size,1,none⟩=some (.slice n t.airs.length q)∧W.drew.cell? ⟨w.heap.size,2,none⟩=some (.slice fa t.fls.length fc)∧W.drew.cell? ⟨A,0,none⟩=some (.int .i64 c.report)∧W.drew.cell? ⟨A,1,none⟩=some (.int .i64 c.release):=⟨zm (j:=0) QT.1 rfl,zm (j:=1) QT.1 rfl,zm (j:=2) QT.1 rfl,zm (j:=0) V.1 rfl,zm (j:=1) V.1 rfl⟩;have k:w.heap.size<W.drew.heap.size:=ztW QT.1;have s:A<W.drew.heap.size:=ztW V.1;have x:=I HB.1.drew;have G:ztR (W.drew.heap[z]?=some (.cells #[.int .i64 0,.int .i64 0] 40 (0,0))):=QR;obtain⟨Wd,N⟩:∃Wd,W.drew=Wd:=⟨_,rfl⟩;rw[N]at f k s x G;clear QT V QR HB;refine zbD (fun w'=>w'.cell? ⟨w.heap.size,0,none⟩=some (.slice l t.zones.length m)∧w'.cell? ⟨w.heap.size,1,none⟩=some (.slice n t.airs.length q)∧w'.cell? ⟨w.heap.size,2,none⟩=some (.slice fa t.fls.length fc)∧w'.cell? ⟨A,0,none⟩=some (.int .i64 c.report)∧w'.cell? ⟨A,1,none⟩=some (.int .i64 c.release)) [15] (by kernel_rfl) N ?_;clear N;refine zx (i:=0) (v:=.agg #[.slice l t.zones.length m,.slice n t.airs.length q,.slice fa t.fls.length fc]) rfl (fun w' hS'=>?_) f ?_
 · obtain⟨P,Q,R,S,T⟩:=hS';go_simp
 try simp only[Act.put,O]
 refine zx (i:=1) (v:=.slice H d.length U) rfl (fun w' hS'=>?_) f ?_
 · obtain⟨P,Q,R,S,T⟩:=hS';go_simp
 try simp only[Act.put,O]
 refine zx (i:=4) (v:=.pointer (some ⟨A,0,none⟩)) rfl (fun w' hS'=>?_) f ?_
 · obtain⟨P,Q,R,S,T⟩:=hS';go_simp
 try simp only[Act.put,O]
 refine zx (i:=5) (v:=.int .i64 c.report) rfl (fun w' hS'=>?_) f ?_
 · obtain⟨P,Q,R,S,T⟩:=hS';go_simp
 try simp only[Act.put,O]
 refine zx (i:=7) (v:=.agg #[.slice l t.zones.length m,.slice n t.airs.length q,.slice fa t.fls.length fc]) rfl (fun w' hS'=>?_) f ?_
 · obtain⟨P,Q,R,S,T⟩:=hS';go_simp
 try simp only[Act.put,O]
 refine zx (i:=8) (v:=.slice H d.length U) rfl (fun w' hS'=>?_) f ?_
 · obtain⟨P,Q,R,S,T⟩:=hS';go_simp
 try simp only[Act.put,O]
 refine zx (i:=11) (v:=.pointer (some ⟨A,1,none⟩)) rfl (fun w' hS'=>?_) f ?_
 · obtain⟨P,Q,R,S,T⟩:=hS';go_simp
 try simp only[Act.put,O]
 refine zx (i:=12) (v:=.int .i64 c.release) rfl (fun w' hS'=>?_) f ?_
 · obtain⟨P,Q,R,S,T⟩:=hS';go_simp
 try simp only[Act.put,O]
 refine zo (i:=2) (o:={dst:=some 9,op:=Op.call {callee:=Callee.value (Operand.func 86),args:=#[Operand.tmp 7,Operand.tmp 8],argTypes:=#[26,36]},type:=95,pos:= "measure.go:57",after:=_,guard:=none}) (by kernel_rfl) rfl (by rfl) (fun K hK=>?_);go_simp;refine(ziT t l m n q fa fc Wd (HF.1.below x.1) B d H U ⟨by omega,by omega⟩ (HD.1.below x.1) (fstN d) a4 Y).mono ?_;rintro e X ⟨rfl,a⟩;have r:X.cell? ⟨w.heap.size,0,none⟩=some (.slice l t.zones.length m)∧X.cell? ⟨w.heap.size,1,none⟩=some (.slice n t.airs.length q)∧X.cell? ⟨w.heap.size,2,none⟩=some (.slice fa t.fls.length fc)∧X.cell? ⟨A,0,none⟩=some (.int .i64 c.report)∧X.cell? ⟨A,1,none⟩=some (.int .i64 c.release):=⟨zD f.1 k a,zD f.2.1 k a,zD f.2.2.1 k a,zD f.2.2.2.1 s a,zD f.2.2.2.2 s a⟩;have y:=ztU k a.size;have D:=ztU s a.size;have E:=I (ztS x.1 a);have a1:=I (blkA a G.1);clear a;refine hK.1 _ _ (fun _ _=>r) ?_;clear hK K;try simp only[Act.put,O]
 refine zT (i:=3) (v:=.int .i64 (fAt t.fls (fstN d)).dep) rfl (fun w'=>?_) ?_
 · go_simp
 try simp only[Act.put,O]
 refine zT (i:=6) (v:=.int .i64 ((fAt t.fls (fstN d)).dep-c.report)) rfl (fun w'=>?_) ?_
 · go_simp
 try simp only[Act.put,O]
 refine zo (i:=9) (o:={dst:=some 16,op:=Op.call {callee:=Callee.value (Operand.func 87),args:=#[Operand.tmp 14,Operand.tmp 15],argTypes:=#[26,36]},type:=95,pos:= "measure.go:57",after:=_,guard:=none}) (by kernel_rfl) rfl (by rfl) (fun K hK=>?_);go_simp;refine(zlb t l m n q fa fc X (HF.1.below E.1) B d H U ⟨by omega,by omega⟩ (HD.1.below E.1) (lstN d) a5 Z).mono ?_;rintro e F ⟨rfl,b⟩;have a2:F.cell? ⟨w.heap.size,0,none⟩=some (.slice l t.zones.length m)∧F.cell? ⟨w.heap.size,1,none⟩=some (.slice n t.airs.length q)∧F.cell? ⟨w.heap.size,2,none⟩=some (.slice fa t.fls.length fc)∧F.cell? ⟨A,0,none⟩=some (.int .i64 c.report)∧F.cell? ⟨A,1,none⟩=some (.int .i64 c.release):=⟨zD r.1 y b,zD r.2.1 y b,zD r.2.2.1 y b,zD r.2.2.2.1 D b,zD r.2.2.2.2 D b⟩;have a7:=ztU y b.size;have a8:=ztU D b.size;have a3:=I (ztS E.1 b);have g:=I (blkA b a1.1);clear b;refine hK.1 _ _ (fun _ _=>a2) ?_;clear hK K;try simp only[Act.put,O]
 refine zT (i:=10) (v:=.int .i64 (fAt t.fls (lstN d)).arr) rfl (fun w'=>?_) ?_
 · go_simp
 try simp only[Act.put,O]
 refine zT (i:=13) (v:=.int .i64 ((fAt t.fls (lstN d)).arr+c.release)) rfl (fun w'=>?_) ?_
 · go_simp
 try simp only[Act.put,O]
 refine zT (i:=14) (v:=.agg #[.int .i64 ((fAt t.fls (fstN d)).dep-c.report),.int .i64 ((fAt t.fls (lstN d)).arr+c.release)]) rfl (fun w'=>?_) ?_
 · go_simp
 try simp only[Act.put,O]
 have z0:=zw g.1;have z1:=zu g.1;have f0:F.frozen? ⟨z,0,none⟩=false:=zQ g.1;have f1:F.frozen? ⟨z,1,none⟩=false:=zQ g.1;have rl:=ztW g.1;refine zo (i:=15) (o:={dst:=none,op:=Op.store 40 (Operand.tmp 6) (Operand.tmp 21),type:=0,pos:= "measure.go:57",after:=_,guard:=none}) (by kernel_rfl) rfl (by rfl) (fun K hK=>?_);go_simp;refine hK.1 _ _ (fun h _=>absurd (by decide:(15:Nat)∈ [15]) h) ?_;clear hK K z0 z1 f0 f1 f r a2;try simp only[Act.put,O]
 refine zM (by kernel_rfl) ?_;go_wp2_with fail;have Q1:(F.setCell ⟨z,0,none⟩ (.int .i64 ((fAt t.fls (fstN d)).dep-c.report))).heap[z]?=some (.cells #[.int .i64 ((fAt t.fls (fstN d)).dep-c.report),.int .i64 0] 40 (0,0)):=zg (i:=0) (u:=.int .i64 ((fAt t.fls (fstN d)).dep-c.report)) g.1;have Q2:((F.setCell ⟨z,0,none⟩ (.int .i64 ((fAt t.fls (fstN d)).dep-c.report))).setCell ⟨z,1,none⟩ (.int .i64 ((fAt t.fls (lstN d)).arr+c.release))).heap[z]?=some (.cells #[.int .i64 ((fAt t.fls (fstN d)).dep-c.report),.int .i64 ((fAt t.fls (lstN d)).arr+c.release)] 40 (0,0)):=zg (i:=1) (u:=.int .i64 ((fAt t.fls (lstN d)).arr+c.release)) Q1;have r0:=zw Q2;have r1:=zu Q2;have a6:Below w.heap.size w ((F.setCell ⟨z,0,none⟩ (.int .i64 ((fAt t.fls (fstN d)).dep-c.report))).setCell ⟨z,1,none⟩ (.int .i64 ((fAt t.fls (lstN d)).arr+c.release))):=((a3.1.setCell a0 _).setCell a0 _);refine bodyPost_ret (v:=.agg #[.int .i64 ((fAt t.fls (fstN d)).dep-c.report),.int .i64 ((fAt t.fls (lstN d)).arr+c.release)]) (by simp[results,results49,go_sem,r0,r1]) rfl ?_;exact⟨rfl,a6⟩
def spR(t:TTM)(c:ConM)(d:Duty):Int×Int:=if dErr t c d=0 then zcK t c d else(0,0)
theorem zd0{t:TTM}{c:ConM}{d:Duty}(h:dErr t c d=0):zY t=0∧valT c=0∧za6 t c d=0:=by
 unfold dErr at h
 by_cases a:zY t=0
 · by_cases b:valT c=0
   · simp[a,b]at h;exact⟨a,b,h⟩
   simp[a,b]at h
 simp[a]at h
theorem zjV(t:TTM)(c:ConM)(m:zua)(k:Nat)(n:zua)(l:Nat)(fa:zua)(fc:Nat)(p:ConP)(w:World)(E:(t.zones.length≤k∧k≤140737488355328∧t.airs.length≤l∧l≤140737488355328))(P:c.consts.length≤p.cc∧p.cc≤140737488355328)(F:TCAt w t c m n fa p)(d:Duty)(K:zua)(Q:Nat)(R:d.length≤140737488355328)(hd:SlAt za3 w K d):
 Calls prog 12 #[.agg #[.slice m t.zones.length k,.slice n t.airs.length l,.slice fa t.fls.length fc],.agg #[.int .i64 c.report,.int .i64 c.release,.int .i64 c.connect,.int .i64 c.sit,.int .i64 c.layover,.int .i64 c.nf,.int .i64 c.nt,.slice p.ca c.consts.length p.cc,.slice p.ra c.rules.length p.rc,.slice p.ka c.costs.length p.kc,.slice p.xa c.credit.length p.xc,.slice p.la c.lims.length p.lc,.slice p.oa c.offs.length p.oc,.int .i64 c.guar],.slice K d.length Q] w fun e w'=>e=.returned (.tuple #[.agg #[.int .i64 (spR t c d).1,.int .i64 (spR t c d).2],.int .i64 (dErr t c d)])∧Below w.heap.size w w':=by
 have HT:=I F;have HD:=I hd;clear F hd;go_enter func12,ntmps12
 go_wp2_with fail;have L:=I (ztS (ztS (J w (objT t m k n l fa fc)) (J _ (objC c p))) (J _ zjC));have QT:=I (zd (o':=zjC) (zd (o':=(objC c p)) (zh w (objT t m k n l fa fc))));have M:=I (zd (o':=zjC) (zh (w.alloc (objT t m k n l fa fc)) (objC c p)));have N:=I (zh ((w.alloc (objT t m k n l fa fc)).alloc (objC c p)) (Obj.cells #[.int .i64 0,.int .i64 0] 40));rw[zr]at M;rw[zr,zr]at N;obtain⟨a,h⟩:∃a,a=w.heap.size+1+1:=⟨_,rfl⟩;obtain⟨cb,x⟩:∃cb,cb=w.heap.size+1:=⟨_,rfl⟩;rw[←h]at N;rw[←x]at M;simp only[←h];simp only[←x];have o:w.heap.size≤a:=by omega
 clear h x;generalize ((w.alloc (objT t m k n l fa fc)).alloc (objC c p)).alloc (Obj.cells #[.int .i64 0,.int .i64 0] 40)=W at*;refine(zdk t c m k n l fa fc p W E P (HT.1.below L.1) d K Q R (HD.1.below L.1)).mono ?_;rintro e D ⟨rfl,j⟩;have q:=I (ztS L.1 j);have S:=I (blkA j QT.1);have T:=I (blkA j M.1);have b:=I (blkA j N.1);clear j L QT M N;by_cases s:dErr t c d=0
 · have U:=I (show spR t c d=zcK t c d from if_pos s);have E0:=I s;obtain⟨hT,hC,hE⟩:=zd0 s;have CS:=I (zhi t c m k n l fa fc p D hT hC (HT.1.below q.1).f d K Q hE (HD.1.below q.1));clear hT hC hE;obtain⟨x0,x1,x2,xl⟩:=zdn S.1;obtain⟨y0,y1,y2,y3,y4,y5,y6,y7,y8,y9,a0,a1,a2,a3,yl⟩:=zbZ T.1;rw[s];clear s;go_wp2_with fail;refine CS.1.mono ?_;rintro e G ⟨rfl,y⟩;have V:=I (ztS q.1 y);have g:=I (blkA y b.1);clear y CS;obtain⟨r,z⟩:∃r,r=(zcK t c d).1:=⟨_,rfl⟩;obtain⟨A,B⟩:∃A,A=(zcK t c d).2:=⟨_,rfl⟩;simp only[←z,←B];have HS:=I (And.intro z B);clear z B;have X:=zw g.1;have Y:=zu g.1;have Z:G.frozen? ⟨a,0,none⟩=false:=zQ g.1;have f1:G.frozen? ⟨a,1,none⟩=false:=zQ g.1;have rl:=ztW g.1;go_wp2_with fail;clear X Y Z f1;have Q1:(G.setCell ⟨a,0,none⟩ (.int .i64 r)).heap[a]?=some (.cells #[.int .i64 r,.int .i64 0] 40 (0,0)):=zg (i:=0) (u:=.int .i64 r) g.1;have H:((G.setCell ⟨a,0,none⟩ (.int .i64 r)).setCell ⟨a,1,none⟩ (.int .i64 A)).heap[a]?=some (.cells #[.int .i64 r,.int .i64 A] 40 (0,0)):=zg (i:=1) (u:=.int .i64 A) Q1;have r0:=zw H;have r1:=zu H;have C:Below w.heap.size w ((G.setCell ⟨a,0,none⟩ (.int .i64 r)).setCell ⟨a,1,none⟩ (.int .i64 A)):=((V.1.setCell o _).setCell o _);refine bodyPost_ret (v:=.tuple #[.agg #[.int .i64 r,.int .i64 A],.int .i64 0]) (by simp[results,results12,go_sem,r0,r1]) rfl ?_;exact⟨by rw[U.1,E0.1,HS.1.1,HS.1.2],C⟩
 have U:=I (show spR t c d=(0,0) from if_neg s);have e1:(dErr t c d !=0)=true:=by simpa using s
 clear s;have X:=zw b.1;have Y:=zu b.1;have Z:D.frozen? ⟨a,0,none⟩=false:=zQ b.1;have f1:D.frozen? ⟨a,1,none⟩=false:=zQ b.1;have rl:=ztW b.1;go_wp2_with fail;clear X Y Z f1;have Q1:(D.setCell ⟨a,0,none⟩ (.int .i64 0)).heap[a]?=some (.cells #[.int .i64 0,.int .i64 0] 40 (0,0)):=zg (i:=0) (u:=.int .i64 0) b.1;have H:((D.setCell ⟨a,0,none⟩ (.int .i64 0)).setCell ⟨a,1,none⟩ (.int .i64 0)).heap[a]?=some (.cells #[.int .i64 0,.int .i64 0] 40 (0,0)):=zg (i:=1) (u:=.int .i64 0) Q1;have r0:=zw H;have r1:=zu H;have C:Below w.heap.size w ((D.setCell ⟨a,0,none⟩ (.int .i64 0)).setCell ⟨a,1,none⟩ (.int .i64 0)):=((q.1.setCell o _).setCell o _);refine bodyPost_ret (v:=.tuple #[.agg #[.int .i64 0,.int .i64 0],.int .i64 (dErr t c d)]) (by simp[results,results12,go_sem,r0,r1]) rfl ?_;exact⟨by rw[U.1],C⟩
end Go.Proofs.YtdolonpblgfjdaaGreat
