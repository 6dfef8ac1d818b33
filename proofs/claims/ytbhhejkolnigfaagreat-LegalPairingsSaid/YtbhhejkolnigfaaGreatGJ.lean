/- a part of the proof -/
import Derived.Test.YtbhhejkolnigfaaGreatGI
import Derived.Test.YtbhhejkolnigfaaGreatGC
import Derived.Test.YtbhhejkolnigfaaGreatGZ
import Derived.Test.YtbhhejkolnigfaaGreatGD
set_option linter.unusedVariables false
set_option linter.unusedSimpArgs false
set_option maxRecDepth 100000
set_option maxHeartbeats 51200000
namespace Go.Proofs.YtbhhejkolnigfaaGreat
open Go.RowKit Go.Sort Go.Proofs.Tryz
theorem zqK{l:List zB}{n i:Nat}(h:i<n):csAt (l.take n) i=csAt l i:=by
 unfold csAt;rw[zt0,zt0,List.getElem?_take,if_pos h]
theorem zhC(l:List zB)(n m:Nat)(b:m<=n)(h:∀j,j<m->ctyp (l.take n) j=ctyp l j):lkC (l.take n) m=lkC l m:=by
 funext s
 unfold lkC
 rw[zhK];cases fi l s with
 |none=>rfl
 |some j=>
  by_cases g:j<m
  . have a:j<n:=by omega
    simp[g,a,h j g]
  by_cases a:j<n
  . simp[g,a]
  simp[g,a]
theorem zqJ(l:List zB)(n i:Nat)(a:i<n):ctyp (l.take n) i=ctyp l i:=by
 induction i using Nat.strongRecOn with
 |_ i ih=>
  rw[zge,zge,zqK a,zhC l n i (by omega) (λj hj=>ih j hj (by omega))]
theorem zkI(l:List zB)(n:Nat)(a:Int)(x:zH):typX (l.take n) n a x=typX l n a x:=by
 unfold typX
 rw[zhC l n n (ztY _) (λj hj=>zqJ l n j hj)]
theorem zkJ(l:List zB)(i:Nat):typX l i 0 (csAt l i).ex=ctyp l i:=by rw[zge];rfl
theorem zgl:∀(l:List zcx) (acc:List (Int×ByteArray)),zbW acc l=0->∀k,k<l.length->1<=(rlAt l k).scope/\(rlAt l k).scope<=3
 |[],_,_,k,hk=>by simp at hk
 |x::l,acc,h,k,hk=>by
  rw[zbW]at h;by_cases a:(btwB x.scope 1 3&&zZ x.name)=false
  . rw[if_pos a]at h;omega
  rw[if_neg a]at h;by_cases c:hasR acc x.scope x.name=true
  . rw[if_pos c]at h;omega
  rw[if_neg c]at h;by_cases b:valE x.ex≠0
  . rw[if_pos b]at h;exact absurd h b
  rw[if_neg b]at h;cases k with
  |zero=>
   have:btwB x.scope 1 3=true:=by
    cases d:btwB x.scope 1 3
    . rw[d]at a;exact absurd rfl a
    rfl
   exact zbz.1 this
  |succ k=>exact zgl l _ h k (by simpa using hk)
theorem zgm:∀(l:List zdw),zcv l=0->∀k,k<l.length->1<=(coAt l k).scope/\(coAt l k).scope<=3
 |[],_,k,hk=>by simp at hk
 |x::l,h,k,hk=>by
  rw[zcv]at h;by_cases a:btwB x.scope 1 3=false
  . rw[if_pos a]at h;omega
  rw[if_neg a]at h;by_cases b:valE x.ex≠0
  . rw[if_pos b]at h;exact absurd h b
  rw[if_neg b]at h;cases k with
  |zero=>
   have:btwB x.scope 1 3=true:=by
    cases c:btwB x.scope 1 3
    . exact absurd c a
    rfl
   exact zbz.1 this
  |succ k=>exact zgm l h k (by simpa using hk)
theorem zri{c:ConM}(h:valG c=0):zdP c=true/\zbW [] c.rules=0/\zcv c.costs=0:=by
 unfold valG at h
 by_cases f:zcy c=false
 . rw[if_pos f]at h;omega
 rw[if_neg f]at h;by_cases b:zdP c=false
 . rw[if_pos b]at h;omega
 rw[if_neg b]at h;by_cases d:zcw [] c.consts≠0
 . rw[if_pos d]at h;exact absurd h d
 rw[if_neg d]at h;by_cases a:zbW [] c.rules≠0
 . rw[if_pos a]at h;exact absurd h a
 rw[if_neg a]at h;by_cases e:zcv c.costs≠0
 . rw[if_pos e]at h;exact absurd h e
 refine⟨?_,Classical.not_not.1 a,Classical.not_not.1 e⟩;cases g:zdP c
 . exact absurd g b
 rfl
theorem zlE(c:ConM)(p:ConP)(w:World)(B:Nat)(M:B<=w.heap.size)(R:c.consts.length<=p.cc/\p.cc<=140737488355328)(ha:zdr B w c p):
 Calls prog 79 #[aggC c p] w λe w'=>e=.returned (valT c)/\Bw w w':=by
 try delta aggC aggT
 have d1:=ha.rules.1;have d2:=ha.costs.1;have d3:=ha.creditN;have d4:=I ha.creditF;have HA:=I ha;clear ha;go_enter func79,ntmps79
 go_wp2_with fail;have HX:=I (zh w (objC c p));have HB:=I (J w (objC c p));generalize w.alloc (objC c p)=W at*;refine ca (zg7 c p W B (ztV M HB.1.size) (HA.1.keep (HB.1.mono M))) λw1 a7=>?_;have a8:=I (ztS HB.1 a7);have a3:=I (blkA a7 HX.1);clear a7 HB HX;by_cases eG:valG c=0
 case neg=>
  have P:=I (show valT c=valG c from if_pos eG);have n:(valG c !=0)=true:=by simpa using eG
  clear eG;go_wp2_with fail;go_ret;exact⟨ze P.1.symm,a8.1⟩
 obtain⟨b3,b4,b5⟩:=zri eG;have a9:c.consts.length<=1000:=by simp[zdP]at b3;omega
 have c6:=I (λk (hk:k<c.rules.length)=>zgl c.rules [] b4 k hk);have c7:=I (λk (hk:k<c.costs.length)=>zgm c.costs b5 k hk);have Hv:=I (show valT c=if fstE (cErr c.consts) 0 (c.consts.length-0)≠0 then fstE (cErr c.consts) 0 (c.consts.length-0) else if fstE (rErr c) 0 (c.rules.length-0)≠0 then fstE (rErr c) 0 (c.rules.length-0) else if fstE (kErr c) 0 (c.costs.length-0)≠0 then fstE (kErr c) 0 (c.costs.length-0) else fstE (xErr c) 0 (c.credit.length-0) from if_neg (by simpa using eG));clear b3 b4 b5;rw[eG];clear eG;have H:=zaK a3.1;have N:=ztW a3.1;go_wp2_with fail;clear H N;go_loopw [4] (λi wr=>∃(k:Nat),k<=c.consts.length/\i=.int .i64 k/\ztR (fstE (cErr c.consts) 0 (c.consts.length-0)=fstE (cErr c.consts) k (c.consts.length-k))/\ztR (wr.heap[w.heap.size]?=some (objC c p))/\ztR (Bw w wr)) (λi _=>c.consts.length-(intOf i).toNat)
 case atStart=>exact⟨0,ztX _,rfl,I rfl,a3,a8⟩
 clear a3 a8;obtain⟨k,hk,rfl,E,r,a⟩:=hrel;have H:=zaK r.1;have N:=ztW r.1;by_cases f:k<c.consts.length
 . obtain⟨b,a4,j,hb,s⟩:=(HA.1.keep (a.1.mono M)).consts.cells (by omega);obtain⟨c0,c8,a2,t,⟨S,T,U,V⟩,h,d⟩:=s k f;have o:b<wr.heap.size:=by have:=a.1.size;omega
   rw[j]at H;have c9:=I j;have HF:=I h;have b6:=I d;clear j s d h;go_wp2_with fail;refine ca (zoo _ wr c8) λw2 q=>?_;have a5:=I (ztS a.1 q);have b7:=I (blkA q r.1);have u:B<=wr.heap.size:=ztV M a.1.size;have a6:=I (b6.1.keep (q.mono u));have y7:=zj H N q;have yl:w.heap.size<w2.heap.size:=ztU N q.size;have z1:=zj S o q;have z2:=zj T o q;have z3:=zj U o q;have z4:=zj V o q;have zb:b<w2.heap.size:=ztU o q.size;have b8:B<=w2.heap.size:=ztV u q.size;clear q c0 S T U V H N a r b6 o;cases eK:zen (csAt c.consts k).name
   . have G:=I (show cErr c.consts k=(ctyp c.consts k).2 by rw[cErr,eK];rfl);have b0:(c.consts.take k).length=k:=by rw[List.length_take];omega
     have F:=I (λdd os=>ztZ (zfd (c.consts.take k) (some ⟨b,a4,none⟩) p.cc B 0 (by decide) (csAt c.consts k).ex a2 t (grow (redrawn w2 dd) os) (ztV b8 (below_regrown w2 dd os).size) (by rw[b0];omega) (by rw[b0];omega) (zc4 (c9.1 ▸ (HA.1.keep ((ztS a5.1 (below_regrown w2 dd os)).mono M)).consts) k) HF.1 (a6.1.keep ((below_regrown w2 dd os).mono b8))));rw[b0,zkI,zkJ]at F;go_wp2_with fail;have r0:=λdd os=>cell_regrown y7 dd os
     have r1:=λdd os=>cell_regrown z1 dd os
     have r2:=λdd os=>cell_regrown z2 dd os
     have r3:=λdd os=>cell_regrown z3 dd os
     have r4:=λdd os=>cell_regrown z4 dd os
     refine wp_region_quiet_below (by kernel_rfl) (by kernel_rfl) ?_;repeat (first|go_big_quiet_step (first|(with_reducible exact F.1 _ _))|quiet_step (first|(with_reducible exact F.1 _ _)))
     refine wpQuiet_nil ?_;intro _ K;obtain⟨⟨L,l⟩,v⟩:=K;subst v;have m:=I (ztS a5.1 (below_regrown w2 L l));have x:=I (blkA (below_regrown w2 L l) b7.1);clear r0 r1 r2 r3 r4 F y7 yl z1 z2 z3 z4 zb a5 b7 a6;generalize grow (redrawn w2 L) l=W3 at*;by_cases n:(ctyp c.consts k).2=0
     . have g:=I (E.1.trans (zcS f (G.1.trans n)));rw[n];go_wp2_with fail;go_roundw
       case rel=>first|exact⟨k+1,by omega,by go_num,g,x,m⟩|((repeat apply Exists.intro);exact⟨⟨k+1,by omega,by go_num,g,x,m⟩,rfl⟩)
       case measure=>simp[intOf];omega
     have g:=I (E.1.trans (zbN f (by rw[G.1];exact n)));have P:=I (show valT c=(ctyp c.consts k).2 by rw[Hv.1,g.1,G.1,if_pos n]);have e2:((ctyp c.consts k).2 !=0)=true:=by simpa using n
     clear n;go_wp2_with fail;go_ret;exact⟨ze P.1.symm,m.1⟩
   have G:=I (show cErr c.consts k=7 by rw[cErr,eK];rfl);have g:=I (E.1.trans (zbN f (by rw[G.1];decide)));have P:=I (show valT c=7 by rw[Hv.1,g.1,G.1];rfl);go_wp2_with fail;go_ret;exact⟨ze P.1.symm,a5.1⟩
 obtain rfl:k=c.consts.length:=by omega
 have z:=I (E.1.trans (zb9 _ _));have b1:=I (Hv.1.trans (if_neg (by rw[z.1];simp)));clear Hv E hk f z;have Q:=zaX r.1;go_wp2_with fail;clear H Q N;go_loopw [7] (λi wr=>∃(k:Nat),k<=c.rules.length/\i=.int .i64 k/\ztR (fstE (rErr c) 0 (c.rules.length-0)=fstE (rErr c) k (c.rules.length-k))/\ztR (wr.heap[w.heap.size]?=some (objC c p))/\ztR (Bw w wr)) (λi _=>c.rules.length-(intOf i).toNat)
 case atStart=>exact⟨0,ztX _,rfl,I rfl,r,a⟩
 clear r a;obtain⟨k,hk,rfl,E,r,a⟩:=hrel;obtain⟨x0,x1,x2,x3,x4,x5,x6,H,Q,X,y,A,C,D,N⟩:=zbZ r.1;by_cases f:k<c.rules.length
 . obtain⟨b,a4,j,hb,s⟩:=(HA.1.keep (a.1.mono M)).rules.cells (by omega);obtain⟨c0,S,_,_,a2,t,⟨T,U,V,c5⟩,h,d⟩:=s k f;have d0:=c6.1 k f;have o:b<wr.heap.size:=by have:=a.1.size;omega
   have u:B<=wr.heap.size:=ztV M a.1.size;have F:=I (λdd os=>ztZ (zfl c p B (rlAt c.rules k).scope ⟨by omega,by omega⟩ (rlAt c.rules k).ex a2 t 4 (grow (redrawn wr dd) os) (ztV u (below_regrown wr dd os).size) R a9 (HA.1.keep ((ztS a.1 (below_regrown wr dd os)).mono M)) h (d.keep ((below_regrown wr dd os).mono u))));rw[j]at Q;simp only[aggC,j]at F;clear s d h j;go_wp2_with fail;have r0:=λdd os=>cell_regrown x0 dd os
   have r1:=λdd os=>cell_regrown x1 dd os
   have r2:=λdd os=>cell_regrown x2 dd os
   have r3:=λdd os=>cell_regrown x3 dd os
   have r4:=λdd os=>cell_regrown x4 dd os
   have r5:=λdd os=>cell_regrown x5 dd os
   have r6:=λdd os=>cell_regrown x6 dd os
   have r7:=λdd os=>cell_regrown H dd os
   have r8:=λdd os=>cell_regrown Q dd os
   have r9:=λdd os=>cell_regrown X dd os
   have Y:=λdd os=>cell_regrown y dd os
   have Z:=λdd os=>cell_regrown A dd os
   have a0:=λdd os=>cell_regrown C dd os
   have a1:=λdd os=>cell_regrown D dd os
   have s0:=λdd os=>cell_regrown c0 dd os
   have s1:=λdd os=>cell_regrown S dd os
   have s2:=λdd os=>cell_regrown T dd os
   have s3:=λdd os=>cell_regrown U dd os
   have s4:=λdd os=>cell_regrown V dd os
   have s5:=λdd os=>cell_regrown c5 dd os
   refine wp_region_quiet_below (by kernel_rfl) (by kernel_rfl) ?_;repeat (first|go_big_quiet_step (first|(with_reducible exact F.1 _ _))|quiet_step (first|(with_reducible exact F.1 _ _)))
   refine wpQuiet_nil ?_;intro _ K;obtain⟨⟨L,l⟩,v⟩:=K;subst v;have m:=I (ztS a.1 (below_regrown wr L l));have x:=I (blkA (below_regrown wr L l) r.1);clear r0 r1 r2 r3 r4 r5 r6 r7 r8 r9 Y Z a0 a1 s0 s1 s2 s3 s4 s5 x0 x1 x2 x3 x4 x5 x6 H Q X y A C D N c0 S T U V c5 F r a o;generalize grow (redrawn wr L) l=W3 at*;have G:=I (show rErr c k=(expE (typX c.consts c.consts.length (rlAt c.rules k).scope (rlAt c.rules k).ex) 4) from rfl);by_cases n:(expE (typX c.consts c.consts.length (rlAt c.rules k).scope (rlAt c.rules k).ex) 4)=0
   . have g:=I (E.1.trans (zcS f (G.1.trans n)));rw[n];go_wp2_with fail;go_roundw
     case rel=>first|exact⟨k+1,by omega,by go_num,g,x,m⟩|((repeat apply Exists.intro);exact⟨⟨k+1,by omega,by go_num,g,x,m⟩,rfl⟩)
     case measure=>simp[intOf];omega
   have g:=I (E.1.trans (zbN f (by rw[G.1];exact n)));have P:=I (show valT c=(expE (typX c.consts c.consts.length (rlAt c.rules k).scope (rlAt c.rules k).ex) 4) by rw[b1.1,g.1,G.1,if_pos n]);have e2:((expE (typX c.consts c.consts.length (rlAt c.rules k).scope (rlAt c.rules k).ex) 4) !=0)=true:=by simpa using n
   clear n;go_wp2_with fail;go_ret;exact⟨ze P.1.symm,m.1⟩
 obtain rfl:k=c.rules.length:=by omega
 have z:=I (E.1.trans (zb9 _ _));have b2:=I (b1.1.trans (if_neg (by rw[z.1];simp)));clear b1 E hk f z;go_wp2_with fail;clear x0 x1 x2 x3 x4 x5 x6 H Q X y A C D N;go_loopw [9] (λi wr=>∃(k:Nat),k<=c.costs.length/\i=.int .i64 k/\ztR (fstE (kErr c) 0 (c.costs.length-0)=fstE (kErr c) k (c.costs.length-k))/\ztR (wr.heap[w.heap.size]?=some (objC c p))/\ztR (Bw w wr)) (λi _=>c.costs.length-(intOf i).toNat)
 case atStart=>exact⟨0,ztX _,rfl,I rfl,r,a⟩
 clear r a;obtain⟨k,hk,rfl,E,r,a⟩:=hrel;obtain⟨x0,x1,x2,x3,x4,x5,x6,H,Q,X,y,A,C,D,N⟩:=zbZ r.1;by_cases f:k<c.costs.length
 . obtain⟨b,a4,j,hb,s⟩:=(HA.1.keep (a.1.mono M)).costs.cells (by omega);obtain⟨c0,_,a2,t,⟨S,T,U,V⟩,h,d⟩:=s k f;have d0:=c7.1 k f;have o:b<wr.heap.size:=by have:=a.1.size;omega
   have u:B<=wr.heap.size:=ztV M a.1.size;have F:=I (λdd os=>ztZ (zfl c p B (coAt c.costs k).scope ⟨by omega,by omega⟩ (coAt c.costs k).ex a2 t 1 (grow (redrawn wr dd) os) (ztV u (below_regrown wr dd os).size) R a9 (HA.1.keep ((ztS a.1 (below_regrown wr dd os)).mono M)) h (d.keep ((below_regrown wr dd os).mono u))));rw[j]at X;simp only[aggC,j]at F;clear s d h j;go_wp2_with fail;have r0:=λdd os=>cell_regrown x0 dd os
   have r1:=λdd os=>cell_regrown x1 dd os
   have r2:=λdd os=>cell_regrown x2 dd os
   have r3:=λdd os=>cell_regrown x3 dd os
   have r4:=λdd os=>cell_regrown x4 dd os
   have r5:=λdd os=>cell_regrown x5 dd os
   have r6:=λdd os=>cell_regrown x6 dd os
   have r7:=λdd os=>cell_regrown H dd os
   have r8:=λdd os=>cell_regrown Q dd os
   have r9:=λdd os=>cell_regrown X dd os
   have Y:=λdd os=>cell_regrown y dd os
   have Z:=λdd os=>cell_regrown A dd os
   have a0:=λdd os=>cell_regrown C dd os
   have a1:=λdd os=>cell_regrown D dd os
   have s0:=λdd os=>cell_regrown c0 dd os
   have s1:=λdd os=>cell_regrown S dd os
   have s2:=λdd os=>cell_regrown T dd os
   have s3:=λdd os=>cell_regrown U dd os
   have s4:=λdd os=>cell_regrown V dd os
   refine wp_region_quiet_below (by kernel_rfl) (by kernel_rfl) ?_;repeat (first|go_big_quiet_step (first|(with_reducible exact F.1 _ _))|quiet_step (first|(with_reducible exact F.1 _ _)))
   refine wpQuiet_nil ?_;intro _ K;obtain⟨⟨L,l⟩,v⟩:=K;subst v;have m:=I (ztS a.1 (below_regrown wr L l));have x:=I (blkA (below_regrown wr L l) r.1);clear r0 r1 r2 r3 r4 r5 r6 r7 r8 r9 Y Z a0 a1 s0 s1 s2 s3 s4 x0 x1 x2 x3 x4 x5 x6 H Q X y A C D N c0 S T U V F r a o;generalize grow (redrawn wr L) l=W3 at*;have G:=I (show kErr c k=(expE (typX c.consts c.consts.length (coAt c.costs k).scope (coAt c.costs k).ex) 1) from rfl);by_cases n:(expE (typX c.consts c.consts.length (coAt c.costs k).scope (coAt c.costs k).ex) 1)=0
   . have g:=I (E.1.trans (zcS f (G.1.trans n)));rw[n];go_wp2_with fail;go_roundw
     case rel=>first|exact⟨k+1,by omega,by go_num,g,x,m⟩|((repeat apply Exists.intro);exact⟨⟨k+1,by omega,by go_num,g,x,m⟩,rfl⟩)
     case measure=>simp[intOf];omega
   have g:=I (E.1.trans (zbN f (by rw[G.1];exact n)));have P:=I (show valT c=(expE (typX c.consts c.consts.length (coAt c.costs k).scope (coAt c.costs k).ex) 1) by rw[b2.1,g.1,G.1,if_pos n]);have e2:((expE (typX c.consts c.consts.length (coAt c.costs k).scope (coAt c.costs k).ex) 1) !=0)=true:=by simpa using n
   clear n;go_wp2_with fail;go_ret;exact⟨ze P.1.symm,m.1⟩
 obtain rfl:k=c.costs.length:=by omega
 have z:=I (E.1.trans (zb9 _ _));have b9:=I (b2.1.trans (if_neg (by rw[z.1];simp)));clear b2 E hk f z;go_wp2_with fail;clear x0 x1 x2 x3 x4 x5 x6 H Q X y A C D N;go_loopw [11] (λi wr=>∃(k:Nat),k<=c.credit.length/\i=.int .i64 k/\ztR (fstE (xErr c) 0 (c.credit.length-0)=fstE (xErr c) k (c.credit.length-k))/\ztR (wr.heap[w.heap.size]?=some (objC c p))/\ztR (Bw w wr)) (λi _=>c.credit.length-(intOf i).toNat)
 case atStart=>exact⟨0,ztX _,rfl,I rfl,r,a⟩
 clear r a;obtain⟨k,hk,rfl,E,r,a⟩:=hrel;obtain⟨x0,x1,x2,x3,x4,x5,x6,H,Q,X,y,A,C,D,N⟩:=zbZ r.1;by_cases f:k<c.credit.length
 . obtain⟨b,a4,j,hb,s⟩:=(HA.1.keep (a.1.mono M)).credit.cells (by omega);obtain⟨a2,t,_,⟨S,T,U,V⟩,h,d⟩:=s.at k f;have o:b<wr.heap.size:=by have:=a.1.size;omega
   have u:B<=wr.heap.size:=ztV M a.1.size;have F:=I (λdd os=>ztZ (zfl c p B 1 (by decide) (eAt c.credit k) a2 t 2 (grow (redrawn wr dd) os) (ztV u (below_regrown wr dd os).size) R a9 (HA.1.keep ((ztS a.1 (below_regrown wr dd os)).mono M)) h (d.keep ((below_regrown wr dd os).mono u))));rw[j]at y;simp only[aggC,j]at F;clear s d h j;go_wp2_with fail;have r0:=λdd os=>cell_regrown x0 dd os
   have r1:=λdd os=>cell_regrown x1 dd os
   have r2:=λdd os=>cell_regrown x2 dd os
   have r3:=λdd os=>cell_regrown x3 dd os
   have r4:=λdd os=>cell_regrown x4 dd os
   have r5:=λdd os=>cell_regrown x5 dd os
   have r6:=λdd os=>cell_regrown x6 dd os
   have r7:=λdd os=>cell_regrown H dd os
   have r8:=λdd os=>cell_regrown Q dd os
   have r9:=λdd os=>cell_regrown X dd os
   have Y:=λdd os=>cell_regrown y dd os
   have Z:=λdd os=>cell_regrown A dd os
   have a0:=λdd os=>cell_regrown C dd os
   have a1:=λdd os=>cell_regrown D dd os
   have s0:=λdd os=>cell_regrown S dd os
   have s1:=λdd os=>cell_regrown T dd os
   have s2:=λdd os=>cell_regrown U dd os
   have s3:=λdd os=>cell_regrown V dd os
   refine wp_region_quiet_below (by kernel_rfl) (by kernel_rfl) ?_;repeat (first|go_big_quiet_step (first|(with_reducible exact F.1 _ _))|quiet_step (first|(with_reducible exact F.1 _ _)))
   refine wpQuiet_nil ?_;intro _ K;obtain⟨⟨L,l⟩,v⟩:=K;subst v;have m:=I (ztS a.1 (below_regrown wr L l));have x:=I (blkA (below_regrown wr L l) r.1);clear r0 r1 r2 r3 r4 r5 r6 r7 r8 r9 Y Z a0 a1 s0 s1 s2 s3 x0 x1 x2 x3 x4 x5 x6 H Q X y A C D N S T U V F r a o;generalize grow (redrawn wr L) l=W3 at*;have G:=I (show xErr c k=(expE (typX c.consts c.consts.length 1 (eAt c.credit k)) 2) from rfl);by_cases n:(expE (typX c.consts c.consts.length 1 (eAt c.credit k)) 2)=0
   . have g:=I (E.1.trans (zcS f (G.1.trans n)));rw[n];go_wp2_with fail;go_roundw
     case rel=>first|exact⟨k+1,by omega,by go_num,g,x,m⟩|((repeat apply Exists.intro);exact⟨⟨k+1,by omega,by go_num,g,x,m⟩,rfl⟩)
     case measure=>simp[intOf];omega
   have g:=I (E.1.trans (zbN f (by rw[G.1];exact n)));have P:=I (show valT c=(expE (typX c.consts c.consts.length 1 (eAt c.credit k)) 2) by rw[b9.1,g.1,G.1]);have e2:((expE (typX c.consts c.consts.length 1 (eAt c.credit k)) 2) !=0)=true:=by simpa using n
   clear n;go_wp2_with fail;go_ret;exact⟨ze P.1.symm,m.1⟩
 obtain rfl:k=c.credit.length:=by omega
 have z:=I (E.1.trans (zb9 _ _));have P:=I (b9.1.trans z.1);go_wp2_with fail;go_ret;exact⟨ze P.1.symm,a.1⟩
def tcV(t:TTM)(c:ConM):Int:=if zY t≠0 then zY t else valT c
theorem zlD(t:TTM)(c:ConM)(h:zua)(b:Nat)(i:zua)(d:Nat)(fa:zua)(fc:Nat)(p:ConP)(w:World)(B:Nat)(u:B<=w.heap.size)(k:t.zones.length<=b/\b<=140737488355328/\t.airs.length<=d/\d<=140737488355328)(o:c.consts.length<=p.cc/\p.cc<=140737488355328)(v:SlAt zcg w h t.zones)(x:SlAt zei w i t.airs)(y:SlAt zam w fa t.fls)(z:zdr B w c p):
 Calls prog 35 #[aggT t h b i d fa fc,aggC c p] w λe w'=>e=.returned (tcV t c)/\Bw w w':=by
 try delta aggC aggT
 have C:=I v;have D:=I x;have E:=I y;have F:=I z;clear v x y z;go_enter func35,ntmps35
 go_wp2_with fail;have l:=I (ztS (J w (objT t h b i d fa fc)) (J _ (objC c p)));have n:=I (zh (w.alloc (objT t h b i d fa fc)) (objC c p));rw[zr]at n;obtain⟨A,f⟩:∃A,A=w.heap.size+1:=⟨_,rfl⟩;rw[<-f]at n;simp only[<-f];clear f;generalize (w.alloc (objT t h b i d fa fc)).alloc (objC c p)=W at*;refine ca (zif t h i fa b d fc W k (C.1.below l.1) (D.1.below l.1) (E.1.below l.1)) λG g=>?_;have a:=I (ztS l.1 g);have q:=I (blkA g n.1);clear g l n;by_cases j:zY t=0
 . have r:=I (show tcV t c=valT c from if_neg (by simpa using j));obtain⟨N,P,Q,R,S,T,U,V,X,Y,H,K,L,M,Z⟩:=zbZ q.1;rw[j];clear j;go_wp2_with fail;refine ca (zlE c p G B (ztV u a.1.size) o (F.1.keep (a.1.mono u))) λw2 m=>?_;have s:=I (ztS a.1 m);clear m;go_wp2_with fail;go_ret;exact⟨ze r.1.symm,s.1⟩
 have r:=I (show tcV t c=zY t from if_pos j);have e1:(zY t !=0)=true:=by simpa using j
 clear j;go_wp2_with fail;go_ret;exact⟨ze r.1.symm,a.1⟩
theorem zD{w w':World}{b o:Nat}{v:Value}(h:w.cell? ⟨b,o,none⟩=some v)(a:b<w.heap.size)(c:Bw w w'):w'.cell? ⟨b,o,none⟩=some v:=(c.cell (p:=⟨b,o,none⟩) a).trans h
theorem zop(t:TTM)(c:ConM)(n:zua)(o:Nat)(q:zua)(r:Nat)(fa:zua)(fc:Nat)(p:ConP)(w:World)(hT:zY t=0)(hf:SlAt zam w fa t.fls)(i j:Nat)(M:i<t.fls.length)(N:j<t.fls.length):
 Calls prog 129 #[aggT t n o q r fa fc,aggC c p,i,j] w λe w'=>e=.returned (.bool (zcZ t c i j))/\Bw w w':=by
 try delta aggC aggT
 obtain⟨b,f,rfl,l,F⟩:=zaO hf (by omega);obtain⟨⟨_,_,G,_,H,_,_,_,_⟩,_⟩:=F i M;obtain⟨⟨_,K,_,L,_,_,_,_,_⟩,_⟩:=F j N;obtain⟨a4,a5,a6,a7⟩:=zas hT M;obtain⟨a8,a9,b0,b1⟩:=zas hT N;have a0:-52593120<=(fAt t.fls j).dep-(fAt t.fls i).arr:=by omega
 have a1:(fAt t.fls j).dep-(fAt t.fls i).arr<=52593120:=by omega
 have a2:=(zcJ hT).2.2;clear F hf;cases e0:((fAt t.fls i).to.toList==(fAt t.fls j).frm.toList)
 . have P:=I (show zcZ t c i j=false by simp[zcZ,e0]);go_enter func129,ntmps129
   go_wp2_with fail;have s:=I (ztS (J w (objT t n o q r (some ⟨b,f,none⟩) fc)) (J _ (objC c p)));have u:=I (zd (o':=(objC c p)) (zh w (objT t n o q r (some ⟨b,f,none⟩) fc)));have h:=I (zh (w.alloc (objT t n o q r (some ⟨b,f,none⟩) fc)) (objC c p));rw[zr]at h;obtain⟨y,g⟩:∃y,y=w.heap.size+1:=⟨_,rfl⟩;rw[<-g]at h;simp only[<-g];clear g;have k:=s.1;have z:=zD G l k;have Q:=zD H l k;have A:=zD K l k;have R:=zD L l k;have d:=ztU l k.size;have B:=zC u.1;have C:=zC h.1;have D:=zaj h.1;have v:=ztW u.1;have m:=ztW h.1;clear k u h;generalize (w.alloc (objT t n o q r (some ⟨b,f,none⟩) fc)).alloc (objC c p)=W at*;go_quiet (fail)
   have a:=dr W nq;have S:=zD z d a;have T:=zD A d a;have U:=zD B v a;have V:=zD C m a;have X:=zD D m a;have E:=ztU d a.size;have Y:=ztU v a.size;have Z:=ztU m a.size;have x:=I (ztS s.1 a);clear a s z Q A R B C D v m d;generalize W.drewN nq=W1 at*;go_wp2_with fail;go_quiet (fail)
   go_wp2_with fail;go_ret;exact⟨zz P.1.symm,ztS x.1 (dr _ _)⟩
 by_cases e1:c.connect<=(fAt t.fls j).dep-(fAt t.fls i).arr
 . have P:=I (show zcZ t c i j=decide ((fAt t.fls j).dep-(fAt t.fls i).arr<=c.sit) by simp[zcZ,e0,e1]);have a3:decide (c.connect<=(fAt t.fls j).dep-(fAt t.fls i).arr)=true:=by simpa using e1
   go_enter func129,ntmps129
   go_wp2_with fail;have s:=I (ztS (J w (objT t n o q r (some ⟨b,f,none⟩) fc)) (J _ (objC c p)));have u:=I (zd (o':=(objC c p)) (zh w (objT t n o q r (some ⟨b,f,none⟩) fc)));have h:=I (zh (w.alloc (objT t n o q r (some ⟨b,f,none⟩) fc)) (objC c p));rw[zr]at h;obtain⟨y,g⟩:∃y,y=w.heap.size+1:=⟨_,rfl⟩;rw[<-g]at h;simp only[<-g];clear g;have k:=s.1;have z:=zD G l k;have Q:=zD H l k;have A:=zD K l k;have R:=zD L l k;have d:=ztU l k.size;have B:=zC u.1;have C:=zC h.1;have D:=zaj h.1;have v:=ztW u.1;have m:=ztW h.1;clear k u h;generalize (w.alloc (objT t n o q r (some ⟨b,f,none⟩) fc)).alloc (objC c p)=W at*;go_quiet (fail)
   have a:=dr W nq;have S:=zD z d a;have T:=zD A d a;have U:=zD B v a;have V:=zD C m a;have X:=zD D m a;have E:=ztU d a.size;have Y:=ztU v a.size;have Z:=ztU m a.size;have x:=I (ztS s.1 a);clear a s z Q A R B C D v m d;generalize W.drewN nq=W1 at*;go_wp2_with fail;go_quiet (fail)
   go_wp2_with fail;go_ret;exact⟨zz P.1.symm,ztS x.1 (dr _ _)⟩
 have P:=I (show zcZ t c i j=false by simp[zcZ,e1]);have a3:decide (c.connect<=(fAt t.fls j).dep-(fAt t.fls i).arr)=false:=by simpa using e1
 go_enter func129,ntmps129
 go_wp2_with fail;have s:=I (ztS (J w (objT t n o q r (some ⟨b,f,none⟩) fc)) (J _ (objC c p)));have u:=I (zd (o':=(objC c p)) (zh w (objT t n o q r (some ⟨b,f,none⟩) fc)));have h:=I (zh (w.alloc (objT t n o q r (some ⟨b,f,none⟩) fc)) (objC c p));rw[zr]at h;obtain⟨y,g⟩:∃y,y=w.heap.size+1:=⟨_,rfl⟩;rw[<-g]at h;simp only[<-g];clear g;have k:=s.1;have z:=zD G l k;have Q:=zD H l k;have A:=zD K l k;have R:=zD L l k;have d:=ztU l k.size;have B:=zC u.1;have C:=zC h.1;have D:=zaj h.1;have v:=ztW u.1;have m:=ztW h.1;clear k u h;generalize (w.alloc (objT t n o q r (some ⟨b,f,none⟩) fc)).alloc (objC c p)=W at*;go_quiet (fail)
 have a:=dr W nq;have S:=zD z d a;have T:=zD A d a;have U:=zD B v a;have V:=zD C m a;have X:=zD D m a;have E:=ztU d a.size;have Y:=ztU v a.size;have Z:=ztU m a.size;have x:=I (ztS s.1 a);clear a s z Q A R B C D v m d;generalize W.drewN nq=W1 at*;go_wp2_with fail;go_quiet (fail)
 go_wp2_with fail;go_ret;exact⟨zz P.1.symm,ztS x.1 (dr _ _)⟩
theorem zrF{t:TTM}{n:Int}(h:flOk t n=false):n<0\/(0<=n/\(t.fls.length:Int)<=n):=by
 simp only[flOk,Bool.and_eq_false_iff,decide_eq_false_iff_not]at h;omega
theorem zlQ(t:TTM)(c:ConM)(s:zua)(u:Nat)(v:zua)(x:Nat)(fa:zua)(fc:Nat)(p:ConP)(w:World)(hT:zY t=0)(hf:SlAt zam w fa t.fls)(d:Duty)(da:zua)(dc:Nat)(a9:d.length<=140737488355328)(hd:SlAt za3 w da d):
 Calls prog 81 #[aggT t s u v x fa fc,aggC c p,.slice da d.length dc] w λe w'=>e=.returned (za6 t c d)/\Bw w w':=by
 try delta aggC aggT
 by_cases h1:d.length<1
 . have y:=I (show za6 t c d=5 from if_pos (.inl h1));go_enter func81,ntmps81
   go_wp2_with fail;go_ret;exact⟨ze y.1.symm,ztS (J w (objT t s u v x fa fc)) (J _ (objC c p))⟩
 by_cases h2:6<d.length
 . have y:=I (show za6 t c d=5 from if_pos (.inr h2));go_enter func81,ntmps81
   go_wp2_with fail;go_ret;exact⟨ze y.1.symm,ztS (J w (objT t s u v x fa fc)) (J _ (objC c p))⟩
 have Hv:=I (show za6 t c d=if fstE (unkE t d) 0 (d.length-0)≠0 then fstE (unkE t d) 0 (d.length-0) else fstE (chnE t c d) 1 (d.length-1) from if_neg (by omega));have HF:=I hf;have HD:=I hd;have a0:=(zcJ hT).2.2;have a1:=I hT;clear hf hd hT;go_enter func81,ntmps81
 go_wp2_with fail;have HB:=I (ztS (J w (objT t s u v x fa fc)) (J _ (objC c p)));have QT:=I (zd (o':=(objC c p)) (zh w (objT t s u v x fa fc)));have V:=I (zh (w.alloc (objT t s u v x fa fc)) (objC c p));rw[zr]at V;obtain⟨X,C⟩:∃X,X=w.heap.size+1:=⟨_,rfl⟩;rw[<-C]at V;simp only[<-C];clear C;generalize (w.alloc (objT t s u v x fa fc)).alloc (objC c p)=W at*;go_loopw [7] (λi wr=>∃(k:Nat),k<=d.length/\i=.int .i64 k/\ztR (fstE (unkE t d) 0 (d.length-0)=fstE (unkE t d) k (d.length-k))/\ztR (wr.heap[w.heap.size]?=some (objT t s u v x fa fc))/\ztR (wr.heap[X]?=some (objC c p))/\ztR (Bw w wr)) (λi _=>d.length-(intOf i).toNat)
 case atStart=>exact⟨0,ztX _,rfl,I rfl,QT,V,HB⟩
 clear QT V HB;obtain⟨k,hk,rfl,A,f,o,a⟩:=hrel;have Y:=zC f.1;have xl:=ztW f.1;by_cases h:k<d.length
 . obtain⟨b,a2,D,hb,r⟩:=zbF (HD.1.below a.1) (by omega);have H:=(r k h).1;subst D;clear r;cases B:flOk t (tAt d k).1
   . have l:=I (A.1.trans (zbN h (by rw[unkE,B];decide)));have y:=I (show za6 t c d=6 by rw[Hv.1,l.1,unkE,B];rfl);rcases zrF B with g|⟨g,g2⟩
     . clear B;go_wp2_with fail;go_quiet (fail)
       go_wp2_with fail;go_ret;exact⟨ze y.1.symm,ztS a.1 (dr _ _)⟩
     clear B;go_wp2_with fail;go_quiet (fail)
     go_wp2_with fail;go_ret;exact⟨ze y.1.symm,ztS a.1 (dr _ _)⟩
   obtain⟨m,G,K⟩:=zbO B;have l:=I (A.1.trans (zcS h (by rw[unkE,B];rfl)));rw[G]at H;clear B G;go_wp2_with fail;go_quiet (fail)
   go_wp2_with fail;go_roundw
   case rel=>first|exact⟨k+1,by omega,by go_num,l,I (blkA (dr _ _) f.1),I (blkA (dr _ _) o.1),I (ztS a.1 (dr _ _))⟩|((repeat apply Exists.intro);exact⟨⟨k+1,by omega,by go_num,l,I (blkA (dr _ _) f.1),I (blkA (dr _ _) o.1),I (ztS a.1 (dr _ _))⟩,rfl⟩)
   case measure=>simp[intOf];omega
 obtain rfl:k=d.length:=by omega
 have E:=A.1.trans (zb9 _ _)
 have L:=I (λj (hj:j<d.length)=>show flOk t (tAt d j).1=true from by
  have:=zcN _ _ E j (by omega) (by omega);unfold unkE at this
  by_cases e:flOk t (tAt d j).1=true
  . exact e
  rw[if_neg e]at this;omega)
 have M:=I (Hv.1.trans (if_neg (by rw[E];simp)));clear Hv A hk h E;go_wp2_with fail;clear Y xl;go_loopw [8] (λi wr=>∃(k:Nat),1<=k/\k<=d.length/\i=.int .i64 k/\ztR (fstE (chnE t c d) 1 (d.length-1)=fstE (chnE t c d) k (d.length-k))/\ztR (wr.heap[w.heap.size]?=some (objT t s u v x fa fc))/\ztR (wr.heap[X]?=some (objC c p))/\ztR (Bw w wr)) (λi _=>d.length-(intOf i).toNat)
 case atStart=>exact⟨1,by omega,by omega,rfl,I rfl,f,o,a⟩
 clear f o a;obtain⟨k,b0,hk,rfl,A,f,o,a⟩:=hrel;by_cases h:k<d.length
 . obtain⟨q,rfl⟩:∃q,k=q+1:=⟨k-1,by omega⟩;obtain⟨b,a2,D,hb,r⟩:=zbF (HD.1.below a.1) (by omega);have H:=(r q (by omega)).1;have t1:=(r (q+1) h).1;subst D;obtain⟨m,G,K⟩:=zbO (L.1 q (by omega));obtain⟨n,hn,a3⟩:=zbO (L.1 (q+1) h);have hE:=I (show chnE t c d (q+1)=if zcZ t c m n=true then 0 else 14 by rw[chnE,Nat.add_sub_cancel,G,hn];rfl);rw[G]at H;rw[hn]at t1;have b1:((q+1:Nat):Int)-1=(q:Int):=by omega
   have b2:q<d.length:=by omega
   have C1:=I (λdd os=>ztZ (zop t c s u v x fa fc p (grow (redrawn wr dd) os) a1.1 (HF.1.below (ztS a.1 (below_regrown wr dd os))) m n K a3));clear r G hn;obtain⟨x0,x1,Y,xl⟩:=zdn f.1;obtain⟨y0,y1,y2,y3,y4,y5,y6,y7,y8,y9,N,P,Q,R,yl⟩:=zbZ o.1;go_wp2_with fail;have r0:=λdd os=>cell_regrown x0 dd os
   have r1:=λdd os=>cell_regrown x1 dd os
   have r2:=λdd os=>cell_regrown Y dd os
   have s0:=λdd os=>cell_regrown y0 dd os
   have s1:=λdd os=>cell_regrown y1 dd os
   have s2:=λdd os=>cell_regrown y2 dd os
   have s3:=λdd os=>cell_regrown y3 dd os
   have s4:=λdd os=>cell_regrown y4 dd os
   have s5:=λdd os=>cell_regrown y5 dd os
   have s6:=λdd os=>cell_regrown y6 dd os
   have s7:=λdd os=>cell_regrown y7 dd os
   have s8:=λdd os=>cell_regrown y8 dd os
   have s9:=λdd os=>cell_regrown y9 dd os
   have a4:=λdd os=>cell_regrown N dd os
   have a5:=λdd os=>cell_regrown P dd os
   have a6:=λdd os=>cell_regrown Q dd os
   have a7:=λdd os=>cell_regrown R dd os
   have k0:=λdd os=>cell_regrown H dd os
   have k1:=λdd os=>cell_regrown t1 dd os
   refine wp_region_quiet_below (by kernel_rfl) (by kernel_rfl) ?_;repeat (first|go_big_quiet_step (first|(with_reducible exact C1.1 _ _))|quiet_step (first|(with_reducible exact C1.1 _ _)))
   refine wpQuiet_nil ?_;intro _ a8;obtain⟨⟨Z,z⟩,S⟩:=a8;subst S;have F:=I (ztS a.1 (below_regrown wr Z z));have T:=I (blkA (below_regrown wr Z z) f.1);have U:=I (blkA (below_regrown wr Z z) o.1);clear r0 r1 r2 s0 s1 s2 s3 s4 s5 s6 s7 s8 s9 a4 a5 a6 a7 k0 k1 x0 x1 Y xl y0 y1 y2 y3 y4 y5 y6 y7 y8 y9 N P Q R yl H t1 C1 f o a hb;generalize grow (redrawn wr Z) z=W2 at*;cases eJ:zcZ t c m n
   . have l:=I (A.1.trans (zbN h (by rw[hE.1,eJ];decide)));have y:=I (show za6 t c d=14 by rw[M.1,l.1,hE.1,eJ];rfl);go_wp2_with fail;go_ret;exact⟨ze y.1.symm,F.1⟩
   have l:=I (A.1.trans (zcS h (by rw[hE.1,eJ];rfl)));go_wp2_with fail;go_roundw
   case rel=>first|exact⟨q+1+1,by omega,by omega,by go_num,l,T,U,F⟩|((repeat apply Exists.intro);exact⟨⟨q+1+1,by omega,by omega,by go_num,l,T,U,F⟩,rfl⟩)
   case measure=>simp[intOf];omega
 obtain rfl:k=d.length:=by omega
 have y:=I (M.1.trans (A.1.trans (zb9 _ _)));go_wp2_with fail;go_ret;exact⟨ze y.1.symm,a.1⟩
theorem zrk{t:TTM}{c:ConM}(h:tcV t c=0):zY t=0/\valT c=0:=by
 unfold tcV at h
 by_cases e:zY t=0
 . rw[if_neg (by simpa using e)]at h;exact⟨e,h⟩
 rw[if_pos e]at h;exact absurd h e
theorem set9{w:World}{b:Nat}{T:TypeId}{v t s r p o m l j:Value}(a c d e f g k n q:Value)(h:w.heap[b]?=some (.cells #[v,t,s,r,p,o,m,l,j] T (0,0))):(((((((((w.setCell ⟨b,0,none⟩ a).setCell ⟨b,1,none⟩ c).setCell ⟨b,2,none⟩ d).setCell ⟨b,3,none⟩ e).setCell ⟨b,4,none⟩ f).setCell ⟨b,5,none⟩ g).setCell ⟨b,6,none⟩ k).setCell ⟨b,7,none⟩ n).setCell ⟨b,8,none⟩ q).heap[b]?=some (.cells #[a,c,d,e,f,g,k,n,q] T (0,0)):=by
 have x:(w.setCell ⟨b,0,none⟩ a).heap[b]?=some (.cells #[a,t,s,r,p,o,m,l,j] T (0,0)):=zg (i:=0) (u:=a) h;have y:((w.setCell ⟨b,0,none⟩ a).setCell ⟨b,1,none⟩ c).heap[b]?=some (.cells #[a,c,s,r,p,o,m,l,j] T (0,0)):=zg (i:=1) (u:=c) x;have z:(((w.setCell ⟨b,0,none⟩ a).setCell ⟨b,1,none⟩ c).setCell ⟨b,2,none⟩ d).heap[b]?=some (.cells #[a,c,d,r,p,o,m,l,j] T (0,0)):=zg (i:=2) (u:=d) y;have A:((((w.setCell ⟨b,0,none⟩ a).setCell ⟨b,1,none⟩ c).setCell ⟨b,2,none⟩ d).setCell ⟨b,3,none⟩ e).heap[b]?=some (.cells #[a,c,d,e,p,o,m,l,j] T (0,0)):=zg (i:=3) (u:=e) z;have B:(((((w.setCell ⟨b,0,none⟩ a).setCell ⟨b,1,none⟩ c).setCell ⟨b,2,none⟩ d).setCell ⟨b,3,none⟩ e).setCell ⟨b,4,none⟩ f).heap[b]?=some (.cells #[a,c,d,e,f,o,m,l,j] T (0,0)):=zg (i:=4) (u:=f) A;have C:((((((w.setCell ⟨b,0,none⟩ a).setCell ⟨b,1,none⟩ c).setCell ⟨b,2,none⟩ d).setCell ⟨b,3,none⟩ e).setCell ⟨b,4,none⟩ f).setCell ⟨b,5,none⟩ g).heap[b]?=some (.cells #[a,c,d,e,f,g,m,l,j] T (0,0)):=zg (i:=5) (u:=g) B;have D:(((((((w.setCell ⟨b,0,none⟩ a).setCell ⟨b,1,none⟩ c).setCell ⟨b,2,none⟩ d).setCell ⟨b,3,none⟩ e).setCell ⟨b,4,none⟩ f).setCell ⟨b,5,none⟩ g).setCell ⟨b,6,none⟩ k).heap[b]?=some (.cells #[a,c,d,e,f,g,k,l,j] T (0,0)):=zg (i:=6) (u:=k) C;have E:((((((((w.setCell ⟨b,0,none⟩ a).setCell ⟨b,1,none⟩ c).setCell ⟨b,2,none⟩ d).setCell ⟨b,3,none⟩ e).setCell ⟨b,4,none⟩ f).setCell ⟨b,5,none⟩ g).setCell ⟨b,6,none⟩ k).setCell ⟨b,7,none⟩ n).heap[b]?=some (.cells #[a,c,d,e,f,g,k,n,j] T (0,0)):=zg (i:=7) (u:=n) D;have F:(((((((((w.setCell ⟨b,0,none⟩ a).setCell ⟨b,1,none⟩ c).setCell ⟨b,2,none⟩ d).setCell ⟨b,3,none⟩ e).setCell ⟨b,4,none⟩ f).setCell ⟨b,5,none⟩ g).setCell ⟨b,6,none⟩ k).setCell ⟨b,7,none⟩ n).setCell ⟨b,8,none⟩ q).heap[b]?=some (.cells #[a,c,d,e,f,g,k,n,q] T (0,0)):=zg (i:=8) (u:=q) E;exact F
theorem ziT(t:TTM)(s:zua)(x:Nat)(y:zua)(z:Nat)(fa:zua)(fc:Nat)(w:World)(N:SlAt zam w fa t.fls)(F:t.fls.length<=200)(d:Duty)(P:zua)(dc:Nat)(a0:0<d.length/\d.length<=6)(Q:SlAt za3 w P d)(m:Nat)(R:(tAt d 0).1=m)(G:m<t.fls.length):
 Calls prog 83 #[aggT t s x y z fa fc,.slice P d.length dc] w λe w'=>e=.returned (.agg #[.string (fAt t.fls m).num,.string (fAt t.fls m).frm,.string (fAt t.fls m).to,(fAt t.fls m).dep,(fAt t.fls m).arr,.string (fAt t.fls m).typ,(fAt t.fls m).n0,(fAt t.fls m).n1,(fAt t.fls m).n2])/\Bw w w':=by
 try delta aggC aggT
 obtain⟨b,q,rfl,i,A⟩:=zaO N (by omega);obtain⟨⟨p0,p1,p2,p3,p4,p5,p6,p7,p8⟩,_⟩:=A m G;obtain⟨b2,B,rfl,C,r⟩:=zbF Q (by omega);have E:=(r 0 (by omega)).1;rw[R]at E;have E:w.cell? ⟨b2,B,none⟩=some (.int .i64 (m:Int)):=by simpa using E
 clear A r R N Q;go_enter func83,ntmps83
 go_wp2_with fail;have k:=I (ztS (J w (objT t s x y z (some ⟨b,q,none⟩) fc)) (J _ jB));have S:=I (zd (o':=jB) (zh w (objT t s x y z (some ⟨b,q,none⟩) fc)));have H:=I (zh (w.alloc (objT t s x y z (some ⟨b,q,none⟩) fc)) jB);rw[zr]at H;obtain⟨a,l⟩:∃a,a=w.heap.size+1:=⟨_,rfl⟩;rw[<-l]at H;simp only[<-l];have f:w.heap.size<=a:=by omega
 clear l;generalize (w.alloc (objT t s x y z (some ⟨b,q,none⟩) fc)).alloc jB=W at*;have T:=zD p0 i k.1;have U:=zD p1 i k.1;have V:=zD p2 i k.1;have Y:=zD p3 i k.1;have Z:=zD p4 i k.1;have u5:=zD p5 i k.1;have u6:=zD p6 i k.1;have u7:=zD p7 i k.1;have u8:=zD p8 i k.1;have ut:=zD E C k.1;have g:=ztU i k.1.size;have D:=ztU C k.1.size;have o:=I (And.intro ut (And.intro T (And.intro U (And.intro V (And.intro Y (And.intro Z (And.intro u5 (And.intro u6 (And.intro u7 u8)))))))));clear ut T U V Y Z u5 u6 u7 u8;refine' zw6 [⟨5, [],.kn _⟩,⟨6, [5],.kn _⟩,⟨7, [],.kn _⟩,⟨8, [7],.kn _⟩,⟨9, [8],.kn _⟩,⟨10, [9],.kn _⟩,⟨11, [6,10],.kn _⟩,⟨12, [11],.kn _⟩] [1,2] [12] (λ_ h=>And.intro (ztW (blkA h S.1)) (And.intro (zD o.1.2.2.2.2.2.2.2.2.2 g h) (And.intro (zD o.1.2.2.2.2.2.2.2.2.1 g h) (And.intro (zD o.1.2.2.2.2.2.2.2.1 g h) (And.intro (zD o.1.2.2.2.2.2.2.1 g h) (And.intro (zD o.1.2.2.2.2.2.1 g h) (And.intro (zD o.1.2.2.2.2.1 g h) (And.intro (zD o.1.2.2.2.1 g h) (And.intro (zD o.1.2.2.1 g h) (And.intro (zD o.1.2.1 g h) (And.intro (zD o.1.1 D h) ((zm (j:=2) (blkA h S.1) rfl))))))))))))) ?h1 ?c1 ?f1
 case h1=>
  intro u;simp only[rlE,rlL,↓reduceIte,Nat.reduceEqDiff];intros
  refine⟨?_,?_,?_,?_,?_,?_,?_,?_,trivial⟩
  all_goals try (intros;refine rlK (by assumption) ?_;go_simp <;> rfl)
 case c1=>kernel_rfl
 intro u n i;simp only[rlE,rlF,rlL,Act.put,O,↓reduceIte,Nat.reduceEqDiff];intro e1;have K:=I (ztS k.1 i);have c:=blkA i H.1;have z0:=zw c;have f0:n.frozen? ⟨a,0,none⟩=false:=zQ c;have z1:=zu c;have f1:n.frozen? ⟨a,1,none⟩=false:=zQ c;have z2:=zC c;have f2:n.frozen? ⟨a,2,none⟩=false:=zQ c;have z3:=zaj c;have f3:n.frozen? ⟨a,3,none⟩=false:=zQ c;have z4:=zbe c;have f4:n.frozen? ⟨a,4,none⟩=false:=zQ c;have z5:=zbn c;have f5:n.frozen? ⟨a,5,none⟩=false:=zQ c;have z6:=zbm c;have f6:n.frozen? ⟨a,6,none⟩=false:=zQ c;have z7:=zaK c;have f7:n.frozen? ⟨a,7,none⟩=false:=zQ c;have z8:=zaX c;have f8:n.frozen? ⟨a,8,none⟩=false:=zQ c;have L:=ztW c;go_simp;clear z0 f0 z1 f1 z2 f2 z3 f3 z4 f4 z5 f5 z6 f6 z7 f7 z8 f8 L;go_wp2_with fail;have p:=set9 (.string (fAt t.fls m).num) (.string (fAt t.fls m).frm) (.string (fAt t.fls m).to) (.int .i64 (fAt t.fls m).dep) (.int .i64 (fAt t.fls m).arr) (.string (fAt t.fls m).typ) (.int .i64 (fAt t.fls m).n0) (.int .i64 (fAt t.fls m).n1) (.int .i64 (fAt t.fls m).n2) c;have M:Bw w (((((((((n.setCell ⟨a,0,none⟩ (.string (fAt t.fls m).num)).setCell ⟨a,1,none⟩ (.string (fAt t.fls m).frm)).setCell ⟨a,2,none⟩ (.string (fAt t.fls m).to)).setCell ⟨a,3,none⟩ (.int .i64 (fAt t.fls m).dep)).setCell ⟨a,4,none⟩ (.int .i64 (fAt t.fls m).arr)).setCell ⟨a,5,none⟩ (.string (fAt t.fls m).typ)).setCell ⟨a,6,none⟩ (.int .i64 (fAt t.fls m).n0)).setCell ⟨a,7,none⟩ (.int .i64 (fAt t.fls m).n1)).setCell ⟨a,8,none⟩ (.int .i64 (fAt t.fls m).n2)):=(((((((((K.1.setCell f _).setCell f _).setCell f _).setCell f _).setCell f _).setCell f _).setCell f _).setCell f _).setCell f _);generalize (((((((((n.setCell ⟨a,0,none⟩ (.string (fAt t.fls m).num)).setCell ⟨a,1,none⟩ (.string (fAt t.fls m).frm)).setCell ⟨a,2,none⟩ (.string (fAt t.fls m).to)).setCell ⟨a,3,none⟩ (.int .i64 (fAt t.fls m).dep)).setCell ⟨a,4,none⟩ (.int .i64 (fAt t.fls m).arr)).setCell ⟨a,5,none⟩ (.string (fAt t.fls m).typ)).setCell ⟨a,6,none⟩ (.int .i64 (fAt t.fls m).n0)).setCell ⟨a,7,none⟩ (.int .i64 (fAt t.fls m).n1)).setCell ⟨a,8,none⟩ (.int .i64 (fAt t.fls m).n2))=X at*;have r0:=zw p;have r1:=zu p;have r2:=zC p;have r3:=zaj p;have r4:=zbe p;have r5:=zbn p;have r6:=zbm p;have r7:=zaK p;have r8:=zaX p;clear c p;refine bodyPost_ret (v:=.agg #[.string (fAt t.fls m).num,.string (fAt t.fls m).frm,.string (fAt t.fls m).to,(fAt t.fls m).dep,(fAt t.fls m).arr,.string (fAt t.fls m).typ,(fAt t.fls m).n0,(fAt t.fls m).n1,(fAt t.fls m).n2]) (by simp[results,results83,go_sem,r0,r1,r2,r3,r4,r5,r6,r7,r8]) rfl ?_;exact⟨rfl,M⟩
theorem zlb(t:TTM)(x:zua)(y:Nat)(z:zua)(A:Nat)(fa:zua)(fc:Nat)(w:World)(N:SlAt zam w fa t.fls)(F:t.fls.length<=200)(d:Duty)(P:zua)(dc:Nat)(a0:0<d.length/\d.length<=6)(Q:SlAt za3 w P d)(m:Nat)(B:(tAt d (d.length-1)).1=m)(G:m<t.fls.length):
 Calls prog 84 #[aggT t x y z A fa fc,.slice P d.length dc] w λe w'=>e=.returned (.agg #[.string (fAt t.fls m).num,.string (fAt t.fls m).frm,.string (fAt t.fls m).to,(fAt t.fls m).dep,(fAt t.fls m).arr,.string (fAt t.fls m).typ,(fAt t.fls m).n0,(fAt t.fls m).n1,(fAt t.fls m).n2])/\Bw w w':=by
 try delta aggC aggT
 obtain⟨b,r,rfl,i,C⟩:=zaO N (by omega);obtain⟨⟨p0,p1,p2,p3,p4,p5,p6,p7,p8⟩,_⟩:=C m G;obtain⟨b2,R,rfl,D,s⟩:=zbF Q (by omega);obtain⟨n,hn⟩:∃n,d.length=n+1:=⟨d.length-1,by omega⟩;have B:(tAt d n).1=m:=by rw[show d.length-1=n by omega]at B;exact B
 have hq:(d.length:Int)-1=(n:Int):=by omega
 have a1:n<d.length:=by omega
 have a2:IntKind.i64.wrap (n:Int)=(n:Int):=by rw[IntKind.wrap_i64];omega
 clear hn;have S:=(s n (by omega)).1;rw[B]at S;clear C s B N Q;go_enter func84,ntmps84
 go_wp2_with fail;have k:=I (ztS (J w (objT t x y z A (some ⟨b,r,none⟩) fc)) (J _ jB));have T:=I (zd (o':=jB) (zh w (objT t x y z A (some ⟨b,r,none⟩) fc)));have H:=I (zh (w.alloc (objT t x y z A (some ⟨b,r,none⟩) fc)) jB);rw[zr]at H;obtain⟨a,l⟩:∃a,a=w.heap.size+1:=⟨_,rfl⟩;rw[<-l]at H;simp only[<-l];have f:w.heap.size<=a:=by omega
 clear l;generalize (w.alloc (objT t x y z A (some ⟨b,r,none⟩) fc)).alloc jB=W at*;have U:=zD p0 i k.1;have V:=zD p1 i k.1;have Y:=zD p2 i k.1;have Z:=zD p3 i k.1;have u4:=zD p4 i k.1;have u5:=zD p5 i k.1;have u6:=zD p6 i k.1;have u7:=zD p7 i k.1;have u8:=zD p8 i k.1;have ut:=zD S D k.1;have g:=ztU i k.1.size;have E:=ztU D k.1.size;have p:=I (And.intro ut (And.intro U (And.intro V (And.intro Y (And.intro Z (And.intro u4 (And.intro u5 (And.intro u6 (And.intro u7 u8)))))))));clear ut U V Y Z u4 u5 u6 u7 u8;refine' zw6 [⟨5, [],.kn _⟩,⟨6, [5],.kn _⟩,⟨7, [],.kn _⟩,⟨8, [],.kn _⟩,⟨9, [8],.kn _⟩,⟨10, [9],.kn _⟩,⟨11, [7,10],.kn _⟩,⟨12, [11],.kn _⟩,⟨13, [12],.kn _⟩,⟨14, [6,13],.kn _⟩,⟨15, [14],.kn _⟩] [1,2] [15] (λ_ h=>And.intro (ztW (blkA h T.1)) (And.intro (zD p.1.2.2.2.2.2.2.2.2.2 g h) (And.intro (zD p.1.2.2.2.2.2.2.2.2.1 g h) (And.intro (zD p.1.2.2.2.2.2.2.2.1 g h) (And.intro (zD p.1.2.2.2.2.2.2.1 g h) (And.intro (zD p.1.2.2.2.2.2.1 g h) (And.intro (zD p.1.2.2.2.2.1 g h) (And.intro (zD p.1.2.2.2.1 g h) (And.intro (zD p.1.2.2.1 g h) (And.intro (zD p.1.2.1 g h) (And.intro (zD p.1.1 E h) ((zm (j:=2) (blkA h T.1) rfl))))))))))))) ?h2 ?c2 ?f2
 case h2=>
  intro u;simp only[rlE,rlL,↓reduceIte,Nat.reduceEqDiff];intros
  refine⟨?_,?_,?_,?_,?_,?_,?_,?_,?_,?_,?_,trivial⟩
  all_goals try (intros;refine rlK (by assumption) ?_;go_simp <;> rfl)
 case c2=>kernel_rfl
 intro u o i;simp only[rlE,rlF,rlL,Act.put,O,↓reduceIte,Nat.reduceEqDiff];intro e1;have K:=I (ztS k.1 i);have c:=blkA i H.1;have z0:=zw c;have f0:o.frozen? ⟨a,0,none⟩=false:=zQ c;have z1:=zu c;have f1:o.frozen? ⟨a,1,none⟩=false:=zQ c;have z2:=zC c;have f2:o.frozen? ⟨a,2,none⟩=false:=zQ c;have z3:=zaj c;have f3:o.frozen? ⟨a,3,none⟩=false:=zQ c;have z4:=zbe c;have f4:o.frozen? ⟨a,4,none⟩=false:=zQ c;have z5:=zbn c;have f5:o.frozen? ⟨a,5,none⟩=false:=zQ c;have z6:=zbm c;have f6:o.frozen? ⟨a,6,none⟩=false:=zQ c;have z7:=zaK c;have f7:o.frozen? ⟨a,7,none⟩=false:=zQ c;have z8:=zaX c;have f8:o.frozen? ⟨a,8,none⟩=false:=zQ c;have L:=ztW c;go_simp;clear z0 f0 z1 f1 z2 f2 z3 f3 z4 f4 z5 f5 z6 f6 z7 f7 z8 f8 L;go_wp2_with fail;have q:=set9 (.string (fAt t.fls m).num) (.string (fAt t.fls m).frm) (.string (fAt t.fls m).to) (.int .i64 (fAt t.fls m).dep) (.int .i64 (fAt t.fls m).arr) (.string (fAt t.fls m).typ) (.int .i64 (fAt t.fls m).n0) (.int .i64 (fAt t.fls m).n1) (.int .i64 (fAt t.fls m).n2) c;have M:Bw w (((((((((o.setCell ⟨a,0,none⟩ (.string (fAt t.fls m).num)).setCell ⟨a,1,none⟩ (.string (fAt t.fls m).frm)).setCell ⟨a,2,none⟩ (.string (fAt t.fls m).to)).setCell ⟨a,3,none⟩ (.int .i64 (fAt t.fls m).dep)).setCell ⟨a,4,none⟩ (.int .i64 (fAt t.fls m).arr)).setCell ⟨a,5,none⟩ (.string (fAt t.fls m).typ)).setCell ⟨a,6,none⟩ (.int .i64 (fAt t.fls m).n0)).setCell ⟨a,7,none⟩ (.int .i64 (fAt t.fls m).n1)).setCell ⟨a,8,none⟩ (.int .i64 (fAt t.fls m).n2)):=(((((((((K.1.setCell f _).setCell f _).setCell f _).setCell f _).setCell f _).setCell f _).setCell f _).setCell f _).setCell f _);generalize (((((((((o.setCell ⟨a,0,none⟩ (.string (fAt t.fls m).num)).setCell ⟨a,1,none⟩ (.string (fAt t.fls m).frm)).setCell ⟨a,2,none⟩ (.string (fAt t.fls m).to)).setCell ⟨a,3,none⟩ (.int .i64 (fAt t.fls m).dep)).setCell ⟨a,4,none⟩ (.int .i64 (fAt t.fls m).arr)).setCell ⟨a,5,none⟩ (.string (fAt t.fls m).typ)).setCell ⟨a,6,none⟩ (.int .i64 (fAt t.fls m).n0)).setCell ⟨a,7,none⟩ (.int .i64 (fAt t.fls m).n1)).setCell ⟨a,8,none⟩ (.int .i64 (fAt t.fls m).n2))=X at*;have r0:=zw q;have r1:=zu q;have r2:=zC q;have r3:=zaj q;have r4:=zbe q;have r5:=zbn q;have r6:=zbm q;have r7:=zaK q;have r8:=zaX q;clear c q;refine bodyPost_ret (v:=.agg #[.string (fAt t.fls m).num,.string (fAt t.fls m).frm,.string (fAt t.fls m).to,(fAt t.fls m).dep,(fAt t.fls m).arr,.string (fAt t.fls m).typ,(fAt t.fls m).n0,(fAt t.fls m).n1,(fAt t.fls m).n2]) (by simp[results,results84,go_sem,r0,r1,r2,r3,r4,r5,r6,r7,r8]) rfl ?_;exact⟨rfl,M⟩
theorem zhi(t:TTM)(c:ConM)(n:zua)(o:Nat)(q:zua)(r:Nat)(fa:zua)(fc:Nat)(p:ConP)(w:World)(G:zY t=0)(T:valT c=0)(U:SlAt zam w fa t.fls)(d:Duty)(z:zua)(H:Nat)(s:za6 t c d=0)(V:SlAt za3 w z d):
 Calls prog 74 #[aggT t n o q r fa fc,aggC c p,.slice z d.length H] w λe w'=>e=.returned (.agg #[.int .i64 (zcK t c d).1,.int .i64 (zcK t c d).2])/\Bw w w':=by
 try delta aggC aggT
 obtain⟨M,B,N,C⟩:=zfN s;obtain⟨a0,a1,_,_⟩:=zcp s;have ta:=zas G B;have tz:=zas G C;obtain⟨a2,a3,_⟩:=zdl T;have f:=(zcJ G).2.2;have a4:IntKind.i64.wrap ((fAt t.fls (fstN d)).dep-c.report)=((fAt t.fls (fstN d)).dep-c.report):=by rw[IntKind.wrap_i64];omega
 have a5:IntKind.i64.wrap ((fAt t.fls (lstN d)).arr+c.release)=((fAt t.fls (lstN d)).arr+c.release):=by rw[IntKind.wrap_i64];omega
 have X:=I U;have Y:=I V;have a6:∀w:World,(Instr.field 82 (.agg #[.string (fAt t.fls (fstN d)).num,.string (fAt t.fls (fstN d)).frm,.string (fAt t.fls (fstN d)).to,(fAt t.fls (fstN d)).dep,(fAt t.fls (fstN d)).arr,.string (fAt t.fls (fstN d)).typ,(fAt t.fls (fstN d)).n0,(fAt t.fls (fstN d)).n1,(fAt t.fls (fstN d)).n2]) 3).run prog w=.ok (.int .i64 (fAt t.fls (fstN d)).dep) w:=λ_=>by kernel_rfl
 have a7:∀w:World,(Instr.field 82 (.agg #[.string (fAt t.fls (lstN d)).num,.string (fAt t.fls (lstN d)).frm,.string (fAt t.fls (lstN d)).to,(fAt t.fls (lstN d)).dep,(fAt t.fls (lstN d)).arr,.string (fAt t.fls (lstN d)).typ,(fAt t.fls (lstN d)).n0,(fAt t.fls (lstN d)).n1,(fAt t.fls (lstN d)).n2]) 4).run prog w=.ok (.int .i64 (fAt t.fls (lstN d)).arr) w:=λ_=>by kernel_rfl
 show Calls prog 74 #[.agg #[.slice n t.zones.length o,.slice q t.airs.length r,.slice fa t.fls.length fc],.agg #[c.report,c.release,c.connect,c.sit,c.layover,c.nf,c.nt,.slice p.ca c.consts.length p.cc,.slice p.ra c.rules.length p.rc,.slice p.ka c.costs.length p.kc,.slice p.xa c.credit.length p.xc,.slice p.la c.lims.length p.lc,.slice p.oa c.offs.length p.oc,c.guar],.slice z d.length H] w λe w'=>e=.returned (.agg #[.int .i64 ((fAt t.fls (fstN d)).dep-c.report),.int .i64 ((fAt t.fls (lstN d)).arr+c.release)])/\Bw w w'
 clear U V s G T;go_enter func74,ntmps74
 go_wp2_with fail;have P:=I (ztS (ztS (J w (objT t n o q r fa fc)) (J _ (objC c p))) (J _ jE));have L:=I (zd (o':=jE) (zd (o':=(objC c p)) (zh w (objT t n o q r fa fc))));have D:=I (zd (o':=jE) (zh (w.alloc (objT t n o q r fa fc)) (objC c p)));have Q:=I (zh ((w.alloc (objT t n o q r fa fc)).alloc (objC c p)) jE);rw[zr]at D;rw[zr,zr]at Q;obtain⟨b,l⟩:∃b,b=w.heap.size+1+1:=⟨_,rfl⟩;obtain⟨Z,x⟩:∃Z,Z=w.heap.size+1:=⟨_,rfl⟩;rw[<-l]at Q;rw[<-x]at D;simp only[<-l];simp only[<-x];have E:w.heap.size<=b:=by omega
 clear l x;generalize ((w.alloc (objT t n o q r fa fc)).alloc (objC c p)).alloc jE=W at*;refine' zw6 [⟨7, [],.kn _⟩,⟨8, [],.kn _⟩,⟨9, [7,8],.kn (.agg #[.string (fAt t.fls (fstN d)).num,.string (fAt t.fls (fstN d)).frm,.string (fAt t.fls (fstN d)).to,(fAt t.fls (fstN d)).dep,(fAt t.fls (fstN d)).arr,.string (fAt t.fls (fstN d)).typ,(fAt t.fls (fstN d)).n0,(fAt t.fls (fstN d)).n1,(fAt t.fls (fstN d)).n2])⟩,⟨10, [9],.kn _⟩,⟨11, [],.kn _⟩,⟨12, [11],.kn _⟩,⟨13, [10,12],.kn _⟩,⟨14, [],.kn _⟩,⟨15, [],.kn _⟩,⟨16, [14,15],.kn (.agg #[.string (fAt t.fls (lstN d)).num,.string (fAt t.fls (lstN d)).frm,.string (fAt t.fls (lstN d)).to,(fAt t.fls (lstN d)).dep,(fAt t.fls (lstN d)).arr,.string (fAt t.fls (lstN d)).typ,(fAt t.fls (lstN d)).n0,(fAt t.fls (lstN d)).n1,(fAt t.fls (lstN d)).n2])⟩,⟨17, [16],.kn _⟩,⟨18, [],.kn _⟩,⟨19, [18],.kn _⟩,⟨20, [17,19],.kn _⟩,⟨21, [13,20],.kn _⟩] [2,3,4] [21] (λ_ h=>And.intro (And.intro (zm (j:=0) (blkA h L.1) rfl) (And.intro (zm (j:=1) (blkA h L.1) rfl) (zm (j:=2) (blkA h L.1) rfl))) (And.intro (zm (j:=0) (blkA h D.1) rfl) (And.intro (zm (j:=1) (blkA h D.1) rfl) (And.intro (ztW (blkA h L.1)) (ztW (blkA h D.1)))))) ?h3 ?c3 ?f3
 case h3=>
  intro u;simp only[rlE,rlL,↓reduceIte,Nat.reduceEqDiff];intros
  refine⟨?_,?_,?_,?_,?_,?_,?_,?_,?_,?_,?_,?_,?_,?_,?_,trivial⟩
  all_goals try (intros;refine rlK (by assumption) ?_;go_simp <;> rfl)
  . intro A R e y g q1 q2 K k;go_simp;have m:=ztS P.1 y;refine ca (ziT t n o q r fa fc R (X.1.below m) f d z H ⟨by omega,by omega⟩ (Y.1.below m) (fstN d) M B) λw2 h=>?_;exact k.1 _ _ ⟨h,rfl⟩
  intro A R e y g q1 q2 K k;go_simp;have m:=ztS P.1 y;refine ca (zlb t n o q r fa fc R (X.1.below m) f d z H ⟨by omega,by omega⟩ (Y.1.below m) (lstN d) N C) λw2 h=>?_;exact k.1 _ _ ⟨h,rfl⟩
 case c3=>kernel_rfl
 intro u F y;simp only[rlE,rlF,rlL,Act.put,O,↓reduceIte,Nat.reduceEqDiff];intro e1;have a:=blkA y Q.1;have z0:=zw a;have z1:=zu a;have f0:F.frozen? ⟨b,0,none⟩=false:=zQ a;have f1:F.frozen? ⟨b,1,none⟩=false:=zQ a;have rl:=ztW a;go_simp;go_wp2_with fail;have Q1:(F.setCell ⟨b,0,none⟩ (.int .i64 ((fAt t.fls (fstN d)).dep-c.report))).heap[b]?=some (oQ ((fAt t.fls (fstN d)).dep-c.report) 0):=zg (i:=0) (u:=.int .i64 ((fAt t.fls (fstN d)).dep-c.report)) a;have Q2:((F.setCell ⟨b,0,none⟩ (.int .i64 ((fAt t.fls (fstN d)).dep-c.report))).setCell ⟨b,1,none⟩ (.int .i64 ((fAt t.fls (lstN d)).arr+c.release))).heap[b]?=some (oQ ((fAt t.fls (fstN d)).dep-c.report) ((fAt t.fls (lstN d)).arr+c.release)):=zg (i:=1) (u:=.int .i64 ((fAt t.fls (lstN d)).arr+c.release)) Q1;have r0:=zw Q2;have r1:=zu Q2;have S:Bw w ((F.setCell ⟨b,0,none⟩ (.int .i64 ((fAt t.fls (fstN d)).dep-c.report))).setCell ⟨b,1,none⟩ (.int .i64 ((fAt t.fls (lstN d)).arr+c.release))):=(((ztS P.1 y).setCell E _).setCell E _);refine bodyPost_ret (v:=.agg #[.int .i64 ((fAt t.fls (fstN d)).dep-c.report),.int .i64 ((fAt t.fls (lstN d)).arr+c.release)]) (by simp[results,results74,go_sem,r0,r1]) rfl ?_;exact⟨rfl,S⟩

end Go.Proofs.YtbhhejkolnigfaaGreat
