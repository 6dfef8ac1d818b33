/- a part of the proof -/
import Derived.Test.YtbhhejkolnigfaaGreatGM
set_option linter.unusedVariables false
set_option linter.unusedSimpArgs false
set_option maxRecDepth 100000
set_option maxHeartbeats 51200000
namespace Go.Proofs.YtbhhejkolnigfaaGreat
open Go.RowKit Go.Sort Go.Proofs.Tryz
def vAt(V:List (Int×Int×ByteArray))(i:Nat):Int×Int×ByteArray:=V.getD i (0,0,ByteArray.empty)
def zgN(w:World)(a:zua)(V:List (Int×Int×ByteArray)):Prop:=V= []\/∃b off,a=some ⟨b,off,none⟩/\b<w.heap.size/\∀i,i<V.length->w.cell? ⟨b,off+i*3,none⟩=some (.int .i64 (vAt V i).1)/\w.cell? ⟨b,off+i*3+1,none⟩=some (.int .i64 (vAt V i).2.1)/\w.cell? ⟨b,off+i*3+2,none⟩=some (.string (vAt V i).2.2)
theorem zgN.below{w w':World}{a:zua}{V:List (Int×Int×ByteArray)}(h:zgN w a V)(c:Bw w w'):zgN w' a V:=by
 rcases h with h|⟨b,e,h,d,f⟩
 . exact .inl h
 exact .inr ⟨b,e,h,ztU d c.size,λi hi=>⟨zj (f i hi).1 d c,zj (f i hi).2.1 d c,zj (f i hi).2.2 d c⟩⟩
theorem zgN.cells{w:World}{a:zua}{V:List (Int×Int×ByteArray)}(h:zgN w a V)(c:0<V.length):∃b off,a=some ⟨b,off,none⟩/\b<w.heap.size/\∀i,i<V.length->w.cell? ⟨b,off+i*3,none⟩=some (.int .i64 (vAt V i).1)/\w.cell? ⟨b,off+i*3+1,none⟩=some (.int .i64 (vAt V i).2.1)/\w.cell? ⟨b,off+i*3+2,none⟩=some (.string (vAt V i).2.2):=by
 rcases h with rfl|h
 . simp at c
 exact h
theorem zo2:∀(V:List (Int×Int×ByteArray)) (i:Nat),i<V.length->(vRow V)[i*3]?=some (.int .i64 (vAt V i).1)/\(vRow V)[i*3+1]?=some (.int .i64 (vAt V i).2.1)/\(vRow V)[i*3+2]?=some (.string (vAt V i).2.2)
 |[],i,h=>by simp at h
 |x::V,0,_=>⟨rfl,rfl,rfl⟩
 |x::V,i+1,h=>by
  have a:=zo2 V i (by simpa using h);have e:vRow (x::V)=.int .i64 x.1::.int .i64 x.2.1::.string x.2.2::vRow V:=rfl;have b:vAt (x::V) (i+1)=vAt V i:=rfl;rw[e,b];have c:(i+1)*3=i*3+1+1+1:=by omega
  rw[c];simp only[List.getElem?_cons_succ];exact a
theorem zgN.of_own{w:World}{b:Nat}{v:Value}{V:List (Int×Int×ByteArray)}(h:w.ownsRow b 94 3 v V.length (vRow V)):∃a c,v=.slice a V.length c/\zgN w a V:=by
 rcases h.2 with⟨e,f⟩|⟨g,c,m,rfl,e,d,n,o,p,q⟩
 . exact⟨none,0,by rw[e,f],.inl (List.length_eq_zero_iff.1 f)⟩
 refine⟨_,_,rfl,.inr ⟨g,0,rfl,ztW d,λi hi=>?_⟩⟩;obtain⟨j,k,l⟩:=zo2 V i hi;rw[<-q,List.getElem?_take,if_pos (by omega)]at j k l;exact⟨zm d (by rw[Nat.zero_add];simpa using j),zm d (by rw[Nat.zero_add];simpa using k),zm d (by rw[Nat.zero_add];simpa using l)⟩
def refV(c:ConM)(k:Nat)(ix:Int)(q:List Int)(j:Nat):List (Int×Int×ByteArray):=(refB c k q j).map λs=>((k:Int),ix,s)
theorem zpH{c:ConM}{k:Nat}{ix:Int}{q:List Int}{j:Nat}(a:(rlAt c.rules j).scope=(k:Int))(b:fval q (cmpX c k (rlAt c.rules j).ex)=0):refV c k ix q (j+1)=refV c k ix q j++ [((k:Int),ix,(rlAt c.rules j).name)]:=by
 unfold refV;rw[znb a b,zt3];rfl
theorem zm8(c:ConM)(k:Nat)(ix:Int)(q:List Int)(j:Nat):(refV c k ix q j).length<=j:=by
 unfold refV;rw[List.length_map];exact zna c k q j
def VOwn(w:World)(V:List (Int×Int×ByteArray))(e:Ending)(w':World):Prop:=∃v base,e=.returned v/\w.heap.size<=base/\w'.ownsRow base 94 3 v V.length (vRow V)/\Below w.heap.size w w'
theorem zoQ(c:ConM)(p:ConP)(B:Nat)(w:World)(s:B<=w.heap.size)(a0:c.consts.length<=p.cc/\p.cc<=140737488355328)(hC:valT c=0)(hc:zdr B w c p)(k:Nat)(hk:k<4)(G:Int)(Q:G=(k:Int))(ix:Int)(q0 q:List Int)(hQ:zoM k q0 q)(ta:zua)(tc:Nat)(m:Nat)(hm:m=q0.length)(hA:zcs w ta ((zk k).zip q0)):
 Calls prog 44 #[aggC c p,G,ix,.slice ta m tc] w (VOwn w (refV c k ix q c.rules.length)):=by
 try delta aggC aggT
 obtain⟨i0,hi,a1,a3,a4⟩:=info_parts zqo;have HC:=I hc;have HA:=I hA;have HQ:=I hQ;have a5:=I (zhU hC);have a6:=I hC;have t:=I Q;have HM:=I hm;obtain⟨b4,b5,b6,b7⟩:=zda hC;clear hc hA hQ hC Q hm;go_enter func44,ntmps44
 go_wp2_with fail;have HB:=I (J w (objC c p));have QC:=I (zh w (objC c p));obtain⟨cb,H⟩:∃cb,cb=w.heap.size:=⟨_,rfl⟩;rw[<-H]at QC;simp only[<-H];clear H;generalize w.alloc (objC c p)=W at*;refine(zfn c.consts p.ca p.cc B W (ztV s HB.1.size) a0 (by omega) (HC.1.keep (HB.1.mono s)).consts a5.1).mono ?_;rintro e u ⟨va,vc,rfl,hI,K⟩;have g:=I (ztS HB.1 K);have f:=I (blkA K QC.1);have HI:=I hI;have z:B<=u.heap.size:=ztV s g.1.size;have R:=I (HC.1.keep (g.1.mono s));have a7:=I (HA.1.below g.1);clear K HB QC hI HC HA;go_wp2_with fail;go_loopw [9,11] (λx y wr=>∃(j:Nat) (v:Value),j<=c.rules.length/\y=.int .i64 j/\v=x/\ztR (wr.ownsRow u.heap.size 94 3 v (refV c k ix q j).length (vRow (refV c k ix q j)))/\ztR (Bw u wr)) (λ_ y _=>c.rules.length-(intOf y).toNat)
 case atStart=>exact⟨0,_,ztX _,rfl,rfl,I (World.ownsRow_nil _ _ _ _),I (ztT _ _)⟩
 obtain⟨j,v,hj,rfl,rfl,hO,a⟩:=hrel;by_cases S:j<c.rules.length
 . obtain⟨b,a8,T,hb,U⟩:=(R.1.keep (a.1.mono z)).rules.cells (by omega);obtain⟨r0,r1,a9,b0,a2,d,⟨e0,e1,e2,e3⟩,E,i⟩:=U j S;have b1:b<wr.heap.size:=by have:=a.1.size;omega
   have y8:wr.cell? ⟨cb,8,none⟩=some (.slice (some ⟨b,a8,none⟩) c.rules.length p.rc):=by rw[<-T];exact zm (j:=8) (blkA a.1 f.1) rfl
   have yl:=ztW (blkA a.1 f.1);have HF:=I E;have b2:=I i;clear U i E b0 a9 T;have BX:=J wr (oR (rlAt c.rules j) a2 d);have A:=I (zh wr (oR (rlAt c.rules j) a2 d));have C:=I (ztS a.1 BX);have OX:=I (zcn hO.1 BX);have b3:B<=wr.heap.size:=ztV z a.1.size;have V:=I (b2.1.keep (Below.mono BX b3));go_upto_region 7 with fail
   clear y8 yl r0 r1 e0 e1 e2 e3 b1 BX;obtain⟨rb,L⟩:∃rb,rb=wr.heap.size:=⟨_,rfl⟩;rw[<-L]at A;simp only[<-L];clear L;generalize (wr.alloc (oR (rlAt c.rules j) a2 d))=X at*;have n0:=zw A.1;have n1:=zu A.1;have nl:=ztW A.1;by_cases M:(rlAt c.rules j).scope=(k:Int)
   . have es:((rlAt c.rules j).scope==G)=true:=by rw[t.1];simpa using M
     obtain⟨g1,g2,g3⟩:=zm6 a6.1 hk HQ.1.ok S M;have n2:=zC A.1;have n3:=zaj A.1;have n4:=zbe A.1;have n5:=zbn A.1;have y7:=zaK (blkA C.1 f.1);have yl:=ztW (blkA C.1 f.1);have Y:B<=X.heap.size:=ztV z C.1.size;have CV:=I (zi7 B c.consts p.ca p.cc G k t.1 hk va vc q0 q HQ.1 ta tc m HM.1 (rlAt c.rules j).ex a2 d X Y HF.1 g1 g2 V.1 g3 (HI.1.below C.1) (R.1.keep (C.1.mono z)).consts (a7.1.below C.1));have HS:=I M;clear g1 g2 g3 M;go_wp2_with fail;refine CV.1.mono ?_;rintro e w4 ⟨rfl,D⟩;have N:=I (ztS C.1 D);have O4:=I (zcn OX.1 D);have Q4:=I (blkA D A.1);clear CV D n0 n1 n2 n3 n4 n5 nl y7 yl Y;obtain⟨Z,l⟩:∃Z,Z=fval q (cmpE (cvC c.consts c.consts.length) k (rlAt c.rules j).ex):=⟨_,rfl⟩;rw[<-l];by_cases P:Z=0
     . have n:=I (zpH (ix:=ix) HS.1 (show fval q (cmpX c k (rlAt c.rules j).ex)=0 from l.symm.trans P));have e0:(Z==0)=true:=by simpa using P
       have n1:=zu Q4.1;have nl:=ztW Q4.1;have b8:=zm8 c k ix q j;clear P l;go_wp2_with (at_builtin;refine wpList_append_own _ rfl _ _ 50 rfl u.heap.size 94 i0 (.agg #[.int .i64 0,.int .i64 0,.string ByteArray.empty]) 3 32 underlying50 hi a1 a3 a4 rfl (by decide) _ _ _ rfl (O4.1.alloc _) ⟨w4.heap.size,0,none⟩ 1 1 [.int .i64 G,.int .i64 ix,.string (rlAt c.rules j).name] rfl rfl ?c1 ?c2 ?c3 ?c4 ?c5 ?_)
       case c1=>exact zaa w4 [.int .i64 G,.int .i64 ix,.string (rlAt c.rules j).name] 94
       case c2=>intro x hx;simp at hx;rcases hx with rfl|rfl|rfl <;> rfl
       case c3=>unfold maxLen;omega
       case c4=>omega
       case c5=>have:=N.1.size;simp;omega
       intro v' w5 o r _;have H5:=I ((N.1.alloc N.1.size _).grown r (by have:=N.1.size;simp;omega) (λm hm'=>zaM O4.1 m hm'))
       have F:=I (show w5.ownsRow u.heap.size 94 3 v' (refV c k ix q (j+1)).length (vRow (refV c k ix q (j+1))) by
        rw[n.1,zt2,vRow,List.flatMap_append,<-t.1];exact o)
       clear o r;go_wp2_with fail;go_roundw
       case rel=>first|exact⟨j+1,_,by omega,by go_num,rfl,F,H5⟩|((repeat apply Exists.intro);exact⟨⟨j+1,_,by omega,by go_num,rfl,F,H5⟩,rfl⟩)
       case measure=>simp[intOf];omega
     have n:=I (show refV c k ix q (j+1)=refV c k ix q j by unfold refV;rw[zm9 (show fval q (cmpX c k (rlAt c.rules j).ex)≠0 from λh=>P (l.trans h))]);have e0:(Z==0)=false:=by simpa using P
     have F:=I (show w4.ownsRow u.heap.size 94 3 v (refV c k ix q (j+1)).length (vRow (refV c k ix q (j+1))) by rw[n.1];exact O4.1);clear P l;go_wp2_with fail;go_roundw
     case rel=>first|exact⟨j+1,_,by omega,by go_num,rfl,F,N⟩|((repeat apply Exists.intro);exact⟨⟨j+1,_,by omega,by go_num,rfl,F,N⟩,rfl⟩)
     case measure=>simp[intOf];omega
   have es:((rlAt c.rules j).scope==G)=false:=by rw[t.1];simpa using M
   have n:=I (show refV c k ix q (j+1)=refV c k ix q j by unfold refV;rw[zpJ M]);have F:=I (show X.ownsRow u.heap.size 94 3 v (refV c k ix q (j+1)).length (vRow (refV c k ix q (j+1))) by rw[n.1];exact OX.1);clear M;go_wp2_with fail;go_roundw
   case rel=>first|exact⟨j+1,_,by omega,by go_num,rfl,F,C⟩|((repeat apply Exists.intro);exact⟨⟨j+1,_,by omega,by go_num,rfl,F,C⟩,rfl⟩)
   case measure=>simp[intOf];omega
 obtain rfl:j=c.rules.length:=by omega
 have y8:=zaX (blkA a.1 f.1);have yl:=ztW (blkA a.1 f.1);go_wp2_with fail;go_ret;exact⟨v,u.heap.size,rfl,g.1.size,hO.1,ztS g.1 a.1⟩
theorem zqP(c:ConM)(p:ConP)(B:Nat)(w:World)(g:B<=w.heap.size)(U:c.consts.length<=p.cc/\p.cc<=140737488355328)(P:valT c=0)(hc:zdr B w c p)(k:Nat)(V:k<4)(z:Int)(A:z=(k:Int))(Q q:List Int)(hQ:zoM k Q q)(X:zua)(tc:Nat)(m:Nat)(hm:m=Q.length)(hA:zcs w X ((zk k).zip Q)):
 Calls prog 47 #[aggC c p,z,.slice X m tc] w λe w'=>e=.returned (refC c k q c.costs.length)/\Bw w w':=by
 try delta aggC aggT
 have Y:=I hc;have HA:=I hA;have Z:=I hQ;have a0:=I (zhU P);have C:=I P;have n:=I A;have HM:=I hm;obtain⟨a7,a8,a9,b0⟩:=zda P;clear hc hA hQ P A hm;go_enter func47,ntmps47
 go_wp2_with fail;have R:=I (J w (objC c p));have QC:=I (zh w (objC c p));obtain⟨cb,o⟩:∃cb,cb=w.heap.size:=⟨_,rfl⟩;rw[<-o]at QC;simp only[<-o];clear o;generalize w.alloc (objC c p)=W at*;refine(zfn c.consts p.ca p.cc B W (ztV g R.1.size) U (by omega) (Y.1.keep (R.1.mono g)).consts a0.1).mono ?_;rintro e w1 ⟨va,vc,rfl,hI,r⟩;have h:=I (ztS R.1 r);have t:=I (blkA r QC.1);have HI:=I hI;have u:B<=w1.heap.size:=ztV g h.1.size;have D:=I (Y.1.keep (h.1.mono g));have a1:=I (HA.1.below h.1);clear r R QC hI Y HA;go_wp2_with fail;go_loopw [7,9] (λx y wr=>∃(j:Nat) (s:Int),j<=c.costs.length/\y=.int .i64 j/\x=.int .i64 s/\ztR (s=refC c k q j)/\ztR (Bw w1 wr)) (λ_ y _=>c.costs.length-(intOf y).toNat)
 case atStart=>exact⟨0,_,ztX _,rfl,rfl,I rfl,I (ztT _ _)⟩
 obtain⟨j,s,hj,rfl,rfl,i,a⟩:=hrel;have y7:=zaK (blkA a.1 t.1);have y9:=zbr (blkA a.1 t.1);have yl:=ztW (blkA a.1 t.1);by_cases E:j<c.costs.length
 . obtain⟨b,b1,F,hb,G⟩:=(D.1.keep (a.1.mono u)).costs.cells (by omega);obtain⟨r0,a3,a2,H,⟨e0,e1,e2,e3⟩,l,d⟩:=G j E;have b2:b<wr.heap.size:=by have:=a.1.size;omega
   rw[F]at y9;have K:B<=wr.heap.size:=ztV u a.1.size;have HF:=I l;have a4:=I d;clear G d l F a3;by_cases v:(coAt c.costs j).scope=(k:Int)
   . have es:((coAt c.costs j).scope==z)=true:=by rw[n.1];simpa using v
     obtain⟨g1,g2,g3,g4⟩:=zj1 C.1 V Z.1.ok E v;have L:=zpI C.1 V Z.1.ok j hj;rw[<-i.1]at L;obtain⟨y,S⟩:∃y,y=fval q (cmpE (cvC c.consts c.consts.length) k (coAt c.costs j).ex):=⟨_,rfl⟩;have a5:inR y:=by rw[S];exact g4
     unfold inR at a5
     have f:=I (show s+y=refC c k q (j+1) by rw[zjt v,<-i.1,S];rfl);have T:=I (λdd os=>ztZ (zi7 B c.consts p.ca p.cc z k n.1 V va vc Q q Z.1 X tc m HM.1 (coAt c.costs j).ex a2 H (grow (redrawn wr dd) os) (ztV K (below_regrown wr dd os).size) HF.1 g1 g2 (a4.1.keep ((below_regrown wr dd os).mono K)) g3 (HI.1.below (ztS a.1 (below_regrown wr dd os))) (D.1.keep ((ztS a.1 (below_regrown wr dd os)).mono u)).consts (a1.1.below (ztS a.1 (below_regrown wr dd os)))));rw[<-S]at T;have ew:IntKind.i64.wrap (s+y)=s+y:=by rw[IntKind.wrap_i64];omega
     clear g1 g2 g3 g4 v S L;go_wp2_with fail;have t0:=λdd os=>cell_regrown y7 dd os
     have t1:=λdd os=>cell_regrown y9 dd os
     have t2:=λdd os=>cell_regrown e0 dd os
     have t3:=λdd os=>cell_regrown e1 dd os
     have t4:=λdd os=>cell_regrown e2 dd os
     have t5:=λdd os=>cell_regrown e3 dd os
     refine wp_region_quiet_below (by kernel_rfl) (by kernel_rfl) ?_;repeat (first|go_big_quiet_step (first|(with_reducible exact T.1 _ _))|quiet_step (first|(with_reducible exact T.1 _ _)))
     refine wpQuiet_nil ?_;intro _ a6;obtain⟨⟨dq,M⟩,N⟩:=a6;subst N;have H2:=I (ztS a.1 (below_regrown wr dq M));clear T t0 t1 t2 t3 t4 t5 y7 y9 yl e0 e1 e2 e3 r0;generalize grow (redrawn wr dq) M=W2 at*;go_wp2_with fail;go_roundw
     case rel=>first|exact⟨j+1,_,by omega,by go_num,rfl,f,H2⟩|((repeat apply Exists.intro);exact⟨⟨j+1,_,by omega,by go_num,rfl,f,H2⟩,rfl⟩)
     case measure=>simp[intOf];omega
   have es:((coAt c.costs j).scope==z)=false:=by rw[n.1];simpa using v
   have f:=I (show s=refC c k q (j+1) by rw[zl5 v];exact i.1);clear v;go_wp2_with fail;go_roundw
   case rel=>first|exact⟨j+1,_,by omega,by go_num,rfl,f,a⟩|((repeat apply Exists.intro);exact⟨⟨j+1,_,by omega,by go_num,rfl,f,a⟩,rfl⟩)
   case measure=>simp[intOf];omega
 obtain rfl:j=c.costs.length:=by omega
 go_wp2_with fail;go_ret;exact⟨ze i.1,ztS h.1 a.1⟩
end Go.Proofs.YtbhhejkolnigfaaGreat
