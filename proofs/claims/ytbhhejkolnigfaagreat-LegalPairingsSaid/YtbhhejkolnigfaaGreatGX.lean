/- a part of the proof -/
import Derived.Test.YtbhhejkolnigfaaGreatGW
import Derived.Test.YtbhhejkolnigfaaGreatGS
set_option linter.unusedVariables false
set_option linter.unusedSimpArgs false
set_option maxRecDepth 100000
set_option maxHeartbeats 51200000
namespace Go.Proofs.YtbhhejkolnigfaaGreat
open Go.RowKit Go.Sort Go.Proofs.Tryz
theorem zuN(w:World)(t:TTM)(c:ConM)(a:zua)(b:Nat)(d:zua)(e:Nat)(fa:zua)(fc:Nat)(p:ConP):Bw w ((w.alloc (objT t a b d e fa fc)).alloc (objC c p))/\((w.alloc (objT t a b d e fa fc)).alloc (objC c p)).heap[w.heap.size]?=some (objT t a b d e fa fc)/\((w.alloc (objT t a b d e fa fc)).alloc (objC c p)).heap[w.heap.size+1]?=some (objC c p):=
 ⟨ztS (J w _) (J _ _),zd (zh w _),by have h:=zh (w.alloc (objT t a b d e fa fc)) (objC c p);rw[zr]at h;exact h⟩
theorem pc2{w:World}{q:Nat}{T:TypeId}{a b:Value}(h:w.heap[q]?=some (Obj.cells #[a,b] T)):w.cell? ⟨q,0,none⟩=some a/\w.cell? ⟨q,1,none⟩=some b/\w.frozen? ⟨q,0,none⟩=false/\w.frozen? ⟨q,1,none⟩=false/\q<w.heap.size:=⟨zm (j:=0) h rfl,zm (j:=1) h rfl,zQ (j:=0) h,zQ (j:=1) h,ztW h⟩
theorem ownT{w:World}{B:Nat}{T:TypeId}{s:Nat}{v:Value}{n nq:Nat}{xs xq:List Value}(h:w.ownsRow B T s v n xs)(a:n=nq)(b:xs=xq):w.ownsRow B T s v nq xq:=by subst a b;exact h
theorem zuD{w:World}{c:Nat}{v:Value}{N:List ByteArray}{q:List Int}(h:w.ownsRow c 79 2 v q.length (zbL N q q.length))(d:q.length=N.length)(o:0<q.length):∃(g b:Nat) (a:Array Value),v=.slice (some ⟨g,0,none⟩) q.length b/\w.heap[g]?=some (Obj.cells a 79)/\∀i,i<q.length->a[i*2+1]?=some (.int .i64 (iAt q i)):=by
 rcases h.2 with⟨f,p⟩|⟨g,b,a,rfl,f,j,k,l,m,n⟩
 . omega
 refine⟨g,b,a,rfl,j,λi hi=>?_⟩;obtain⟨r,e⟩:=zfr N q d q.length (ztY _) i hi;rw[znt d hi,<-n,List.getElem?_take,if_pos (by omega)]at e;simpa using e
theorem zuA{q:List Int}{k:Nat}(h:k<q.length):q.take (k+1)=q.take k++ [iAt q k]:=by
 rw[List.take_succ_eq_append_getElem h,iAt,zt0,zt1 h];rfl
theorem zus(t:TTM)(c:ConM)(za:zua)(zc:Nat)(aa:zua)(ac:Nat)(fa:zua)(fc:Nat)(p:ConP)(w:World)(hT:zY t=0)(hC:valT c=0)(hz:SlAt zcg w za t.zones)(ha:SlAt zei w aa t.airs)(hf:SlAt zam w fa t.fls)(s:ByteArray)(x y:Duty)(xa ya:zua)(xc yc:Nat)(M:za6 t c x=0)(a9:za6 t c y=0)(hx:SlAt za3 w xa x)(hy:SlAt za3 w ya y):
 Calls prog 90 #[aggT t za zc aa ac fa fc,aggC c p,.string s,.slice xa x.length xc,.slice ya y.length yc] w (ARow w (zk 2) (zuh t c s x y)):=by
 try delta aggC aggT
 obtain⟨i0,hi,d1,d2,d3⟩:=info_parts zjJ;have HT:=I hT;have HC:=I hC;have HZ:=I hz;have HA:=I ha;have HF:=I hf;have d4:=I M;have d5:=I a9;have b0:=I hx;have d6:=I hy;obtain⟨d7,d8,k5,k6⟩:(tAt x (x.length-1)).1=(lstN x:Int)/\lstN x<t.fls.length/\1<=x.length/\x.length<=6:=⟨(zfN M).2.2.1,(zfN M).2.2.2,(zcp M).1,(zcp M).2.1⟩;have bx:=zuj hT hC M;have bY:=zuj hT hC a9;have b1:=(zcJ hT).2.2;have HM:=I d7;obtain⟨r,V⟩:∃r,r=(zcK t c y).1:=⟨_,rfl⟩;obtain⟨z,X⟩:∃z,z=(zcK t c x).2:=⟨_,rfl⟩;obtain⟨B,a5⟩:∃B,B=(fAt t.fls (lstN x)).to:=⟨_,rfl⟩;have HK:=I (show hasB (t.airs.map AirM.code) B=true by rw[a5];exact(zfV hT d8).2);have hw:IntKind.i64.wrap (r-z)=r-z:=by rw[IntKind.wrap_i64,V,X];omega
 obtain⟨S,b2⟩:∃n,n=(zdh (zp t B).name.data.toList (zp t B).off (zp t B).sh z r c.nf c.nt).1:=⟨_,rfl⟩;obtain⟨P,b3⟩:∃n,n=(zc2 (B.toList==s.toList)):=⟨_,rfl⟩;have d9:=I b3.symm;have j1:=I b2.symm;have j2:=I (zi3 hT B)
 have HQ:=I (show zuh t c s x y=([r-z,S,P]++zaZ t c x)++zaZ t c y by
  rw[zuh,zuv,V,X,b2,b3,if_pos rfl,zuK,zuM,a5,V,X,zc2];rfl)
 have f0:=I V.symm;have f7:=I X.symm;have j3:=I a5.symm;have FD:=I (And.intro (λw:World=>(by kernel_rfl:(Instr.field 144 (.agg #[.int .i64 (zcK t c x).1,z]) 1).run prog w=.ok (.int .i64 z) w)) (λw:World=>(by kernel_rfl:(Instr.field 144 (.agg #[r,.int .i64 (zcK t c y).2]) 0).run prog w=.ok (.int .i64 r) w)));clear hT hC hz ha hf M a9 hx hy d7 bx bY V X a5 b3 b2;go_enter func90,ntmps90
 go_wp2_with fail;obtain⟨hB,T,b4⟩:=zuN w t c za zc aa ac fa fc p;have Q:=I hB;obtain⟨cb,b5⟩:∃cb,cb=w.heap.size+1:=⟨_,rfl⟩;rw[<-b5]at b4;simp only[<-b5];clear b5 hB;generalize (w.alloc (objT t za zc aa ac fa fc)).alloc (objC c p)=W at*;have QT:=I T;have QC:=I b4;clear T b4;refine' rely [⟨20, [],.kn _⟩,⟨21, [],.kn _⟩,⟨22, [],.kn _⟩,⟨23, [20,21,22],.kn (.agg #[.int .i64 (zcK t c x).1,z])⟩,⟨24, [23],.kn _⟩,⟨25, [],.kn _⟩,⟨26, [],.kn _⟩,⟨27, [],.kn _⟩,⟨28, [25,26,27],.kn (.agg #[r,.int .i64 (zcK t c y).2])⟩,⟨29, [28],.kn _⟩,⟨30, [24,29],.kn _⟩,⟨11, [],.bx jE⟩,⟨1012, [11,30],.st 11 30 λ_ o=>o=(oQ z r)⟩] [3,4,5,6] [1012] (λ_ h=>And.intro (zdn (blkA h QT.1)) (zbZ (blkA h QC.1))) ?h3 ?c3 ?f3
 case h3=>
  intro u;simp only[rlE,↓reduceIte,Nat.reduceEqDiff];intros
  have f1:=FD.1.1;have f2:=FD.1.2;refine⟨?_,?_,?_,?_,?_,?_,?_,?_,?_,?_,?_,?_,?_,trivial⟩
  all_goals try (intros;refine rlK (by assumption) ?_;go_simp <;> rfl)
  . intro A L e j g f1 f2 f3 K k;go_simp;refine(zhi t c za zc aa ac fa fc p L HT.1 HC.1 (HF.1.below (ztS Q.1 j)) x xa xc d4.1 (b0.1.below (ztS Q.1 j))).mono ?_;rintro e' w2 ⟨rfl,h⟩;exact k.1 _ _ ⟨h,by first|rfl|rw[f0.1]|rw[f7.1]⟩
  . intro A L e j g f1 f2 f3 K k;go_simp;refine(zhi t c za zc aa ac fa fc p L HT.1 HC.1 (HF.1.below (ztS Q.1 j)) y ya yc d5.1 (d6.1.below (ztS Q.1 j))).mono ?_;rintro e' w2 ⟨rfl,h⟩;exact k.1 _ _ ⟨h,by first|rfl|rw[f0.1]|rw[f7.1]⟩
  . intro A L e j g K k;go_simp;exact k.1 _ _ ⟨J _ _,rfl,zh _ _⟩
  rintro A L e j g ⟨p,U,_,G⟩ h3 K k;obtain⟨z0,z1,g0,g1,gl⟩:=pc2 G;go_simp;exact k.1 undef _ ⟨p,_,U,stS (stS (stR p L)),zg (i:=1) (zg (i:=0) G),rfl⟩
 case c3=>kernel_rfl
 intro u w3 j;simp only[rlE,rlF,Act.put,O,↓reduceIte,Nat.reduceEqDiff];rintro⟨sp,_,e1,_,f8,rfl⟩;rw[e1];have T:=blkA j QT.1;have a6:=I (ztS Q.1 j);have f9:=I (blkA j QC.1);have QS:=I f8;have g2:=I T;obtain⟨x0,x1,x2,xl⟩:=zdn T;clear T f8 Q QT QC j e1;have g3:∀w:World,(Instr.field 82 (.agg #[.string (fAt t.fls (lstN x)).num,.string (fAt t.fls (lstN x)).frm,.string (fAt t.fls (lstN x)).to,(fAt t.fls (lstN x)).dep,(fAt t.fls (lstN x)).arr,.string (fAt t.fls (lstN x)).typ,(fAt t.fls (lstN x)).n0,(fAt t.fls (lstN x)).n1,(fAt t.fls (lstN x)).n2]) 2).run prog w=.ok (.string (fAt t.fls (lstN x)).to) w:=λ_=>by kernel_rfl
 go_wp2_with fail;refine(zlb t za zc aa ac fa fc w3 (HF.1.below a6.1) b1 x xa xc ⟨by omega,by omega⟩ (b0.1.below a6.1) (lstN x) HM.1 d8).mono ?_;rintro e w4 ⟨rfl,Y⟩;rw[j3.1]at g3 ⊢;have b6:=I (blkA Y g2.1);have b7:=I (blkA Y f9.1);have b8:=I (blkA Y QS.1);have D:=I (ztS a6.1 Y);clear Y a6 g2 f9 QS x0 x1 x2 xl;go_wp2_with fail;clear g3;refine' rely [⟨36, [],.kn _⟩,⟨37, [],.kn _⟩,⟨38, [36,37],.pu λv=>∃a k,v=.agg #[.string (zp t B).name,(zp t B).off,.slice a (zp t B).sh.length k]/\ShAt w a (zp t B).sh/\(zp t B).name.size<=140737488355328⟩,⟨39, [],.kn _⟩,⟨40, [],.kn _⟩,⟨41, [40],.kn _⟩,⟨42, [],.kn _⟩,⟨43, [42],.kn _⟩,⟨44, [38,39,41,43],.kn (.tuple #[.int .i64 (zdh (zp t B).name.data.toList (zp t B).off (zp t B).sh z r c.nf c.nt).1,.int .i64 (zdh (zp t B).name.data.toList (zp t B).off (zp t B).sh z r c.nf c.nt).2])⟩,⟨35, [44],.kn _⟩,⟨45, [35],.kn _⟩,⟨46, [35],.kn _⟩,⟨13, [45],.kn _⟩,⟨14, [46],.kn _⟩] [5,6,11,12] [13,14] (λ_ h=>And.intro (zdn (blkA h b6.1)) (And.intro (zbZ (blkA h b7.1)) (zuw (blkA h b8.1)))) ?h4 ?c4 ?f4
 case h4=>
  intro u;simp only[rlE,↓reduceIte,Nat.reduceEqDiff];intros
  refine⟨?_,?_,?_,?_,?_,?_,?_,?_,?_,?_,?_,?_,?_,?_,trivial⟩
  all_goals try (intros;refine rlK (by assumption) ?_;go_simp <;> rfl)
  . intro A L e j g f1 f2 K k;go_simp;refine(zaN t za zc aa ac fa fc L HT.1 w (ztS D.1 j) HZ.1 HA.1 B HK.1).mono ?_;rintro e' w2 ⟨a,q,rfl,G,h3,_,h4⟩;exact k.1 _ _ ⟨h4,a,q,rfl,G,h3⟩
  rintro A L e j g ⟨a,q,U,G,h3⟩ f2 f3 f4 K k;go_simp;refine(ztJ (zp t B).name (zp t B).off z r c.nf c.nt (zp t B).sh a q L (by unfold maxLen;omega) (by have:=j2.1;omega) (G.below (ztS D.1 j))).mono ?_;rintro e' w2 ⟨rfl,h⟩;exact k.1 _ _ ⟨h,rfl⟩
 case c4=>kernel_rfl
 intro u1 w6 j;simp only[rlE,rlF,Act.put,O,↓reduceIte,Nat.reduceEqDiff];intro U G;rw[U,G,j1.1];have g4:=I (blkA j b8.1);have g5:=I (blkA j b6.1);have g6:=I (blkA j b7.1);have b9:=I (ztS D.1 j);clear j U G D b8 b6 b7;go_wp2_with fail;refine' rely [⟨47, [],.kn _⟩,⟨48, [47],.kn _⟩,⟨49, [],.kn _⟩,⟨50, [49],.kn _⟩,⟨51, [48,50],.kn _⟩,⟨52, [],.kn _⟩,⟨53, [],.kn _⟩,⟨54, [],.kn _⟩,⟨55, [53,54],.kn _⟩,⟨56, [55],.kn (.int .i64 P)⟩,⟨57, [51,52,56],.bs 3 3 (.cells [.int .i64 (r-z),.int .i64 S,.int .i64 P].toArray 3)⟩,⟨15, [57],.cp 57⟩] [2,11,12,13] [57,15] (λ_ h=>zuw (blkA h g4.1)) ?h5 ?c5 ?f5
 case h5=>
  intro u;simp only[rlE,↓reduceIte,Nat.reduceEqDiff];intros
  refine⟨?_,?_,?_,?_,?_,?_,?_,?_,?_,?_,?_,?_,trivial⟩
  all_goals try (intros;refine rlK (by assumption) ?_;go_simp <;> rfl)
  . intro A L e j g f1 K k;go_simp;refine(zfO _ _).mono ?_;rintro e' w2 ⟨rfl,rfl⟩;exact k.1 _ _ ⟨ztT _ _,by rw[d9.1]⟩
  intro A L e j g f1 f2 f3 K k;go_simp;exact k.1 _ (L.alloc (.cells [.int .i64 (r-z),.int .i64 S,.int .i64 P].toArray 3)) ⟨J _ _,rfl,zh _ _⟩
 case c5=>kernel_rfl
 intro u2 w8 j;simp only[rlE,rlF,Act.put,O,↓reduceIte,Nat.reduceEqDiff];rintro⟨vb,U,G,h3⟩ h4;rw[h4,U];have g7:w.heap.size<=vb:=ztV b9.1.size G;have g8:=I (blkA j g5.1);have g9:=I (blkA j g6.1);have E:=I (ztS b9.1 j);have h0:=I h3;have h7:=I g7;clear j U G h3 h4 b9 g5 g6 g4 hw d9 g7;go_wp2_with fail;refine' rely [⟨58, [],.kn _⟩,⟨59, [],.kn _⟩,⟨60, [],.kn _⟩,⟨61, [58,59,60],.ow (λv w'=>∃g N H,v=.slice (some ⟨g,0,none⟩) 11 N/\w'.heap[g]?=some (Obj.cells H 79)/\∀i,i<11->H[i*2+1]?=some (.int .i64 (iAt (zaZ t c x) i))) (λ_ _ _ ⟨a,b,d,e,f,g⟩ h=>⟨a,b,d,e,blkA h f,g⟩)⟩,⟨62, [],.kn _⟩,⟨63, [],.kn _⟩,⟨64, [],.kn _⟩,⟨65, [62,63,64],.ow (λv w'=>∃g N H,v=.slice (some ⟨g,0,none⟩) 11 N/\w'.heap[g]?=some (Obj.cells H 79)/\∀i,i<11->H[i*2+1]?=some (.int .i64 (iAt (zaZ t c y) i))) (λ_ _ _ ⟨a,b,d,e,f,g⟩ h=>⟨a,b,d,e,blkA h f,g⟩)⟩,⟨16, [61],.cp 61⟩,⟨17, [65],.cp 65⟩] [3,4,5,6] [61,65,16,17] (λ_ h=>And.intro (zdn (blkA h g8.1)) (zbZ (blkA h g9.1))) ?h6 ?c6 ?f6
 case h6=>
  intro u;simp only[rlE,↓reduceIte,Nat.reduceEqDiff];intros
  refine⟨?_,?_,?_,?_,?_,?_,?_,?_,?_,?_,trivial⟩
  all_goals try (intros;refine rlK (by assumption) ?_;go_simp <;> rfl)
  . intro A L e j g f1 f2 f3 K k;go_simp;refine(zin t c za zc aa ac fa fc p L HT.1 HC.1 (HZ.1.below (ztS E.1 j)) (HA.1.below (ztS E.1 j)) (HF.1.below (ztS E.1 j)) x xa xc d4.1 (b0.1.below (ztS E.1 j))).mono ?_;rintro e' w2 ⟨v,Z,rfl,U,G,h3⟩;obtain⟨g1,N,H,rfl,h4,h5⟩:=zuD G rfl (by rw[zeD];decide);rw[zeD]at h5;exact k.1 _ _ ⟨h3,g1,N,H,rfl,h4,h5⟩
  intro A L e j g f1 f2 f3 K k;go_simp;refine(zin t c za zc aa ac fa fc p L HT.1 HC.1 (HZ.1.below (ztS E.1 j)) (HA.1.below (ztS E.1 j)) (HF.1.below (ztS E.1 j)) y ya yc d5.1 (d6.1.below (ztS E.1 j))).mono ?_;rintro e' w2 ⟨v,Z,rfl,U,G,h3⟩;obtain⟨g1,N,H,rfl,h4,h5⟩:=zuD G rfl (by rw[zeD];decide);rw[zeD]at h5;exact k.1 _ _ ⟨h3,g1,N,H,rfl,h4,h5⟩
 case c6=>kernel_rfl
 intro u3 c7 j;simp only[rlE,rlF,Act.put,O,↓reduceIte,Nat.reduceEqDiff];rintro⟨gx,k1,k2,h8,h9,i1⟩ ⟨gy,k3,k4,i2,i3,i4⟩ U G;rw[U,G,h8,i2];have i5:=I h9;have i6:=I i1;have j4:=I i3;have i7:=I i4;have a0:=I (ztS E.1 j);have R:=I (blkA j h0.1);have i8:=I (show c7.ownsRow w.heap.size 3 1 (.slice (some ⟨vb,0,none⟩) 3 3) (3+0) (([r-z,S,P]++(zaZ t c x).take 0).map (Value.int .i64)) from⟨rfl,.inr ⟨vb,3,_,rfl,h7.1,R.1,by omega,by unfold maxLen;omega,rfl,rfl⟩⟩);clear h8 h9 i1 i2 i3 i4 U G j E h0 R h7 g8 g9;go_wp2_with fail;go_loopw [18,15] (λi v wr=>∃(k:Nat),k<=11/\i=.int .i64 k/\ztR (wr.ownsRow w.heap.size 3 1 v (3+k) (([r-z,S,P]++(zaZ t c x).take k).map (Value.int .i64)))/\ztR (zkl 3 c7 wr)/\ztR (Bw w wr)) (λi _ _=>11-(intOf i).toNat)
 case atStart=>exact⟨0,by omega,rfl,i8,I (zkl.refl _ _),a0⟩
 obtain⟨k,hk,rfl,hO,F,m⟩:=hrel;by_cases a1:k<11
 . have QA:=F.1.2 _ _ (λ_ _ h=>by cases h) i5.1;have c0:wr.cell? ⟨gx,k*2+1,none⟩=some (.int .i64 (iAt (zaZ t c x) k)):=zm QA (i6.1 k a1);have c8:=ztW QA;have HO:=I hO.1;have Q:=I m.1;have c9:=I (show([r-z,S,P]++(zaZ t c x).take (k+1)).map (Value.int .i64)=([r-z,S,P]++(zaZ t c x).take k).map (Value.int .i64)++ [.int .i64 (iAt (zaZ t c x) k)] by rw[zuA (by rw[zeD];exact a1),<-List.append_assoc,zt3];rfl);clear m hO QA;go_wp2_with (at_builtin;refine wpList_append_own _ rfl _ _ 72 rfl w.heap.size 3 i0 (.int .i64 0) 1 8 underlying72 hi d1 d2 d3 rfl (by decide) _ _ _ rfl (HO.1.alloc _) ⟨wr.heap.size,0,none⟩ 1 1 [.int .i64 (iAt (zaZ t c x) k)] rfl rfl ?c1 ?c2 ?c3 ?c4 ?c5 ?_)
   case c1=>exact zaa wr [.int .i64 (iAt (zaZ t c x) k)] 3
   case c2=>intro u hu;simp at hu;subst hu;rfl
   case c3=>unfold maxLen;omega
   case c4=>omega
   case c5=>have:=Q.1.size;simp;omega
   intro v' d0 C l _;have a2:=I (zkl.append F.1 HO.1 l);have D:=I (zaG (e':=3) Q.1 rfl HO.1 l)
   have a3:=I (show d0.ownsRow w.heap.size 3 1 v' (3+(k+1)) (([r-z,S,P]++(zaZ t c x).take (k+1)).map (Value.int .i64)) by
    rw[c9.1];simpa[Nat.add_assoc] using C)
   clear C l HO Q F c0 c8;go_wp2_with fail;go_roundw
   case rel=>first|exact⟨k+1,by omega,by go_num,a3,a2,D⟩|((repeat apply Exists.intro);exact⟨⟨k+1,by omega,by go_num,a3,a2,D⟩,rfl⟩)
   case measure=>simp[intOf];omega
 obtain rfl:k=11:=by omega
 have j5:=I (ownT (nq:=14+0) (xq:=(([r-z,S,P]++zaZ t c x++(zaZ t c y).take 0).map (Value.int .i64))) hO.1 rfl (by rw[List.take_zero,List.append_nil];rfl));have j6:=I F.1;have j7:=I m.1;clear hO F m i8 a0;go_wp2_with fail;go_loopw [19,15] (λi v wr=>∃(k:Nat),k<=11/\i=.int .i64 k/\ztR (wr.ownsRow w.heap.size 3 1 v (14+k) ((([r-z,S,P]++zaZ t c x)++(zaZ t c y).take k).map (Value.int .i64)))/\ztR (zkl 3 c7 wr)/\ztR (Bw w wr)) (λi _ _=>11-(intOf i).toNat)
 case atStart=>exact⟨0,by omega,rfl,j5,j6,j7⟩
 obtain⟨k,hk,rfl,hO,F,m⟩:=hrel;by_cases a1:k<11
 . have QA:=F.1.2 _ _ (λ_ _ h=>by cases h) j4.1;have c0:wr.cell? ⟨gy,k*2+1,none⟩=some (.int .i64 (iAt (zaZ t c y) k)):=zm QA (i7.1 k a1);have c8:=ztW QA;have HO:=I hO.1;have Q:=I m.1;have c9:=I (show(([r-z,S,P]++zaZ t c x)++(zaZ t c y).take (k+1)).map (Value.int .i64)=(([r-z,S,P]++zaZ t c x)++(zaZ t c y).take k).map (Value.int .i64)++ [.int .i64 (iAt (zaZ t c y) k)] by rw[zuA (by rw[zeD];exact a1),<-List.append_assoc,zt3];rfl);clear m hO QA;go_wp2_with (at_builtin;refine wpList_append_own _ rfl _ _ 72 rfl w.heap.size 3 i0 (.int .i64 0) 1 8 underlying72 hi d1 d2 d3 rfl (by decide) _ _ _ rfl (HO.1.alloc _) ⟨wr.heap.size,0,none⟩ 1 1 [.int .i64 (iAt (zaZ t c y) k)] rfl rfl ?c1 ?c2 ?c3 ?c4 ?c5 ?_)
   case c1=>exact zaa wr [.int .i64 (iAt (zaZ t c y) k)] 3
   case c2=>intro u hu;simp at hu;subst hu;rfl
   case c3=>unfold maxLen;omega
   case c4=>omega
   case c5=>have:=Q.1.size;simp;omega
   intro v' d0 C l _;have a2:=I (zkl.append F.1 HO.1 l);have D:=I (zaG (e':=3) Q.1 rfl HO.1 l)
   have a3:=I (show d0.ownsRow w.heap.size 3 1 v' (14+(k+1)) ((([r-z,S,P]++zaZ t c x)++(zaZ t c y).take (k+1)).map (Value.int .i64)) by
    rw[c9.1];simpa[Nat.add_assoc] using C)
   clear C l HO Q F c0 c8;go_wp2_with fail;go_roundw
   case rel=>first|exact⟨k+1,by omega,by go_num,a3,a2,D⟩|((repeat apply Exists.intro);exact⟨⟨k+1,by omega,by go_num,a3,a2,D⟩,rfl⟩)
   case measure=>simp[intOf];omega
 obtain rfl:k=11:=by omega
 have i9:=I (ownT (nq:=(zuh t c s x y).length) (xq:=((zuh t c s x y).map (Value.int .i64))) hO.1 rfl (by rw[HQ.1];rfl));obtain⟨va,vc,rfl,hI⟩:=zW.of_own i9.1;have HI:=I hI;have j0:=I m.1;clear hI i9 hO F m;go_wp2_with fail;refine(zoD 2 (by decide) (by decide) (zuh t c s x y) va vc wr rfl HI.1).mono ?_;rintro e k7 ⟨vr,Z,rfl,a4,a7,a8⟩;have j8:=I (ztS j0.1 a8);have j9:=I a7;have k0:=ztV j0.1.size a4;clear a7 a8 a4;go_wp2_with fail;go_ret;exact⟨vr,Z,rfl,k0,j9.1,j8.1⟩
theorem zuL(l:List AirM)(s:ByteArray):(airN l s).isSome=hasB (l.map AirM.code) s:=by
 rw[Bool.eq_iff_iff];simp only[airN,hasB,List.find?_isSome,List.mem_reverse,List.any_eq_true,List.mem_map,decide_eq_true_eq];constructor
 . rintro⟨a,b,e⟩;exact⟨a.code,⟨a,b,rfl⟩,e.symm⟩
 rintro⟨_,⟨a,b,rfl⟩,e⟩;exact⟨a,b,e.symm⟩
theorem zux(t:TTM)(s:ByteArray):decide (ziu t.airs s<0)=!(zul t s):=by
 have h:=zhF AirM.code s 0 t.airs;have b:zul t s=hasB (t.airs.map AirM.code) s:=by
  unfold zul
  exact zuL t.airs s
 rw[b,<-h];by_cases e:0<=ixF AirM.code s 0 t.airs
 . have a:¬ ixF AirM.code s 0 t.airs<0:=by omega
   simp[ziu,e,a]
 have a:ixF AirM.code s 0 t.airs<0:=by omega
 simp[ziu,e,a]
end Go.Proofs.YtbhhejkolnigfaaGreat
