/- a part of the proof -/
import Derived.Test.YtbhhejkolnigfaaGreatH1
import Derived.Test.YtbhhejkolnigfaaGreatGT
set_option linter.unusedVariables false
set_option linter.unusedSimpArgs false
set_option maxRecDepth 100000
set_option maxHeartbeats 51200000
namespace Go.Proofs.YtbhhejkolnigfaaGreat
open Go.RowKit Go.Sort Go.Proofs.Tryz
theorem zvm(w:World)(t:TTM)(c:ConM)(a:zua)(b:Nat)(d:zua)(e:Nat)(fa:zua)(fc:Nat)(p:ConP)(o:Obj):Bw w (((w.alloc (objT t a b d e fa fc)).alloc (objC c p)).alloc o)/\(((w.alloc (objT t a b d e fa fc)).alloc (objC c p)).alloc o).heap[w.heap.size]?=some (objT t a b d e fa fc)/\(((w.alloc (objT t a b d e fa fc)).alloc (objC c p)).alloc o).heap[w.heap.size+1]?=some (objC c p)/\(((w.alloc (objT t a b d e fa fc)).alloc (objC c p)).alloc o).heap[w.heap.size+1+1]?=some o:=by
 obtain⟨f,g,i⟩:=zuN w t c a b d e fa fc p;refine⟨ztS f (J _ _),zd g,zd i,?_⟩;have h:=zh ((w.alloc (objT t a b d e fa fc)).alloc (objC c p)) o;rw[zr,zr]at h;exact h
theorem zu2(t:TTM)(c:ConM)(W:zua)(zc:Nat)(X:zua)(ac:Nat)(fa:zua)(fc:Nat)(p:ConP)(w:World)(hT:zY t=0)(hC:valT c=0)(f9:c.consts.length<=p.cc/\p.cc<=140737488355328)(hz:SlAt zcg w W t.zones)(ha:SlAt zei w X t.airs)(hf:SlAt zam w fa t.fls)(hc:zdr w.heap.size w c p)(s:ByteArray)(L:List Duty)(la:zua)(cap:Nat)(Y:1<=L.length)(h6:L.length<=6)(hd:∀k,k<L.length->za6 t c (dAt L k)=0)(hs:hasB (t.airs.map AirM.code) s=true)(hl:SlAt dutyRT w la L):
 Calls prog 34 #[aggT t W zc X ac fa fc,aggC c p,.agg #[.string s,.slice la L.length cap]] w (ARow w (zk 3) (zuY t c s L)):=by
 try delta aggC aggT
 have HT:=I hT;have HC:=I hC;have HZ:=I hz;have HA:=I ha;have HF:=I hf;have HD:=I hd;have g3:=I hc;have HK:=I hs;obtain⟨db,Z,rfl,N,b9⟩:=zuQ hl (by omega);have b2:=I b9;have b3:=I (zvB hT hC hd);have c7:=I (zvD hT hC hd);have b4:=I (λ(k:Nat) (hk:k<L.length) (j:Nat) (hj:j<11)=>zrJ hT hC (hd k hk) j hj);have g4:=I (zi3 hT s);have b0:=zuj hT hC (hd 0 (by omega));have bn:=zuj hT hC (hd (L.length-1) (by omega));obtain⟨D,P⟩:∃D,D=(zcK t c (dAt L 0)).1:=⟨_,rfl⟩;obtain⟨E,Q⟩:∃E,E=(zcK t c (dAt L (L.length-1))).2:=⟨_,rfl⟩;have c8:=I P.symm;have c9:=I Q.symm;have j1:IntKind.i64.wrap (E-D)=E-D:=by rw[IntKind.wrap_i64,P,Q];omega
 have d0:=zvW (nm:=(zp t s).name.data.toList) (o:=(zp t s).off) (l:=(zp t s).sh) (x:=D) (y:=E) (by omega) (by omega);obtain⟨f1,a3⟩:∃f,f=(z9 (zp t s).name.data.toList (zp t s).off (zp t s).sh D E).1:=⟨_,rfl⟩;obtain⟨f2,a4⟩:∃f,f=(z9 (zp t s).name.data.toList (zp t s).off (zp t s).sh D E).2.1:=⟨_,rfl⟩;rw[<-a3,<-a4]at d0;have g5:=I a3.symm;have g6:=I a4.symm;have j2:IntKind.i64.wrap (f2-f1)=f2-f1:=by rw[IntKind.wrap_i64];omega
 have j3:IntKind.i64.wrap (f2-f1+1)=f2-f1+1:=by rw[IntKind.wrap_i64];omega
 have j4:IntKind.i64.wrap ((L.length:Int)-1)=(L.length:Int)-1:=by rw[IntKind.wrap_i64];omega
 have HV:=I (show zuY t c s L= [(L.length:Int),(qsum t c L 0 L.length),(qsum t c L 1 L.length),f2-f1+1,(qsum t c L 3 L.length),E-D,(csum t c L L.length)] by
  rw[zuY,P,Q,a3,a4,P,Q])
 have FD:=I (And.intro (λw:World=>(by kernel_rfl:(Instr.field 144 (.agg #[D,.int .i64 (zcK t c (dAt L 0)).2]) 0).run prog w=.ok (.int .i64 D) w)) (λw:World=>(by kernel_rfl:(Instr.field 144 (.agg #[.int .i64 (zcK t c (dAt L (L.length-1))).1,E]) 1).run prog w=.ok (.int .i64 E) w)));clear hT hC hz ha hf hd hc hs hl b9 b0 bn P Q a3 a4 d0;go_enter func34,ntmps34
 go_wp2_with fail;obtain⟨hB,qT,qC,qP⟩:=zvm w t c W zc X ac fa fc p (oP s (some ⟨db,Z,none⟩) L.length cap);have n:=I hB;obtain⟨cb,b5⟩:∃cb,cb=w.heap.size+1:=⟨_,rfl⟩;obtain⟨pb,b6⟩:∃pb,pb=w.heap.size+1+1:=⟨_,rfl⟩;rw[<-b6]at qP;rw[<-b5]at qC;simp only[<-b6];simp only[<-b5];clear b5 b6 hB;generalize ((w.alloc (objT t W zc X ac fa fc)).alloc (objC c p)).alloc (oP s (some ⟨db,Z,none⟩) L.length cap)=W0 at*;have r:=I (λW' (h:Bw W0 W')=>(⟨blkA h qT,blkA h qC,blkA h qP⟩:W'.heap[w.heap.size]?=some (objT t W zc X ac fa fc)/\W'.heap[cb]?=some (objC c p)/\W'.heap[pb]?=some (oP s (some ⟨db,Z,none⟩) L.length cap)));clear qT qC qP;go_loopw [7,8,9,10,12] (λl1 l2 l3 l4 i wr=>∃(k:Nat),k<=L.length/\l1=.int .i64 (qsum t c L 0 k)/\l2=.int .i64 (qsum t c L 1 k)/\l3=.int .i64 (qsum t c L 3 k)/\l4=.int .i64 (csum t c L k)/\i=.int .i64 k/\ztR (Bw W0 wr)) (λ_ _ _ _ i _=>L.length-(intOf i).toNat)
 case atStart=>exact⟨0,ztX _,rfl,rfl,rfl,rfl,rfl,I (ztT _ _)⟩
 obtain⟨k,hk,rfl,rfl,rfl,rfl,rfl,hB⟩:=hrel;by_cases z:k<L.length
 . have B:=I hB.1;clear hB;go_wp2_with fail;obtain⟨ak,ck,d1,_,d2⟩:=(b2.1.below N n.1) k z;have d3:=I d2;have C:=ztU N n.1.size;have j5:(k:Int)<(L.length:Int):=by omega
   have d4:=I d1;clear d2 d1;refine' rely [⟨26, [],.kn _⟩,⟨27, [],.kn _⟩,⟨28, [],.kn _⟩,⟨29, [28],.kn _⟩,⟨30, [],.kn _⟩,⟨31, [29,30],.kn _⟩,⟨32, [31],.kn _⟩,⟨33, [26,27,32],.ow (λv w'=>∃g cap R,v=.slice (some ⟨g,0,none⟩) 11 cap/\w'.heap[g]?=some (Obj.cells R 79)/\(∀i,i<11->R[i*2+1]?=some (.int .i64 (iAt (zaZ t c (dAt L k)) i)))/\zcs w' (some ⟨g,0,none⟩) ((zk 1).zip (zaZ t c (dAt L k)))) (λ_ _ _ ⟨a,b,d,e,f,g,i⟩ h=>⟨a,b,d,e,blkA h f,g,i.below h⟩)⟩,⟨13, [33],.cp 33⟩] [3,4,5,12] [33,13] (λ_ h=>And.intro (zj d4.1 C (ztS B.1 h)) (And.intro (zdn (r.1 _ (ztS B.1 h)).1) (And.intro (zbZ (r.1 _ (ztS B.1 h)).2.1) (zuw (r.1 _ (ztS B.1 h)).2.2)))) ?h4 ?c4 ?f4
   case h4=>
    intro u;simp only[rlE,↓reduceIte,Nat.reduceEqDiff];intros
    refine⟨?_,?_,?_,?_,?_,?_,?_,?_,?_,trivial⟩
    all_goals try (intros;refine rlK (by assumption) ?_;go_simp <;> rfl)
    intro A H e m g q1 q2 q3 K kk;go_simp;have F:=ztS n.1 (ztS B.1 m);refine(zin t c W zc X ac fa fc p H HT.1 HC.1 (HZ.1.below F) (HA.1.below F) (HF.1.below F) (dAt L k) ak ck (HD.1 k z) (d3.1.below (ztS B.1 m))).mono ?_;rintro e' S ⟨v,a8,rfl,Y,M,h3⟩;obtain⟨gk,T,R,rfl,hg,hc⟩:=zuD M rfl (by rw[zeD];decide);obtain⟨a2,c2,d5,a5⟩:=zcs.of_own M rfl;rw[zeD]at hc d5 ⊢;cases d5;exact kk.1 _ _ ⟨h3,gk,T,R,rfl,hg,hc,a5⟩
   case c4=>kernel_rfl
   intro u S m;simp only[rlE,rlF,Act.put,O,↓reduceIte,Nat.reduceEqDiff];rintro⟨gk,T,R,e1,hg,hc,a5⟩ e2;rw[e2,e1];have d6:=I a5;have a6:=I hc;have HG:=I hg;have d7:=I (ztS B.1 m);clear hg hc a5 e1 e2 m B d3 d4;have g7:=ztW HG.1;have c0:S.cell? ⟨gk,1,none⟩=some (.int .i64 (iAt (zaZ t c (dAt L k)) 0)):=zm (j:=1) HG.1 (a6.1 0 (by decide));have c1:S.cell? ⟨gk,3,none⟩=some (.int .i64 (iAt (zaZ t c (dAt L k)) 1)):=zm (j:=3) HG.1 (a6.1 1 (by decide));have c3:S.cell? ⟨gk,7,none⟩=some (.int .i64 (iAt (zaZ t c (dAt L k)) 3)):=zm (j:=7) HG.1 (a6.1 3 (by decide));have g8:IntKind.i64.wrap ((qsum t c L 0 k)+iAt (zaZ t c (dAt L k)) 0)=(qsum t c L 0 (k+1)):=by
    have Y:=b3.1 0 (by decide) k (by omega);have M:=b4.1 k z 0 (by decide);rw[qsum,IntKind.wrap_i64];omega
   have g9:IntKind.i64.wrap ((qsum t c L 1 k)+iAt (zaZ t c (dAt L k)) 1)=(qsum t c L 1 (k+1)):=by
    have Y:=b3.1 1 (by decide) k (by omega);have M:=b4.1 k z 1 (by decide);rw[qsum,IntKind.wrap_i64];omega
   have h0:IntKind.i64.wrap ((qsum t c L 3 k)+iAt (zaZ t c (dAt L k)) 3)=(qsum t c L 3 (k+1)):=by
    have Y:=b3.1 3 (by decide) k (by omega);have M:=b4.1 k z 3 (by decide);rw[qsum,IntKind.wrap_i64];omega
   go_wp2_with fail;go_quiet (fail)
   have U:=I (ztS d7.1 (dr S nq));have d8:=I (d6.1.below (dr S nq));clear d7 d6 HG a6 c0 c1 c3 g8 g9 h0 g7;generalize S.drewN nq=W7 at*;have d9:=I (r.1 _ U.1).2.1;obtain⟨y0,y1,y2,y3,y4,y5,y6,y7,y8,y9,h7,h8,h9,i0,yl⟩:=zbZ d9.1;have j6:IntKind.i64.wrap ((csum t c L k)+zio c (zaZ t c (dAt L k)))=(csum t c L (k+1)):=by
    have Y:=c7.1 k (by omega);have M:=zvr HT.1 HC.1 (HD.1 k z);rw[csum,IntKind.wrap_i64];omega
   have C1:=I (zmu c p w.heap.size W7 (ztS n.1 U.1).size f9 HC.1 (g3.1.keep (ztS n.1 U.1)) (zaZ t c (dAt L k)) (zeU HT.1 HC.1 (HD.1 k z)) (some ⟨gk,0,none⟩) T d8.1);rw[zeD]at C1;go_wp2_with fail;refine C1.1.mono ?_;rintro e W8 ⟨rfl,f0⟩;have i1:=I (ztS U.1 f0);clear y0 y1 y2 y3 y4 y5 y6 y7 y8 y9 h7 h8 h9 i0 yl C1 U d8 d9 f0;go_wp2_with fail;go_roundw
   case rel=>exact⟨k+1,by omega,rfl,rfl,rfl,rfl,by go_num,i1⟩
   case measure=>simp[intOf];omega
 obtain rfl:k=L.length:=by omega
 have BW:=I hB.1;clear hB hk z;go_wp2_with fail;have a7:=I (ztS n.1 BW.1);obtain⟨a0,k0,c0,l0,t0⟩:=(b2.1.below N a7.1) 0 (by omega);obtain⟨a1,k1,c1,l1,t1⟩:=(b2.1.below N a7.1) (L.length-1) (by omega);rw[Nat.add_zero]at c0;have C:=ztU N a7.1.size;have H0:=I t0;have H1:=I t1;have i2:(0:Int)<(L.length:Int):=by omega
 have f3:0<L.length:=by omega
 have i3:(L.length:Int)-1<(L.length:Int):=by omega
 have i4:(0:Int)<=(L.length:Int)-1:=by omega
 have i5:((L.length:Int)-1).toNat=L.length-1:=by omega
 have hL:¬ L= []:=by rintro rfl;simp at Y
 have i6:¬ (L.length:Int)<1:=by omega
 have C0:=I c0;have C1:=I c1;clear c0 c1 t0 t1;refine' rely [⟨57, [],.kn _⟩,⟨58, [],.kn _⟩,⟨59, [],.kn _⟩,⟨60, [59],.kn _⟩,⟨61, [60],.kn _⟩,⟨62, [61],.kn _⟩,⟨63, [57,58,62],.kn (.agg #[D,.int .i64 (zcK t c (dAt L 0)).2])⟩,⟨64, [63],.kn _⟩,⟨65, [],.kn _⟩,⟨66, [],.kn _⟩,⟨67, [],.kn _⟩,⟨68, [67],.kn _⟩,⟨69, [],.kn _⟩,⟨70, [69],.kn _⟩,⟨71, [68,70],.kn (.pointer (some ⟨db,Z+(L.length-1),none⟩))⟩,⟨72, [71],.kn _⟩,⟨73, [65,66,72],.kn (.agg #[.int .i64 (zcK t c (dAt L (L.length-1))).1,E])⟩,⟨74, [73],.kn _⟩,⟨75, [64,74],.kn _⟩,⟨14, [],.bx jE⟩,⟨1020, [14,75],.st 14 75 λ_ o=>o=(oQ D E)⟩] [3,4,5,11] [1020] (λ_ h=>And.intro (I (And.intro (zj C0.1 C h) (zj C1.1 C h))) (And.intro (zdn (r.1 _ (ztS BW.1 h)).1) (And.intro (zbZ (r.1 _ (ztS BW.1 h)).2.1) (zuw (r.1 _ (ztS BW.1 h)).2.2)))) ?h5 ?c5 ?f5
 case h5=>
  intro u;simp only[rlE,↓reduceIte,Nat.reduceEqDiff];intros
  have f1:=FD.1.1;have f2:=FD.1.2;refine⟨?_,?_,?_,?_,?_,?_,?_,?_,?_,?_,?_,?_,?_,?_,?_,?_,?_,?_,?_,?_,?_,trivial⟩
  all_goals try (intros;refine rlK (by assumption) ?_;go_simp <;> rfl)
  . intro A H e m g q1 K k;have g2:=g.1.1.1;clear g;refine rlK k ?_;go_simp <;> rfl
  . intro A H e m g q1 q2 q3 K k;go_simp;have F:=ztS n.1 (ztS BW.1 m);refine(zhi t c W zc X ac fa fc p H HT.1 HC.1 (HF.1.below F) (dAt L 0) a0 k0 (HD.1 0 (by omega)) (H0.1.below m)).mono ?_;rintro e' S ⟨rfl,h⟩;exact k.1 _ _ ⟨h,by first|rw[c8.1]|rw[c9.1]⟩
  . intro A H e m g q1 K k;have g2:=g.1.1.2;clear g;refine rlK k ?_;go_simp <;> rfl
  . intro A H e m g q1 q2 q3 K k;go_simp;have F:=ztS n.1 (ztS BW.1 m);refine(zhi t c W zc X ac fa fc p H HT.1 HC.1 (HF.1.below F) (dAt L (L.length-1)) a1 k1 (HD.1 (L.length-1) (by omega)) (H1.1.below m)).mono ?_;rintro e' S ⟨rfl,h⟩;exact k.1 _ _ ⟨h,by first|rw[c8.1]|rw[c9.1]⟩
  . intro A H e m g K k;go_simp;exact k.1 _ _ ⟨J _ _,rfl,zh _ _⟩
  rintro A H e m g ⟨p,Y,_,M⟩ h3 K k;obtain⟨z0,z1,g0,g1,gl⟩:=pc2 M;go_simp;exact k.1 undef _ ⟨p,_,Y,stS (stS (stR p H)),zg (i:=1) (zg (i:=0) M),rfl⟩
 case c5=>kernel_rfl
 intro u w8 m;simp only[rlE,rlF,Act.put,O,↓reduceIte,Nat.reduceEqDiff];rintro⟨sp,_,e1,_,f7,rfl⟩;rw[e1];have G:=I (ztS BW.1 m);have QS:=I f7;clear i2 f3 i3 i4 i5 hL i6 a7 m f7 C BW e1 C0 C1 H0 H1;go_wp2_with fail;refine' rely [⟨77, [],.kn _⟩,⟨78, [],.kn _⟩,⟨79, [78],.kn _⟩,⟨80, [77,79],.pu λv=>∃a k,v=.agg #[.string (zp t s).name,(zp t s).off,.slice a (zp t s).sh.length k]/\ShAt w a (zp t s).sh/\(zp t s).name.size<=140737488355328⟩,⟨81, [],.kn _⟩,⟨82, [80,81],.kn (.tuple #[.int .i64 (z9 (zp t s).name.data.toList (zp t s).off (zp t s).sh D E).1,.int .i64 (z9 (zp t s).name.data.toList (zp t s).off (zp t s).sh D E).2.1,.int .i64 (z9 (zp t s).name.data.toList (zp t s).off (zp t s).sh D E).2.2])⟩,⟨76, [82],.kn _⟩,⟨83, [76],.kn _⟩,⟨84, [76],.kn _⟩,⟨85, [76],.kn _⟩,⟨15, [83],.kn _⟩,⟨16, [84],.kn _⟩,⟨17, [85],.kn _⟩] [3,5,14] [15,16,17] (λ_ h=>And.intro (zuw (blkA h QS.1)) (And.intro (zdn (r.1 _ (ztS G.1 h)).1) (And.intro (zbZ (r.1 _ (ztS G.1 h)).2.1) (zuw (r.1 _ (ztS G.1 h)).2.2)))) ?h6 ?c6 ?f6
 case h6=>
  intro u;simp only[rlE,↓reduceIte,Nat.reduceEqDiff];intros
  refine⟨?_,?_,?_,?_,?_,?_,?_,?_,?_,?_,?_,?_,?_,trivial⟩
  all_goals try (intros;refine rlK (by assumption) ?_;go_simp <;> rfl)
  . intro A H e m g q1 q2 K k;go_simp;refine(zaN t W zc X ac fa fc H HT.1 w (ztS n.1 (ztS G.1 m)) HZ.1 HA.1 s HK.1).mono ?_;rintro e' S ⟨a,q,rfl,M,h3,_,h4⟩;exact k.1 _ _ ⟨h4,a,q,rfl,M,h3⟩
  rintro A H e m g ⟨a,q,Y,M,h3⟩ q2 K k;go_simp;refine(zvi (zp t s).name (zp t s).off D E (zp t s).sh a q H (by unfold maxLen;omega) (by have:=g4.1;omega) (M.below (ztS n.1 (ztS G.1 m)))).mono ?_;rintro e' S ⟨rfl,h⟩;exact k.1 _ _ ⟨h,rfl⟩
 case c6=>kernel_rfl
 intro u2 f8 m;simp only[rlE,rlF,Act.put,O,↓reduceIte,Nat.reduceEqDiff];intro e1 e2 e3;rw[e1,e2,e3];have i7:=I (ztS n.1 (ztS G.1 m));obtain⟨x0,x1,xl⟩:=zuw (blkA m QS.1);clear m e1 e2 e3 G QS;rw[g5.1,g6.1];go_wp2_with fail;have b7:=I (ztS i7.1 (J f8 (.cells ((zuY t c s L).map (Value.int .i64)).toArray 3)));have HI:=I (zW.new f8 (zuY t c s L) 3);have b8:=I (λW' a' (h:zW W' a' (zuY t c s L))=>zoD 3 (by decide) (by decide) (zuY t c s L) a' 7 W' rfl h);rw[HV.1]at b8 b7 HI;refine(b8.1 _ _ HI.1).mono ?_;rintro e j7 ⟨vr,a8,rfl,V,a9,b1⟩;have i8:=I (ztS b7.1 b1);have i9:=I a9;have j0:=ztV b7.1.size V;clear a9 b1 V b8 HI;go_wp2_with fail;go_ret;exact⟨vr,a8,rfl,j0,by rw[HV.1];exact i9.1,i8.1⟩
end Go.Proofs.YtbhhejkolnigfaaGreat
