/- a part of the proof -/
import Derived.Test.YtbhhejkolnigfaaGreatGK
set_option linter.unusedVariables false
set_option linter.unusedSimpArgs false
set_option maxRecDepth 100000
set_option maxHeartbeats 51200000
namespace Go.Proofs.YtbhhejkolnigfaaGreat
open Go.RowKit Go.Sort Go.Proofs.Tryz
theorem zW.new(w:World)(l:List Int)(e:TypeId):zW (w.alloc (.cells (l.map (Value.int .i64)).toArray e)) (some ⟨w.heap.size,0,none⟩) l:=by
 refine .inr ⟨w.heap.size,0,rfl,by rw[zr];omega,λi hi=>?_⟩;rw[World.cell?_alloc_at _ _ _ _ rfl];simp[iAt,hi]
theorem zqk(s:DV)(f:zaw)(h:hasB s.kinds f.typ=false):zdZ f s=⟨s.legs+1,s.heads,s.blk+f.arr-f.dep,s.lng,s.sht,s.kinds++ [f.typ]⟩:=by
 unfold zdZ
 rw[h,if_neg (by decide),show s.blk+(f.arr-f.dep)=s.blk+f.arr-f.dep by omega]
theorem zqj(s:DV)(f:zaw)(h:hasB s.kinds f.typ=true):zdZ f s=⟨s.legs+1,s.heads,s.blk+f.arr-f.dep,s.lng,s.sht,s.kinds⟩:=by
 unfold zdZ
 rw[if_pos h,show s.blk+(f.arr-f.dep)=s.blk+f.arr-f.dep by omega]
theorem max_mx(a b:Int):max a b=mx a b:=by unfold mx;split <;> omega
theorem min_mn(a b:Int):min a b=mn a b:=by unfold mn;split <;> omega
theorem zin(t:TTM)(c:ConM)(za:zua)(zc:Nat)(aa:zua)(ac:Nat)(fa:zua)(fc:Nat)(p:ConP)(w:World)(hT:zY t=0)(hC:valT c=0)(hz:SlAt zcg w za t.zones)(ha:SlAt zei w aa t.airs)(hf:SlAt zam w fa t.fls)(d:Duty)(da:zua)(dc:Nat)(a6:za6 t c d=0)(hd:SlAt za3 w da d):
 Calls prog 72 #[aggT t za zc aa ac fa fc,aggC c p,.slice da d.length dc] w (ARow w (zk 1) (zaZ t c d)):=by
 try delta aggC aggT
 obtain⟨d2,d3,d4,d5⟩:=zfN a6;obtain⟨l1,l2,d6,_⟩:=zcp a6;have Y:=(zcJ hT).2.2;have HF:=I hf;have HD:=I hd;obtain⟨b,a,rfl,V,d7⟩:=zaO hf (by omega);obtain⟨b2,r,rfl,S,b0⟩:=zbF hd (by omega);have HZ:=I hz;have HA:=I ha;have G:=I hT;have HC:=I hC;have HE:=I a6;have d8:=I d7;have Z:=I b0;have H3:=I d6;have HM:=I (And.intro d2 d4);obtain⟨i0,hi,i7,i8,i9⟩:=info_parts zni;clear hf hd hz ha hT hC a6 d7 b0 d6 d2 d4;go_enter func72,ntmps72
 go_wp2_with fail;have HB:=I (ztS (J w (objT t za zc aa ac (some ⟨b,a,none⟩) fc)) (J _ (objC c p)));have QT:=I (zd (o':=(objC c p)) (zh w (objT t za zc aa ac (some ⟨b,a,none⟩) fc)));have QC:=I (zh (w.alloc (objT t za zc aa ac (some ⟨b,a,none⟩) fc)) (objC c p));rw[zr]at QC;obtain⟨cb,b7⟩:∃cb,cb=w.heap.size+1:=⟨_,rfl⟩;rw[<-b7]at QC;simp only[<-b7];clear b7;generalize (w.alloc (objT t za zc aa ac (some ⟨b,a,none⟩) fc)).alloc (objC c p)=W at*;go_loopw [7,8,9,10,11,12,13] (λx7 x8 x9 x10 x11 x12 x13 wr=>∃(k:Nat) (v:Value),k<=d.length/\x7=.int .i64 (dvTo t d k).legs/\x8=.int .i64 (dvTo t d k).heads/\x9=.int .i64 (dvTo t d k).blk/\x10=.int .i64 (dvTo t d k).lng/\x11=.int .i64 (dvTo t d k).sht/\v=x12/\x13=.int .i64 k/\ztR (wr.ownsRow W.heap.size 9 1 v (dvTo t d k).kinds.length ((dvTo t d k).kinds.map Value.string))/\ztR (Bw W wr)) (λ_ _ _ _ _ _ x13 _=>d.length-(intOf x13).toNat)
 case atStart=>exact⟨0,_,ztX _,rfl,rfl,rfl,rfl,rfl,rfl,rfl,I (World.ownsRow_nil _ _ _ _),I (ztT _ _)⟩
 obtain⟨k,v,hk,rfl,rfl,rfl,rfl,rfl,rfl,rfl,hO,F⟩:=hrel;by_cases a0:k<d.length
 . obtain⟨m,hm,j0⟩:=zbO (H3.1 k a0);obtain⟨⟨p0,p1,p2,p3,p4,p5,p6,p7,p8⟩,_⟩:=d8.1 m j0;have t0:=(Z.1 k a0).1;have t1:=(Z.1 k a0).2;rw[hm]at t0;obtain⟨s,hs⟩:∃s,s=dvTo t d k:=⟨_,rfl⟩;simp only[<-hs]at hO ⊢;have d9:=DVB.to G.1 HC.1 HE.1 k hk;rw[<-hs]at d9;obtain⟨l3,l4,l5,l6,l7,l8,l9,m0,m1,m2,m3⟩:=d9;have m4:k<6:=by omega
   obtain⟨q0,q1,q2,q3⟩:=zgv G.1 HE.1 a0;have hF:fAt t.fls m=fOf t d k:=by unfold fOf;rw[hm];rfl
   rw[hF]at p0 p1 p2 p3 p4 p5 p6 p7 p8;have b8:=I hs;have Hm:=I hm;obtain⟨f,hf⟩:∃f,f=fOf t d k:=⟨_,rfl⟩;rw[<-hf]at p0 p1 p2 p3 p4 p5 p6 p7 p8 q0 q1 q2 q3;have Hf:=I hf;clear hs hm hf hF;go_wp2_with fail;have N:=I F.1.drew;have b9:ztR (wr.drew.ownsRow W.heap.size 9 1 v s.kinds.length (s.kinds.map Value.string)):=hO;have q:=I (ztS HB.1 N.1);have x2:wr.drew.cell? ⟨w.heap.size,2,none⟩=some (.slice (some ⟨b,a,none⟩) t.fls.length fc):=zm (j:=2) (blkA N.1 QT.1) rfl;have f9:w.heap.size<wr.drew.heap.size:=ztW (blkA N.1 QT.1);have D:=ztU V q.1.size;have b1:=ztU S q.1.size;have z:wr.drew.cell? ⟨w.heap.size,2,none⟩=some (.slice (some ⟨b,a,none⟩) t.fls.length fc)/\wr.drew.cell? ⟨b2,r+k*2,none⟩=some (.int .i64 (m:Int))/\wr.drew.cell? ⟨b,a+m*9,none⟩=some (.string f.num)/\wr.drew.cell? ⟨b,a+m*9+1,none⟩=some (.string f.frm)/\wr.drew.cell? ⟨b,a+m*9+2,none⟩=some (.string f.to)/\wr.drew.cell? ⟨b,a+m*9+3,none⟩=some (.int .i64 f.dep)/\wr.drew.cell? ⟨b,a+m*9+4,none⟩=some (.int .i64 f.arr)/\wr.drew.cell? ⟨b,a+m*9+5,none⟩=some (.string f.typ)/\wr.drew.cell? ⟨b,a+m*9+6,none⟩=some (.int .i64 f.n0)/\wr.drew.cell? ⟨b,a+m*9+7,none⟩=some (.int .i64 f.n1)/\wr.drew.cell? ⟨b,a+m*9+8,none⟩=some (.int .i64 f.n2):=⟨x2,zD t0 S q.1,zD p0 V q.1,zD p1 V q.1,zD p2 V q.1,zD p3 V q.1,zD p4 V q.1,zD p5 V q.1,zD p6 V q.1,zD p7 V q.1,zD p8 V q.1⟩;obtain⟨A,c6⟩:∃A,wr.drew=A:=⟨_,rfl⟩;rw[c6]at N b9 z f9 D b1;clear hO F x2 q;refine zbD (λw'=>w'.cell? ⟨w.heap.size,2,none⟩=some (.slice (some ⟨b,a,none⟩) t.fls.length fc)/\w'.cell? ⟨b2,r+k*2,none⟩=some (.int .i64 (m:Int))/\w'.cell? ⟨b,a+m*9,none⟩=some (.string f.num)/\w'.cell? ⟨b,a+m*9+1,none⟩=some (.string f.frm)/\w'.cell? ⟨b,a+m*9+2,none⟩=some (.string f.to)/\w'.cell? ⟨b,a+m*9+3,none⟩=some (.int .i64 f.dep)/\w'.cell? ⟨b,a+m*9+4,none⟩=some (.int .i64 f.arr)/\w'.cell? ⟨b,a+m*9+5,none⟩=some (.string f.typ)/\w'.cell? ⟨b,a+m*9+6,none⟩=some (.int .i64 f.n0)/\w'.cell? ⟨b,a+m*9+7,none⟩=some (.int .i64 f.n1)/\w'.cell? ⟨b,a+m*9+8,none⟩=some (.int .i64 f.n2)) [10] (by kernel_rfl) c6 ?_;clear c6;refine zx (i:=0) (v:=.pointer (some ⟨w.heap.size,2,none⟩)) rfl (λw' hS'=>?_) z ?_
   . obtain⟨g0,P,Q,g3,g4,g5,g6,g7,g8,g9,H⟩:=hS';go_simp
   try simp only[Act.put,O]
   refine zx (i:=1) (v:=.slice (some ⟨b,a,none⟩) t.fls.length fc) rfl (λw' hS'=>?_) z ?_
   . obtain⟨g0,P,Q,g3,g4,g5,g6,g7,g8,g9,H⟩:=hS';go_simp
   try simp only[Act.put,O]
   refine zx (i:=2) (v:=.slice (some ⟨b2,r,none⟩) d.length dc) rfl (λw' hS'=>?_) z ?_
   . obtain⟨g0,P,Q,g3,g4,g5,g6,g7,g8,g9,H⟩:=hS';go_simp
   try simp only[Act.put,O]
   refine zx (i:=3) (v:=.int .i64 (k:Int)) rfl (λw' hS'=>?_) z ?_
   . obtain⟨g0,P,Q,g3,g4,g5,g6,g7,g8,g9,H⟩:=hS';go_simp
   try simp only[Act.put,O]
   refine zx (i:=4) (v:=.pointer (some ⟨b2,r+k*2,none⟩)) rfl (λw' hS'=>?_) z ?_
   . obtain⟨g0,P,Q,g3,g4,g5,g6,g7,g8,g9,H⟩:=hS';go_simp
   try simp only[Act.put,O]
   refine zx (i:=5) (v:=.pointer (some ⟨b2,r+k*2,none⟩)) rfl (λw' hS'=>?_) z ?_
   . obtain⟨g0,P,Q,g3,g4,g5,g6,g7,g8,g9,H⟩:=hS';go_simp
   try simp only[Act.put,O]
   refine zx (i:=6) (v:=.int .i64 (m:Int)) rfl (λw' hS'=>?_) z ?_
   . obtain⟨g0,P,Q,g3,g4,g5,g6,g7,g8,g9,H⟩:=hS';go_simp
   try simp only[Act.put,O]
   refine zx (i:=7) (v:=.pointer (some ⟨b,a+m*9,none⟩)) rfl (λw' hS'=>?_) z ?_
   . obtain⟨g0,P,Q,g3,g4,g5,g6,g7,g8,g9,H⟩:=hS';go_simp
   try simp only[Act.put,O]
   refine zx (i:=8) (v:=.agg #[.string f.num,.string f.frm,.string f.to,f.dep,f.arr,.string f.typ,f.n0,f.n1,f.n2]) rfl (λw' hS'=>?_) z ?_
   . obtain⟨g0,P,Q,g3,g4,g5,g6,g7,g8,g9,H⟩:=hS';go_simp
   try simp only[Act.put,O]
   refine zo (i:=9) (o:={dst:=some 14,op:=Op.alloc 82,type:=_,pos:= "measure.go:166",after:=_,guard:=none}) (by kernel_rfl) rfl (by rfl) (λK hK=>?_);go_simp;refine hK.1 _ _ (λ_ h=>⟨zD h.1 f9 (J A jB),zD h.2.1 b1 (J A jB),zD h.2.2.1 D (J A jB),zD h.2.2.2.1 D (J A jB),zD h.2.2.2.2.1 D (J A jB),zD h.2.2.2.2.2.1 D (J A jB),zD h.2.2.2.2.2.2.1 D (J A jB),zD h.2.2.2.2.2.2.2.1 D (J A jB),zD h.2.2.2.2.2.2.2.2.1 D (J A jB),zD h.2.2.2.2.2.2.2.2.2.1 D (J A jB),zD h.2.2.2.2.2.2.2.2.2.2 D (J A jB)⟩) ?_;clear hK K z;try simp only[Act.put,O]
   have C:=I (zh A jB);have h0:=I (ztS N.1 (J A jB));have B8:=J A jB;have E:W.heap.size<=A.heap.size:=N.1.size;have n:=ztY A.heap.size;obtain⟨l,a1⟩:∃l,l=A.heap.size:=⟨_,rfl⟩;rw[<-a1]at C E;have n:A.heap.size<=l:=by omega
   simp only[<-a1];clear a1;generalize A.alloc jB=T at*;have z0:=zw C.1;have f0:T.frozen? ⟨l,0,none⟩=false:=zQ C.1;have z1:=zu C.1;have f1:T.frozen? ⟨l,1,none⟩=false:=zQ C.1;have z2:=zC C.1;have f2:T.frozen? ⟨l,2,none⟩=false:=zQ C.1;have z3:=zaj C.1;have f3:T.frozen? ⟨l,3,none⟩=false:=zQ C.1;have z4:=zbe C.1;have f4:T.frozen? ⟨l,4,none⟩=false:=zQ C.1;have z5:=zbn C.1;have f5:T.frozen? ⟨l,5,none⟩=false:=zQ C.1;have z6:=zbm C.1;have f6:T.frozen? ⟨l,6,none⟩=false:=zQ C.1;have z7:=zaK C.1;have f7:T.frozen? ⟨l,7,none⟩=false:=zQ C.1;have z8:=zaX C.1;have f8:T.frozen? ⟨l,8,none⟩=false:=zQ C.1;have j1:=ztW C.1;refine zo (i:=10) (o:={dst:=none,op:=Op.store 82 (Operand.tmp 14) (Operand.tmp 37),type:=0,pos:= "measure.go:166",after:=_,guard:=none}) (by kernel_rfl) rfl (by rfl) (λK hK=>?_);go_simp;refine hK.1 _ _ (λh _=>absurd (by decide:(10:Nat)∈ [10]) h) ?_;clear hK K z0 f0 z1 f1 z2 f2 z3 f3 z4 f4 z5 f5 z6 f6 z7 f7 z8 f8 j1;try simp only[Act.put,O]
   refine zM (by kernel_rfl) ?_;have Q0:=C.1;have Q9:=set9 (.string f.num) (.string f.frm) (.string f.to) (.int .i64 f.dep) (.int .i64 f.arr) (.string f.typ) (.int .i64 f.n0) (.int .i64 f.n1) (.int .i64 f.n2) Q0;have h1:Bw W (((((((((T.setCell ⟨l,0,none⟩ (.string f.num)).setCell ⟨l,1,none⟩ (.string f.frm)).setCell ⟨l,2,none⟩ (.string f.to)).setCell ⟨l,3,none⟩ (.int .i64 f.dep)).setCell ⟨l,4,none⟩ (.int .i64 f.arr)).setCell ⟨l,5,none⟩ (.string f.typ)).setCell ⟨l,6,none⟩ (.int .i64 f.n0)).setCell ⟨l,7,none⟩ (.int .i64 f.n1)).setCell ⟨l,8,none⟩ (.int .i64 f.n2)):=(((((((((h0.1.setCell E _).setCell E _).setCell E _).setCell E _).setCell E _).setCell E _).setCell E _).setCell E _).setCell E _);have B9:Bw A (((((((((T.setCell ⟨l,0,none⟩ (.string f.num)).setCell ⟨l,1,none⟩ (.string f.frm)).setCell ⟨l,2,none⟩ (.string f.to)).setCell ⟨l,3,none⟩ (.int .i64 f.dep)).setCell ⟨l,4,none⟩ (.int .i64 f.arr)).setCell ⟨l,5,none⟩ (.string f.typ)).setCell ⟨l,6,none⟩ (.int .i64 f.n0)).setCell ⟨l,7,none⟩ (.int .i64 f.n1)).setCell ⟨l,8,none⟩ (.int .i64 f.n2)):=(((((((((B8.setCell n _).setCell n _).setCell n _).setCell n _).setCell n _).setCell n _).setCell n _).setCell n _).setCell n _);have HX:=I h1;have OX:=I (zcn b9.1 B9);have QX:=I Q9;clear Q0 Q9 h1 B9 B8 h0 b9 C;generalize (((((((((T.setCell ⟨l,0,none⟩ (.string f.num)).setCell ⟨l,1,none⟩ (.string f.frm)).setCell ⟨l,2,none⟩ (.string f.to)).setCell ⟨l,3,none⟩ (.int .i64 f.dep)).setCell ⟨l,4,none⟩ (.int .i64 f.arr)).setCell ⟨l,5,none⟩ (.string f.typ)).setCell ⟨l,6,none⟩ (.int .i64 f.n0)).setCell ⟨l,7,none⟩ (.int .i64 f.n1)).setCell ⟨l,8,none⟩ (.int .i64 f.n2))=X at*;clear T N;go_upto_if 39 with(fail)
   go_cut [10,11] (λx10 x11 wx=>∃P Q:Int,x10=.int .i64 P/\x11=.int .i64 Q/\ztR (dvB t d k s=⟨s.legs,s.heads,s.blk,P,Q,s.kinds⟩)/\ztR (Bw W wx)/\ztR (wx.ownsRow W.heap.size 9 1 v s.kinds.length (s.kinds.map Value.string))/\ztR (wx.heap[l]?=some (oW f)))
   case first=>
    rcases Nat.eq_zero_or_pos k with U|U
    . have dk:decide (0<k)=false:=by simp;omega
      have HG:=I (show dvB t d k s=⟨s.legs,s.heads,s.blk,s.lng,s.sht,s.kinds⟩ from if_neg (by omega));clear U;rw[dk];go_wp2_with fail;go_meet
      case rel=>exact⟨_,_,rfl,rfl,HG,HX,OX,QX⟩
    have dk:decide (0<k)=true:=by simpa using U
    have HG:=I (show dvB t d k s=⟨s.legs,s.heads,s.blk,(mx s.lng (f.dep-(fOf t d (k-1)).arr)),(mn s.sht (f.dep-(fOf t d (k-1)).arr)),s.kinds⟩ by rw[dvB,if_pos U,<-Hf.1];rfl);have c7:k-1<d.length:=by omega
    obtain⟨m',c8,h2⟩:=zbO (H3.1 (k-1) c7);have h3:fAt t.fls m'=(fOf t d (k-1)):=by unfold fOf;rw[c8];rfl
    obtain⟨⟨-,-,-,-,c9,-⟩,-⟩:=d8.1 m' h2;rw[h3]at c9;obtain⟨z0,z1⟩:=znl HC.1 HE.1 a0 U;rw[<-Hf.1]at z0 z1;have a7:=I (ztS HB.1 HX.1);have c0:=(Z.1 (k-1) c7).1;rw[c8]at c0;have c0:=zD c0 S a7.1;have c4:=zD c9 V a7.1;have x2:X.cell? ⟨w.heap.size,2,none⟩=some (.slice (some ⟨b,a,none⟩) t.fls.length fc):=zm (j:=2) (blkA HX.1 QT.1) rfl;have xl:=ztW (blkA HX.1 QT.1);have h4:=ztU S a7.1.size;have j2:=ztU V a7.1.size;have n3:=zaj QX.1;have nl:=ztW QX.1;have j3:(0:Int)<=(k:Int)-1:=by omega
    have j4:(k:Int)-1<(d.length:Int):=by omega
    have e1:IntKind.i64.wrap ((k:Int)-1)=(k:Int)-1:=by rw[IntKind.wrap_i64];omega
    have e2:((k:Int)-1).toNat=k-1:=by omega
    have e3:IntKind.i64.wrap (f.dep-(fOf t d (k-1)).arr)=(f.dep-(fOf t d (k-1)).arr):=by rw[IntKind.wrap_i64];omega
    clear c8 h3 c9 c7 U;rw[dk];go_wp2_with fail;go_quiet (fail)
    clear x2 xl h4 j2 n3 nl j3 j4 e1 e2 e3 c0 c4;go_wp2_with fail;go_meet
    have HY:=dr X nq
    case rel=>exact⟨mx s.lng (f.dep-(fOf t d (k-1)).arr),mn s.sht (f.dep-(fOf t d (k-1)).arr),by rw[max_mx],by rw[min_mn],HG,I (ztS HX.1 HY),I (zcn OX.1 HY),I (blkA HY QX.1)⟩
   clear HX OX QX;obtain⟨P,Q,rfl,rfl,HG,a8,OB,QB⟩:=hcut;have d0:=I (ztS HB.1 a8.1);have c1:=zD t1 S d0.1;have h5:=ztU S d0.1.size;cases hh:(tAt d k).2
   . rw[hh]at c1;have HH:=I hh;clear hh;have n3:=zaj QB.1;have n4:=zbe QB.1;have nl:=ztW QB.1;have j5:IntKind.i64.wrap (s.blk+f.arr)=s.blk+f.arr:=by rw[IntKind.wrap_i64];omega
     have j6:IntKind.i64.wrap (s.blk+f.arr-f.dep)=s.blk+f.arr-f.dep:=by rw[IntKind.wrap_i64];omega
     have j7:IntKind.i64.wrap (s.legs+1)=s.legs+1:=by rw[IntKind.wrap_i64];omega
     go_wp2_with fail;go_quiet (fail)
     obtain⟨ka,kc,rfl,R⟩:=zhu OB.1;have b3:=I R;clear R n3 n4 nl j5 j6 j7 c1 h5;go_wp2_with fail;go_loopw [16,17] (λx y w4=>∃j:Nat,j<=s.kinds.length/\x=.bool (hasB (s.kinds.take j) f.typ)/\y=.int .i64 j/\ztR (Bw wc w4)) (λ_ y _=>s.kinds.length-(intOf y).toNat)
     case atStart=>exact⟨0,ztX _,rfl,rfl,I (dr _ _)⟩
     obtain⟨j,hj,rfl,rfl,B⟩:=hrel;by_cases a2:j<s.kinds.length
     . obtain⟨b4,k9,rfl,h6,h7⟩:=b3.1.cells (by omega);have k0:=zD (h7 j a2) h6 B.1;have l0:=ztU h6 B.1.size;have n5:=zm (j:=5) (blkA B.1 QB.1) rfl;have nl:=ztW (blkA B.1 QB.1);clear h7;cases e1:(hasB (s.kinds.take j) f.typ)
       . cases e2:((sAt s.kinds j).toList==f.typ.toList)
         . go_wp2_with fail;go_quiet (fail)
           go_wp2_with fail;go_roundw
           case rel=>exact⟨j+1,by omega,by rw[zeT s.kinds j a2 f.typ,e1,show((s.kinds.getD j ByteArray.empty).toList==f.typ.toList)=false from e2];rfl,by go_num,I (ztS B.1 (dr _ _))⟩
           case measure=>simp[intOf];omega
         go_wp2_with fail;go_quiet (fail)
         go_wp2_with fail;go_roundw
         case rel=>exact⟨j+1,by omega,by rw[zeT s.kinds j a2 f.typ,e1,show((s.kinds.getD j ByteArray.empty).toList==f.typ.toList)=true from e2];rfl,by go_num,I (ztS B.1 (dr _ _))⟩
         case measure=>simp[intOf];omega
       go_wp2_with fail;go_quiet (fail)
       go_wp2_with fail;go_roundw
       case rel=>exact⟨j+1,by omega,by rw[zeT s.kinds j a2 f.typ,e1];rfl,by go_num,I (ztS B.1 (dr _ _))⟩
       case measure=>simp[intOf];omega
     obtain rfl:j=s.kinds.length:=by omega
     rw[List.take_length];have L:=I (ztS a8.1 B.1);have O5:=I (zcn OB.1 B.1);have Q5:=I (blkA B.1 QB.1);clear B b3 a2 hj OB QB a8 d0;cases a9:(hasB s.kinds f.typ)
     . have HK:=I a9;clear a9;have n5:=zm (j:=5) Q5.1 rfl;have nl:=ztW Q5.1;have g:=I (show dvTo t d (k+1)=⟨(s.legs+1),s.heads,(s.blk+f.arr-f.dep),P,Q,(s.kinds++ [f.typ])⟩ by rw[zdY,<-b8.1,HG.1,dvA];rw[if_neg (by rw[HH.1];decide),<-Hf.1];exact zqk _ _ HK.1);go_wp2_with (at_builtin;refine wpList_append_own _ rfl _ _ 140 rfl W.heap.size 9 i0 (.string ByteArray.empty) 1 16 underlying140 hi i7 i8 i9 rfl (by decide) _ _ _ rfl (O5.1.alloc _) ⟨wr.heap.size,0,none⟩ 1 1 [.string f.typ] rfl rfl ?c1 ?c2 ?c3 ?c4 ?c5 ?_)
       case c1=>exact zaa wr [.string f.typ] 9
       case c2=>intro u hu;simp at hu;subst hu;rfl
       case c3=>unfold maxLen;omega
       case c4=>omega
       case c5=>have:=L.1.size;simp;omega
       intro v' WX a3 a4 _;have j8:=I ((L.1.alloc L.1.size _).grown a4 (by have:=L.1.size;simp;omega) (λj hj=>zaM O5.1 j hj));have OX:=I (show WX.ownsRow W.heap.size 9 1 v' (s.kinds++ [f.typ]).length ((s.kinds++ [f.typ]).map Value.string) by rw[zt2,zt3];exact a3);clear a3 a4 n5 nl O5 Q5 L;go_wp2_with fail;go_roundw
       case rel=>exact⟨k+1,_,by omega,by rw[g.1],by rw[g.1],by rw[g.1],by rw[g.1],by rw[g.1],rfl,by go_num,I (by rw[g.1];exact OX.1),j8⟩
       case measure=>simp[intOf];omega
     have HK:=I a9;clear a9;have g:=I (show dvTo t d (k+1)=⟨(s.legs+1),s.heads,(s.blk+f.arr-f.dep),P,Q,s.kinds⟩ by rw[zdY,<-b8.1,HG.1,dvA];rw[if_neg (by rw[HH.1];decide),<-Hf.1];exact zqj _ _ HK.1);go_wp2_with fail;go_roundw
     case rel=>exact⟨k+1,_,by omega,by rw[g.1],by rw[g.1],by rw[g.1],by rw[g.1],by rw[g.1],rfl,by go_num,I (by rw[g.1];exact O5.1),L⟩
     case measure=>simp[intOf];omega
   rw[hh]at c1;have HH:=I hh;clear hh;have g:=I (show dvTo t d (k+1)=⟨s.legs,(s.heads+1),s.blk,P,Q,s.kinds⟩ by rw[zdY,<-b8.1,HG.1,dvA];rw[if_pos HH.1];rfl);go_wp2_with fail;go_roundw
   case rel=>exact⟨k+1,_,by omega,by rw[g.1],by rw[g.1],by rw[g.1],by rw[g.1],by rw[g.1],rfl,by go_num,I (by rw[g.1];exact OB.1),a8⟩
   case measure=>simp[intOf];omega
 obtain rfl:k=d.length:=by omega
 obtain⟨ka,kc,rfl,R⟩:=zhu hO.1;have HW:=I (ztS HB.1 F.1);have qt:=blkA F.1 QT.1;have M:=blkA F.1 QC.1;have x0:=zw qt;have x1:=zu qt;have x2:wr.cell? ⟨w.heap.size,2,none⟩=some (.slice (some ⟨b,a,none⟩) t.fls.length fc):=zm (j:=2) qt rfl;have y0:=zw M;have y1:=zu M;have y2:=zC M;have y3:=zaj M;have y4:=zbe M;have y5:=zbn M;have y6:=zbm M;have y7:=zaK M;have y8:=zaX M;have y9:=zbr M;have h8:=zbb M;have h9:=zby M;have i1:=zbx M;have i2:=zcq M;have xl:=ztW qt;have yl:=ztW M;have C1:=I (λdd os=>ztZ (ziT t za zc aa ac (some ⟨b,a,none⟩) fc (grow (redrawn wr dd) os) (HF.1.below (ztS HW.1 (below_regrown wr dd os))) Y d (some ⟨b2,r,none⟩) dc ⟨by omega,by omega⟩ (HD.1.below (ztS HW.1 (below_regrown wr dd os))) (fstN d) HM.1.1 d3));have C2:=I (λdd os=>ztZ (zlb t za zc aa ac (some ⟨b,a,none⟩) fc (grow (redrawn wr dd) os) (HF.1.below (ztS HW.1 (below_regrown wr dd os))) Y d (some ⟨b2,r,none⟩) dc ⟨by omega,by omega⟩ (HD.1.below (ztS HW.1 (below_regrown wr dd os))) (lstN d) HM.1.2 d5));have C3:=I (λdd os=>ztZ (zhi t c za zc aa ac (some ⟨b,a,none⟩) fc p (grow (redrawn wr dd) os) G.1 HC.1 (HF.1.below (ztS HW.1 (below_regrown wr dd os))) d (some ⟨b2,r,none⟩) dc HE.1 (HD.1.below (ztS HW.1 (below_regrown wr dd os)))));have C4:=I (λdd os=>ztZ (zqA t c za zc aa ac (some ⟨b,a,none⟩) fc p (grow (redrawn wr dd) os) G.1 (HZ.1.below (ztS HW.1 (below_regrown wr dd os))) (HA.1.below (ztS HW.1 (below_regrown wr dd os))) (fAt t.fls (fstN d)).frm (fAt t.fls (lstN d)).to (zfV G.1 d3).1 (zfV G.1 d5).2 (zcK t c d).1 (zcK t c d).2 (znp G.1 HC.1 HE.1)));rw[ztd G.1 HC.1 HE.1]at C4;have j9:∀w:World,(Instr.field 82 (.agg #[.string (fAt t.fls (fstN d)).num,.string (fAt t.fls (fstN d)).frm,.string (fAt t.fls (fstN d)).to,(fAt t.fls (fstN d)).dep,(fAt t.fls (fstN d)).arr,.string (fAt t.fls (fstN d)).typ,(fAt t.fls (fstN d)).n0,(fAt t.fls (fstN d)).n1,(fAt t.fls (fstN d)).n2]) 1).run prog w=.ok (.string (fAt t.fls (fstN d)).frm) w:=λ_=>by kernel_rfl
 have k1:∀w:World,(Instr.field 82 (.agg #[.string (fAt t.fls (lstN d)).num,.string (fAt t.fls (lstN d)).frm,.string (fAt t.fls (lstN d)).to,(fAt t.fls (lstN d)).dep,(fAt t.fls (lstN d)).arr,.string (fAt t.fls (lstN d)).typ,(fAt t.fls (lstN d)).n0,(fAt t.fls (lstN d)).n1,(fAt t.fls (lstN d)).n2]) 2).run prog w=.ok (.string (fAt t.fls (lstN d)).to) w:=λ_=>by kernel_rfl
 clear qt M R hO;go_wp2_with fail;have r0:=λdd os=>cell_regrown x0 dd os
 have r1:=λdd os=>cell_regrown x1 dd os
 have r2:=λdd os=>cell_regrown x2 dd os
 have s0:=λdd os=>cell_regrown y0 dd os
 have s1:=λdd os=>cell_regrown y1 dd os
 have s2:=λdd os=>cell_regrown y2 dd os
 have s3:=λdd os=>cell_regrown y3 dd os
 have s4:=λdd os=>cell_regrown y4 dd os
 have s5:=λdd os=>cell_regrown y5 dd os
 have s6:=λdd os=>cell_regrown y6 dd os
 have s7:=λdd os=>cell_regrown y7 dd os
 have s8:=λdd os=>cell_regrown y8 dd os
 have s9:=λdd os=>cell_regrown y9 dd os
 have k2:=λdd os=>cell_regrown h8 dd os
 have k3:=λdd os=>cell_regrown h9 dd os
 have k4:=λdd os=>cell_regrown i1 dd os
 have k5:=λdd os=>cell_regrown i2 dd os
 refine wp_region_quiet_below (by kernel_rfl) (by kernel_rfl) ?_;repeat (first|go_big_quiet_step (first|(with_reducible exact C1.1 _ _)|(with_reducible exact C2.1 _ _)|(with_reducible exact C3.1 _ _)|(with_reducible exact C4.1 _ _))|quiet_step (first|(with_reducible exact C1.1 _ _)|(with_reducible exact C2.1 _ _)|(with_reducible exact C3.1 _ _)|(with_reducible exact C4.1 _ _)))
 refine wpQuiet_nil ?_;intro _ k6;obtain⟨⟨dq,i3⟩,i4⟩:=k6;subst i4;have i5:=I (ztS HW.1 (below_regrown wr dq i3));clear r0 r1 r2 s0 s1 s2 s3 s4 s5 s6 s7 s8 s9 k2 k3 k4 k5 C1 C2 C3 C4 x0 x1 x2 y0 y1 y2 y3 y4 y5 y6 y7 y8 y9 h8 h9 i1 i2 xl yl F j9 k1 HW;generalize grow (redrawn wr dq) i3=W3 at*;go_wp2_with fail;have d1:=I (ztS i5.1 (J W3 (.cells ((zaZ t c d).map (Value.int .i64)).toArray 3)));refine(zoD 1 (by decide) (by decide) (zaZ t c d) (some ⟨W3.heap.size,0,none⟩) 11 (W3.alloc (.cells ((zaZ t c d).map (Value.int .i64)).toArray 3)) rfl (zW.new W3 (zaZ t c d) 3)).mono ?_;rintro e w5 ⟨vr,b5,rfl,a5,b6,i6⟩;have L:=I (ztS d1.1 i6);have k7:=I b6;have k8:w.heap.size<=b5:=ztV d1.1.size a5;clear i6 b6 a5 d1 i5;go_wp2_with fail;go_ret;exact⟨vr,b5,rfl,k8,k7.1,L.1⟩
end Go.Proofs.YtbhhejkolnigfaaGreat
