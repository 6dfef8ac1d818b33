/- a part of the proof -/
import Derived.Test.YtbhhejkolnigfaaGreatGK
set_option linter.unusedVariables false
set_option linter.unusedSimpArgs false
set_option maxRecDepth 100000
set_option maxHeartbeats 51200000
namespace Go.Proofs.YtbhhejkolnigfaaGreat
open Go.RowKit Go.Sort Go.Proofs.Tryz
theorem zW.new(w:World)(l:List Int)(e:TypeId):zW (w.alloc (.cells (l.map (Value.int .i64)).toArray e)) (some ⟨w.heap.size,0,none⟩) l:=by
 refine .inr ⟨w.heap.size,0,rfl,by rw[zr];omega,λi hi=>?_⟩;rw[World.cell?_alloc_at _ _ _ _ rfl];simp[iAt,hi]
theorem zqk(s:DV)(f:zaw)(h:hasB s.kinds f.typ=false):zdZ f s=⟨s.legs+1,s.heads,s.blk+f.arr-f.dep,s.lng,s.sht,s.kinds++ [f.typ]⟩:=by
 unfold zdZ
 rw[h,if_neg (by decide),show s.blk+(f.arr-f.dep)=s.blk+f.arr-f.dep by omega]
theorem zqj(s:DV)(f:zaw)(h:hasB s.kinds f.typ=true):zdZ f s=⟨s.legs+1,s.heads,s.blk+f.arr-f.dep,s.lng,s.sht,s.kinds⟩:=by
 unfold zdZ
 rw[if_pos h,show s.blk+(f.arr-f.dep)=s.blk+f.arr-f.dep by omega]
theorem max_mx(a b:Int):max a b=mx a b:=by unfold mx;split <;> omega
theorem min_mn(a b:Int):min a b=mn a b:=by unfold mn;split <;> omega
theorem zin(t:TTM)(c:ConM)(za:zua)(zc:Nat)(aa:zua)(ac:Nat)(fa:zua)(fc:Nat)(p:ConP)(w:World)(hT:zY t=0)(hC:valT c=0)(hz:SlAt zcg w za t.zones)(ha:SlAt zei w aa t.airs)(hf:SlAt zam w fa t.fls)(d:Duty)(da:zua)(dc:Nat)(b5:za6 t c d=0)(hd:SlAt za3 w da d):
 Calls prog 72 #[aggT t za zc aa ac fa fc,aggC c p,.slice da d.length dc] w (ARow w (zk 1) (zaZ t c d)):=by
 try delta aggC aggT
 obtain⟨d9,f9,h0,h1⟩:=zfN b5;obtain⟨l1,l2,h2,_⟩:=zcp b5;have a4:=(zcJ hT).2.2;have HF:=I hf;have HD:=I hd;obtain⟨b,g,rfl,hb,h3⟩:=zaO hf (by omega);obtain⟨b2,A,rfl,Q,b6⟩:=zbF hd (by omega);have HZ:=I hz;have HA:=I ha;have R:=I hT;have HC:=I hC;have HE:=I b5;have h4:=I h3;have a5:=I b6;have H3:=I h2;have HM:=I (And.intro d9 h0);obtain⟨i0,hi,h5,h6,h7⟩:=info_parts zni;clear hf hd hz ha hT hC b5 h3 b6 h2 d9 h0;go_enter func72,ntmps72
 go_wp2_with fail;have HB:=I (ztS (J w (objT t za zc aa ac (some ⟨b,g,none⟩) fc)) (J _ (objC c p)));have QT:=I (zd (o':=(objC c p)) (zh w (objT t za zc aa ac (some ⟨b,g,none⟩) fc)));have QC:=I (zh (w.alloc (objT t za zc aa ac (some ⟨b,g,none⟩) fc)) (objC c p));rw[zr]at QC;obtain⟨cb,c6⟩:∃cb,cb=w.heap.size+1:=⟨_,rfl⟩;rw[<-c6]at QC;simp only[<-c6];clear c6;generalize (w.alloc (objT t za zc aa ac (some ⟨b,g,none⟩) fc)).alloc (objC c p)=W at*;go_loopw [7,8,9,10,11,12,13] (λx7 x8 x9 x10 x11 x12 x13 wr=>∃(k:Nat) (v:Value),k<=d.length/\x7=.int .i64 (dvTo t d k).legs/\x8=.int .i64 (dvTo t d k).heads/\x9=.int .i64 (dvTo t d k).blk/\x10=.int .i64 (dvTo t d k).lng/\x11=.int .i64 (dvTo t d k).sht/\v=x12/\x13=.int .i64 k/\ztR (wr.ownsRow W.heap.size 9 1 v (dvTo t d k).kinds.length ((dvTo t d k).kinds.map Value.string))/\ztR (Bw W wr)) (λ_ _ _ _ _ _ x13 _=>d.length-(intOf x13).toNat)
 case atStart=>exact⟨0,_,ztX _,rfl,rfl,rfl,rfl,rfl,rfl,rfl,I (World.ownsRow_nil _ _ _ _),I (ztT _ _)⟩
 obtain⟨k,v,hk,rfl,rfl,rfl,rfl,rfl,rfl,rfl,hO,N⟩:=hrel;by_cases a6:k<d.length
 . obtain⟨m,hm,j6⟩:=zbO (H3.1 k a6);obtain⟨⟨p0,p1,p2,p3,p4,p5,p6,p7,p8⟩,_⟩:=h4.1 m j6;have t0:=(a5.1 k a6).1;have t1:=(a5.1 k a6).2;rw[hm]at t0;obtain⟨s,hs⟩:∃s,s=dvTo t d k:=⟨_,rfl⟩;simp only[<-hs]at hO ⊢;have h8:=DVB.to R.1 HC.1 HE.1 k hk;rw[<-hs]at h8;obtain⟨l3,l4,l5,l6,l7,l8,l9,m0,m1,m2,m3⟩:=h8;have m4:k<6:=by omega
   obtain⟨q0,q1,q2,q3⟩:=zgv R.1 HE.1 a6;have hF:fAt t.fls m=fOf t d k:=by unfold fOf;rw[hm];rfl
   rw[hF]at p0 p1 p2 p3 p4 p5 p6 p7 p8;have a3:=I hs;have Hm:=I hm;obtain⟨f,hf⟩:∃f,f=fOf t d k:=⟨_,rfl⟩;rw[<-hf]at p0 p1 p2 p3 p4 p5 p6 p7 p8 q0 q1 q2 q3;have Hf:=I hf;clear hs hm hf hF;go_wp2_with fail;have Z:=I N.1.drew;have c7:ztR (wr.drew.ownsRow W.heap.size 9 1 v s.kinds.length (s.kinds.map Value.string)):=hO;have z:=I (ztS HB.1 Z.1);have x2:wr.drew.cell? ⟨w.heap.size,2,none⟩=some (.slice (some ⟨b,g,none⟩) t.fls.length fc):=zm (j:=2) (blkA Z.1 QT.1) rfl;have h9:w.heap.size<wr.drew.heap.size:=ztW (blkA Z.1 QT.1);have L:=ztU hb z.1.size;have b7:=ztU Q z.1.size;have B:wr.drew.cell? ⟨w.heap.size,2,none⟩=some (.slice (some ⟨b,g,none⟩) t.fls.length fc)/\wr.drew.cell? ⟨b2,A+k*2,none⟩=some (.int .i64 (m:Int))/\wr.drew.cell? ⟨b,g+m*9,none⟩=some (.string f.num)/\wr.drew.cell? ⟨b,g+m*9+1,none⟩=some (.string f.frm)/\wr.drew.cell? ⟨b,g+m*9+2,none⟩=some (.string f.to)/\wr.drew.cell? ⟨b,g+m*9+3,none⟩=some (.int .i64 f.dep)/\wr.drew.cell? ⟨b,g+m*9+4,none⟩=some (.int .i64 f.arr)/\wr.drew.cell? ⟨b,g+m*9+5,none⟩=some (.string f.typ)/\wr.drew.cell? ⟨b,g+m*9+6,none⟩=some (.int .i64 f.n0)/\wr.drew.cell? ⟨b,g+m*9+7,none⟩=some (.int .i64 f.n1)/\wr.drew.cell? ⟨b,g+m*9+8,none⟩=some (.int .i64 f.n2):=⟨x2,zD t0 Q z.1,zD p0 hb z.1,zD p1 hb z.1,zD p2 hb z.1,zD p3 hb z.1,zD p4 hb z.1,zD p5 hb z.1,zD p6 hb z.1,zD p7 hb z.1,zD p8 hb z.1⟩;obtain⟨C,c8⟩:∃C,wr.drew=C:=⟨_,rfl⟩;rw[c8]at Z c7 B h9 L b7;clear hO N x2 z;refine zbD (λw'=>w'.cell? ⟨w.heap.size,2,none⟩=some (.slice (some ⟨b,g,none⟩) t.fls.length fc)/\w'.cell? ⟨b2,A+k*2,none⟩=some (.int .i64 (m:Int))/\w'.cell? ⟨b,g+m*9,none⟩=some (.string f.num)/\w'.cell? ⟨b,g+m*9+1,none⟩=some (.string f.frm)/\w'.cell? ⟨b,g+m*9+2,none⟩=some (.string f.to)/\w'.cell? ⟨b,g+m*9+3,none⟩=some (.int .i64 f.dep)/\w'.cell? ⟨b,g+m*9+4,none⟩=some (.int .i64 f.arr)/\w'.cell? ⟨b,g+m*9+5,none⟩=some (.string f.typ)/\w'.cell? ⟨b,g+m*9+6,none⟩=some (.int .i64 f.n0)/\w'.cell? ⟨b,g+m*9+7,none⟩=some (.int .i64 f.n1)/\w'.cell? ⟨b,g+m*9+8,none⟩=some (.int .i64 f.n2)) [10] (by kernel_rfl) c8 ?_;clear c8;refine zx (i:=0) (v:=.pointer (some ⟨w.heap.size,2,none⟩)) rfl (λw' hS'=>?_) B ?_
   . obtain⟨g0,g1,g2,g3,g4,g5,g6,g7,g8,g9,S⟩:=hS';go_simp
   try simp only[Act.put,O]
   refine zx (i:=1) (v:=.slice (some ⟨b,g,none⟩) t.fls.length fc) rfl (λw' hS'=>?_) B ?_
   . obtain⟨g0,g1,g2,g3,g4,g5,g6,g7,g8,g9,S⟩:=hS';go_simp
   try simp only[Act.put,O]
   refine zx (i:=2) (v:=.slice (some ⟨b2,A,none⟩) d.length dc) rfl (λw' hS'=>?_) B ?_
   . obtain⟨g0,g1,g2,g3,g4,g5,g6,g7,g8,g9,S⟩:=hS';go_simp
   try simp only[Act.put,O]
   refine zx (i:=3) (v:=.int .i64 (k:Int)) rfl (λw' hS'=>?_) B ?_
   . obtain⟨g0,g1,g2,g3,g4,g5,g6,g7,g8,g9,S⟩:=hS';go_simp
   try simp only[Act.put,O]
   refine zx (i:=4) (v:=.pointer (some ⟨b2,A+k*2,none⟩)) rfl (λw' hS'=>?_) B ?_
   . obtain⟨g0,g1,g2,g3,g4,g5,g6,g7,g8,g9,S⟩:=hS';go_simp
   try simp only[Act.put,O]
   refine zx (i:=5) (v:=.pointer (some ⟨b2,A+k*2,none⟩)) rfl (λw' hS'=>?_) B ?_
   . obtain⟨g0,g1,g2,g3,g4,g5,g6,g7,g8,g9,S⟩:=hS';go_simp
   try simp only[Act.put,O]
   refine zx (i:=6) (v:=.int .i64 (m:Int)) rfl (λw' hS'=>?_) B ?_
   . obtain⟨g0,g1,g2,g3,g4,g5,g6,g7,g8,g9,S⟩:=hS';go_simp
   try simp only[Act.put,O]
   refine zx (i:=7) (v:=.pointer (some ⟨b,g+m*9,none⟩)) rfl (λw' hS'=>?_) B ?_
   . obtain⟨g0,g1,g2,g3,g4,g5,g6,g7,g8,g9,S⟩:=hS';go_simp
   try simp only[Act.put,O]
   refine zx (i:=8) (v:=.agg #[.string f.num,.string f.frm,.string f.to,f.dep,f.arr,.string f.typ,f.n0,f.n1,f.n2]) rfl (λw' hS'=>?_) B ?_
   . obtain⟨g0,g1,g2,g3,g4,g5,g6,g7,g8,g9,S⟩:=hS';go_simp
   try simp only[Act.put,O]
   refine zo (i:=9) (o:={dst:=some 14,op:=Op.alloc 82,type:=_,pos:= "measure.go:166",after:=_,guard:=none}) (by kernel_rfl) rfl (by rfl) (λK hK=>?_);go_simp;refine hK.1 _ _ (λ_ h=>⟨zD h.1 h9 (J C (Obj.cells #[.string ⟨#[]⟩,.string ⟨#[]⟩,.string ⟨#[]⟩,.int .i64 0,.int .i64 0,.string ⟨#[]⟩,.int .i64 0,.int .i64 0,.int .i64 0] 82)),zD h.2.1 b7 (J C (Obj.cells #[.string ⟨#[]⟩,.string ⟨#[]⟩,.string ⟨#[]⟩,.int .i64 0,.int .i64 0,.string ⟨#[]⟩,.int .i64 0,.int .i64 0,.int .i64 0] 82)),zD h.2.2.1 L (J C (Obj.cells #[.string ⟨#[]⟩,.string ⟨#[]⟩,.string ⟨#[]⟩,.int .i64 0,.int .i64 0,.string ⟨#[]⟩,.int .i64 0,.int .i64 0,.int .i64 0] 82)),zD h.2.2.2.1 L (J C (Obj.cells #[.string ⟨#[]⟩,.string ⟨#[]⟩,.string ⟨#[]⟩,.int .i64 0,.int .i64 0,.string ⟨#[]⟩,.int .i64 0,.int .i64 0,.int .i64 0] 82)),zD h.2.2.2.2.1 L (J C (Obj.cells #[.string ⟨#[]⟩,.string ⟨#[]⟩,.string ⟨#[]⟩,.int .i64 0,.int .i64 0,.string ⟨#[]⟩,.int .i64 0,.int .i64 0,.int .i64 0] 82)),zD h.2.2.2.2.2.1 L (J C (Obj.cells #[.string ⟨#[]⟩,.string ⟨#[]⟩,.string ⟨#[]⟩,.int .i64 0,.int .i64 0,.string ⟨#[]⟩,.int .i64 0,.int .i64 0,.int .i64 0] 82)),zD h.2.2.2.2.2.2.1 L (J C (Obj.cells #[.string ⟨#[]⟩,.string ⟨#[]⟩,.string ⟨#[]⟩,.int .i64 0,.int .i64 0,.string ⟨#[]⟩,.int .i64 0,.int .i64 0,.int .i64 0] 82)),zD h.2.2.2.2.2.2.2.1 L (J C (Obj.cells #[.string ⟨#[]⟩,.string ⟨#[]⟩,.string ⟨#[]⟩,.int .i64 0,.int .i64 0,.string ⟨#[]⟩,.int .i64 0,.int .i64 0,.int .i64 0] 82)),zD h.2.2.2.2.2.2.2.2.1 L (J C (Obj.cells #[.string ⟨#[]⟩,.string ⟨#[]⟩,.string ⟨#[]⟩,.int .i64 0,.int .i64 0,.string ⟨#[]⟩,.int .i64 0,.int .i64 0,.int .i64 0] 82)),zD h.2.2.2.2.2.2.2.2.2.1 L (J C (Obj.cells #[.string ⟨#[]⟩,.string ⟨#[]⟩,.string ⟨#[]⟩,.int .i64 0,.int .i64 0,.string ⟨#[]⟩,.int .i64 0,.int .i64 0,.int .i64 0] 82)),zD h.2.2.2.2.2.2.2.2.2.2 L (J C (Obj.cells #[.string ⟨#[]⟩,.string ⟨#[]⟩,.string ⟨#[]⟩,.int .i64 0,.int .i64 0,.string ⟨#[]⟩,.int .i64 0,.int .i64 0,.int .i64 0] 82))⟩) ?_;clear hK K B;try simp only[Act.put,O]
   have H:=I (zh C (Obj.cells #[.string ⟨#[]⟩,.string ⟨#[]⟩,.string ⟨#[]⟩,.int .i64 0,.int .i64 0,.string ⟨#[]⟩,.int .i64 0,.int .i64 0,.int .i64 0] 82));have i1:=I (ztS Z.1 (J C (Obj.cells #[.string ⟨#[]⟩,.string ⟨#[]⟩,.string ⟨#[]⟩,.int .i64 0,.int .i64 0,.string ⟨#[]⟩,.int .i64 0,.int .i64 0,.int .i64 0] 82)));have B8:=J C (Obj.cells #[.string ⟨#[]⟩,.string ⟨#[]⟩,.string ⟨#[]⟩,.int .i64 0,.int .i64 0,.string ⟨#[]⟩,.int .i64 0,.int .i64 0,.int .i64 0] 82);have M:W.heap.size<=C.heap.size:=Z.1.size;have q:=ztY C.heap.size;obtain⟨n,a7⟩:∃n,n=C.heap.size:=⟨_,rfl⟩;rw[<-a7]at H M;have q:C.heap.size<=n:=by omega
   simp only[<-a7];clear a7;generalize C.alloc (Obj.cells #[.string ⟨#[]⟩,.string ⟨#[]⟩,.string ⟨#[]⟩,.int .i64 0,.int .i64 0,.string ⟨#[]⟩,.int .i64 0,.int .i64 0,.int .i64 0] 82)=W8 at*;have z0:=zw H.1;have f0:W8.frozen? ⟨n,0,none⟩=false:=zQ H.1;have z1:=zu H.1;have f1:W8.frozen? ⟨n,1,none⟩=false:=zQ H.1;have z2:=zC H.1;have f2:W8.frozen? ⟨n,2,none⟩=false:=zQ H.1;have z3:=zaj H.1;have f3:W8.frozen? ⟨n,3,none⟩=false:=zQ H.1;have z4:=zbe H.1;have f4:W8.frozen? ⟨n,4,none⟩=false:=zQ H.1;have z5:=zbn H.1;have f5:W8.frozen? ⟨n,5,none⟩=false:=zQ H.1;have z6:=zbm H.1;have f6:W8.frozen? ⟨n,6,none⟩=false:=zQ H.1;have z7:=zaK H.1;have f7:W8.frozen? ⟨n,7,none⟩=false:=zQ H.1;have z8:=zaX H.1;have f8:W8.frozen? ⟨n,8,none⟩=false:=zQ H.1;have j7:=ztW H.1;refine zo (i:=10) (o:={dst:=none,op:=Op.store 82 (Operand.tmp 14) (Operand.tmp 37),type:=0,pos:= "measure.go:166",after:=_,guard:=none}) (by kernel_rfl) rfl (by rfl) (λK hK=>?_);go_simp;refine hK.1 _ _ (λh _=>absurd (by decide:(10:Nat)∈ [10]) h) ?_;clear hK K z0 f0 z1 f1 z2 f2 z3 f3 z4 f4 z5 f5 z6 f6 z7 f7 z8 f8 j7;try simp only[Act.put,O]
   refine zM (by kernel_rfl) ?_;have Q0:=H.1;have Q9:=set9 (.string f.num) (.string f.frm) (.string f.to) (.int .i64 f.dep) (.int .i64 f.arr) (.string f.typ) (.int .i64 f.n0) (.int .i64 f.n1) (.int .i64 f.n2) Q0;have i2:Bw W (((((((((W8.setCell ⟨n,0,none⟩ (.string f.num)).setCell ⟨n,1,none⟩ (.string f.frm)).setCell ⟨n,2,none⟩ (.string f.to)).setCell ⟨n,3,none⟩ (.int .i64 f.dep)).setCell ⟨n,4,none⟩ (.int .i64 f.arr)).setCell ⟨n,5,none⟩ (.string f.typ)).setCell ⟨n,6,none⟩ (.int .i64 f.n0)).setCell ⟨n,7,none⟩ (.int .i64 f.n1)).setCell ⟨n,8,none⟩ (.int .i64 f.n2)):=(((((((((i1.1.setCell M _).setCell M _).setCell M _).setCell M _).setCell M _).setCell M _).setCell M _).setCell M _).setCell M _);have B9:Bw C (((((((((W8.setCell ⟨n,0,none⟩ (.string f.num)).setCell ⟨n,1,none⟩ (.string f.frm)).setCell ⟨n,2,none⟩ (.string f.to)).setCell ⟨n,3,none⟩ (.int .i64 f.dep)).setCell ⟨n,4,none⟩ (.int .i64 f.arr)).setCell ⟨n,5,none⟩ (.string f.typ)).setCell ⟨n,6,none⟩ (.int .i64 f.n0)).setCell ⟨n,7,none⟩ (.int .i64 f.n1)).setCell ⟨n,8,none⟩ (.int .i64 f.n2)):=(((((((((B8.setCell q _).setCell q _).setCell q _).setCell q _).setCell q _).setCell q _).setCell q _).setCell q _).setCell q _);have HX:=I i2;have OX:=I (zcn c7.1 B9);have QX:=I Q9;clear Q0 Q9 i2 B9 B8 i1 c7 H;generalize (((((((((W8.setCell ⟨n,0,none⟩ (.string f.num)).setCell ⟨n,1,none⟩ (.string f.frm)).setCell ⟨n,2,none⟩ (.string f.to)).setCell ⟨n,3,none⟩ (.int .i64 f.dep)).setCell ⟨n,4,none⟩ (.int .i64 f.arr)).setCell ⟨n,5,none⟩ (.string f.typ)).setCell ⟨n,6,none⟩ (.int .i64 f.n0)).setCell ⟨n,7,none⟩ (.int .i64 f.n1)).setCell ⟨n,8,none⟩ (.int .i64 f.n2))=X at*;clear W8 Z;rcases Nat.eq_zero_or_pos k with a0|a0
   . have dk:decide (0<k)=false:=by simp;omega
     have a1:=I a0;clear a0;have T:=HX;have OB:=OX;have QB:=QX;have a2:=I (ztS HB.1 HX.1);clear HX OX QX;have c1:=zD t1 Q a2.1;have a8:=ztU Q a2.1.size;cases hh:(tAt d k).2
     . rw[hh]at c1;have HH:=I hh;clear hh;have n3:=zaj QB.1;have n4:=zbe QB.1;have nl:=ztW QB.1;have c9:IntKind.i64.wrap (s.blk+f.arr)=s.blk+f.arr:=by rw[IntKind.wrap_i64];omega
       have d0:IntKind.i64.wrap (s.blk+f.arr-f.dep)=s.blk+f.arr-f.dep:=by rw[IntKind.wrap_i64];omega
       have d1:IntKind.i64.wrap (s.legs+1)=s.legs+1:=by rw[IntKind.wrap_i64];omega
       go_wp2_with fail;go_quiet (fail)
       obtain⟨ka,kc,rfl,D⟩:=zhu OB.1;have U:=I D;clear D n3 n4 nl c9 d0 d1 c1 a8;go_wp2_with fail;go_loopw [16,17] (λx y w4=>∃j:Nat,j<=s.kinds.length/\x=.bool (hasB (s.kinds.take j) f.typ)/\y=.int .i64 j/\ztR (Bw X w4)) (λ_ y _=>s.kinds.length-(intOf y).toNat)
       case atStart=>exact⟨0,ztX _,rfl,rfl,I (dr _ _)⟩
       obtain⟨j,hj,rfl,rfl,l⟩:=hrel;by_cases E:j<s.kinds.length
       . obtain⟨b4,i3,rfl,a9,b0⟩:=U.1.cells (by omega);have k0:=zD (b0 j E) a9 l.1;have i4:=ztU a9 l.1.size;have n5:=zm (j:=5) (blkA l.1 QB.1) rfl;have nl:=ztW (blkA l.1 QB.1);clear b0;cases e1:(hasB (s.kinds.take j) f.typ)
         . cases e2:((sAt s.kinds j).toList==f.typ.toList)
           . go_wp2_with fail;go_quiet (fail)
             go_wp2_with fail;go_roundw
             case rel=>exact⟨j+1,by omega,by rw[zeT s.kinds j E f.typ,e1,show((s.kinds.getD j ByteArray.empty).toList==f.typ.toList)=false from e2];rfl,by go_num,I (ztS l.1 (dr _ _))⟩
             case measure=>simp[intOf];omega
           go_wp2_with fail;go_quiet (fail)
           go_wp2_with fail;go_roundw
           case rel=>exact⟨j+1,by omega,by rw[zeT s.kinds j E f.typ,e1,show((s.kinds.getD j ByteArray.empty).toList==f.typ.toList)=true from e2];rfl,by go_num,I (ztS l.1 (dr _ _))⟩
           case measure=>simp[intOf];omega
         go_wp2_with fail;go_quiet (fail)
         go_wp2_with fail;go_roundw
         case rel=>exact⟨j+1,by omega,by rw[zeT s.kinds j E f.typ,e1];rfl,by go_num,I (ztS l.1 (dr _ _))⟩
         case measure=>simp[intOf];omega
       obtain rfl:j=s.kinds.length:=by omega
       rw[List.take_length];have r:=I (ztS T.1 l.1);have O5:=I (zcn OB.1 l.1);have Q5:=I (blkA l.1 QB.1);clear l U E hj OB QB T a2;cases P:(hasB s.kinds f.typ)
       . have HK:=I P;clear P;have n5:=zm (j:=5) Q5.1 rfl;have nl:=ztW Q5.1;have a:=I (show dvTo t d (k+1)=⟨(s.legs+1),s.heads,(s.blk+f.arr-f.dep),s.lng,s.sht,(s.kinds++ [f.typ])⟩ by rw[zdY,<-a3.1,dvB,if_neg (by have:=a1.1;omega),dvA];rw[if_neg (by rw[HH.1];decide),<-Hf.1];exact zqk _ _ HK.1);go_wp2_with (at_builtin;refine wpList_append_own _ rfl _ _ 140 rfl W.heap.size 9 i0 (.string ByteArray.empty) 1 16 underlying140 hi h5 h6 h7 rfl (by decide) _ _ _ rfl (O5.1.alloc _) ⟨wr.heap.size,0,none⟩ 1 1 [.string f.typ] rfl rfl ?c1 ?c2 ?c3 ?c4 ?c5 ?_)
         case c1=>exact zaa wr [.string f.typ] 9
         case c2=>intro u hu;simp at hu;subst hu;rfl
         case c3=>unfold maxLen;omega
         case c4=>omega
         case c5=>have:=r.1.size;simp;omega
         intro v' WX F G _;have d2:=I ((r.1.alloc r.1.size _).grown G (by have:=r.1.size;simp;omega) (λj hj=>zaM O5.1 j hj));have OX:=I (show WX.ownsRow W.heap.size 9 1 v' (s.kinds++ [f.typ]).length ((s.kinds++ [f.typ]).map Value.string) by rw[zt2,zt3];exact F);clear F G n5 nl O5 Q5 r;go_wp2_with fail;go_roundw
         case rel=>exact⟨k+1,_,by omega,by rw[a.1],by rw[a.1],by rw[a.1],by rw[a.1],by rw[a.1],rfl,by go_num,I (by rw[a.1];exact OX.1),d2⟩
         case measure=>simp[intOf];omega
       have HK:=I P;clear P;have a:=I (show dvTo t d (k+1)=⟨(s.legs+1),s.heads,(s.blk+f.arr-f.dep),s.lng,s.sht,s.kinds⟩ by rw[zdY,<-a3.1,dvB,if_neg (by have:=a1.1;omega),dvA];rw[if_neg (by rw[HH.1];decide),<-Hf.1];exact zqj _ _ HK.1);go_wp2_with fail;go_roundw
       case rel=>exact⟨k+1,_,by omega,by rw[a.1],by rw[a.1],by rw[a.1],by rw[a.1],by rw[a.1],rfl,by go_num,I (by rw[a.1];exact O5.1),r⟩
       case measure=>simp[intOf];omega
     rw[hh]at c1;have HH:=I hh;clear hh;have a:=I (show dvTo t d (k+1)=⟨s.legs,(s.heads+1),s.blk,s.lng,s.sht,s.kinds⟩ by rw[zdY,<-a3.1,dvB,if_neg (by have:=a1.1;omega),dvA];rw[if_pos HH.1];rfl);go_wp2_with fail;go_roundw
     case rel=>exact⟨k+1,_,by omega,by rw[a.1],by rw[a.1],by rw[a.1],by rw[a.1],by rw[a.1],rfl,by go_num,I (by rw[a.1];exact OB.1),T⟩
     case measure=>simp[intOf];omega
   have dk:decide (0<k)=true:=by simpa using a0
   have a1:=I a0;have d3:k-1<d.length:=by omega
   obtain⟨m',d4,i5⟩:=zbO (H3.1 (k-1) d3);have i6:fAt t.fls m'=(fOf t d (k-1)):=by unfold fOf;rw[d4];rfl
   obtain⟨⟨-,-,-,-,d5,-⟩,-⟩:=h4.1 m' i5;rw[i6]at d5;obtain⟨z0,z1⟩:=znl HC.1 HE.1 a6 a0;rw[<-Hf.1]at z0 z1;have b1:=I (ztS HB.1 HX.1);have c0:=(a5.1 (k-1) d3).1;rw[d4]at c0;have c0:=zD c0 Q b1.1;have c4:=zD d5 hb b1.1;have x2:X.cell? ⟨w.heap.size,2,none⟩=some (.slice (some ⟨b,g,none⟩) t.fls.length fc):=zm (j:=2) (blkA HX.1 QT.1) rfl;have xl:=ztW (blkA HX.1 QT.1);have i7:=ztU Q b1.1.size;have j8:=ztU hb b1.1.size;have n3:=zaj QX.1;have nl:=ztW QX.1;have j9:(0:Int)<=(k:Int)-1:=by omega
   have k1:(k:Int)-1<(d.length:Int):=by omega
   have e1:IntKind.i64.wrap ((k:Int)-1)=(k:Int)-1:=by rw[IntKind.wrap_i64];omega
   have e2:((k:Int)-1).toNat=k-1:=by omega
   have e3:IntKind.i64.wrap (f.dep-(fOf t d (k-1)).arr)=(f.dep-(fOf t d (k-1)).arr):=by rw[IntKind.wrap_i64];omega
   clear d4 i6 d5 d3 a0;go_wp2_with fail;go_quiet (fail)
   clear x2 xl i7 j8 n3 nl j9 k1 e1 e2 e3 c0 c4;go_upto_region 10 with fail
   rw[show max s.lng (f.dep-(fOf t d (k-1)).arr)=mx s.lng (f.dep-(fOf t d (k-1)).arr) from max_mx _ _,show min s.sht (f.dep-(fOf t d (k-1)).arr)=mn s.sht (f.dep-(fOf t d (k-1)).arr) from min_mn _ _];have HY:=dr X nq;have T:=I (ztS HX.1 HY);have OB:=I (zcn OX.1 HY);have QB:=I (blkA HY QX.1);have a2:=I (ztS HB.1 T.1);clear HX OX QX HY b1;generalize X.drewN nq=Y at*;obtain⟨g1,d6⟩:∃g1,g1=mx s.lng (f.dep-(fOf t d (k-1)).arr):=⟨_,rfl⟩;obtain⟨g2,d7⟩:∃g2,g2=mn s.sht (f.dep-(fOf t d (k-1)).arr):=⟨_,rfl⟩;rw[<-d6,<-d7];have HG:=I (And.intro d6 d7);clear d6 d7;have c1:=zD t1 Q a2.1;have a8:=ztU Q a2.1.size;cases hh:(tAt d k).2
   . rw[hh]at c1;have HH:=I hh;clear hh;have n3:=zaj QB.1;have n4:=zbe QB.1;have nl:=ztW QB.1;have c9:IntKind.i64.wrap (s.blk+f.arr)=s.blk+f.arr:=by rw[IntKind.wrap_i64];omega
     have d0:IntKind.i64.wrap (s.blk+f.arr-f.dep)=s.blk+f.arr-f.dep:=by rw[IntKind.wrap_i64];omega
     have d1:IntKind.i64.wrap (s.legs+1)=s.legs+1:=by rw[IntKind.wrap_i64];omega
     go_wp2_with fail;go_quiet (fail)
     obtain⟨ka,kc,rfl,D⟩:=zhu OB.1;have U:=I D;clear D n3 n4 nl c9 d0 d1 c1 a8;go_wp2_with fail;go_loopw [16,17] (λx y w4=>∃j:Nat,j<=s.kinds.length/\x=.bool (hasB (s.kinds.take j) f.typ)/\y=.int .i64 j/\ztR (Bw Y w4)) (λ_ y _=>s.kinds.length-(intOf y).toNat)
     case atStart=>exact⟨0,ztX _,rfl,rfl,I (dr _ _)⟩
     obtain⟨j,hj,rfl,rfl,l⟩:=hrel;by_cases E:j<s.kinds.length
     . obtain⟨b4,i3,rfl,a9,b0⟩:=U.1.cells (by omega);have k0:=zD (b0 j E) a9 l.1;have i4:=ztU a9 l.1.size;have n5:=zm (j:=5) (blkA l.1 QB.1) rfl;have nl:=ztW (blkA l.1 QB.1);clear b0;cases e1:(hasB (s.kinds.take j) f.typ)
       . cases e2:((sAt s.kinds j).toList==f.typ.toList)
         . go_wp2_with fail;go_quiet (fail)
           go_wp2_with fail;go_roundw
           case rel=>exact⟨j+1,by omega,by rw[zeT s.kinds j E f.typ,e1,show((s.kinds.getD j ByteArray.empty).toList==f.typ.toList)=false from e2];rfl,by go_num,I (ztS l.1 (dr _ _))⟩
           case measure=>simp[intOf];omega
         go_wp2_with fail;go_quiet (fail)
         go_wp2_with fail;go_roundw
         case rel=>exact⟨j+1,by omega,by rw[zeT s.kinds j E f.typ,e1,show((s.kinds.getD j ByteArray.empty).toList==f.typ.toList)=true from e2];rfl,by go_num,I (ztS l.1 (dr _ _))⟩
         case measure=>simp[intOf];omega
       go_wp2_with fail;go_quiet (fail)
       go_wp2_with fail;go_roundw
       case rel=>exact⟨j+1,by omega,by rw[zeT s.kinds j E f.typ,e1];rfl,by go_num,I (ztS l.1 (dr _ _))⟩
       case measure=>simp[intOf];omega
     obtain rfl:j=s.kinds.length:=by omega
     rw[List.take_length];have r:=I (ztS T.1 l.1);have O5:=I (zcn OB.1 l.1);have Q5:=I (blkA l.1 QB.1);clear l U E hj OB QB T a2;cases P:(hasB s.kinds f.typ)
     . have HK:=I P;clear P;have n5:=zm (j:=5) Q5.1 rfl;have nl:=ztW Q5.1;have a:=I (show dvTo t d (k+1)=⟨(s.legs+1),s.heads,(s.blk+f.arr-f.dep),g1,g2,(s.kinds++ [f.typ])⟩ by rw[HG.1.1,HG.1.2];rw[zdY,<-a3.1,dvB,if_pos a1.1,<-Hf.1,dvA];rw[if_neg (by rw[HH.1];decide),<-Hf.1];exact zqk _ _ HK.1);go_wp2_with (at_builtin;refine wpList_append_own _ rfl _ _ 140 rfl W.heap.size 9 i0 (.string ByteArray.empty) 1 16 underlying140 hi h5 h6 h7 rfl (by decide) _ _ _ rfl (O5.1.alloc _) ⟨wr.heap.size,0,none⟩ 1 1 [.string f.typ] rfl rfl ?c1 ?c2 ?c3 ?c4 ?c5 ?_)
       case c1=>exact zaa wr [.string f.typ] 9
       case c2=>intro u hu;simp at hu;subst hu;rfl
       case c3=>unfold maxLen;omega
       case c4=>omega
       case c5=>have:=r.1.size;simp;omega
       intro v' WX F G _;have d2:=I ((r.1.alloc r.1.size _).grown G (by have:=r.1.size;simp;omega) (λj hj=>zaM O5.1 j hj));have OX:=I (show WX.ownsRow W.heap.size 9 1 v' (s.kinds++ [f.typ]).length ((s.kinds++ [f.typ]).map Value.string) by rw[zt2,zt3];exact F);clear F G n5 nl O5 Q5 r;go_wp2_with fail;go_roundw
       case rel=>exact⟨k+1,_,by omega,by rw[a.1],by rw[a.1],by rw[a.1],by rw[a.1],by rw[a.1],rfl,by go_num,I (by rw[a.1];exact OX.1),d2⟩
       case measure=>simp[intOf];omega
     have HK:=I P;clear P;have a:=I (show dvTo t d (k+1)=⟨(s.legs+1),s.heads,(s.blk+f.arr-f.dep),g1,g2,s.kinds⟩ by rw[HG.1.1,HG.1.2];rw[zdY,<-a3.1,dvB,if_pos a1.1,<-Hf.1,dvA];rw[if_neg (by rw[HH.1];decide),<-Hf.1];exact zqj _ _ HK.1);go_wp2_with fail;go_roundw
     case rel=>exact⟨k+1,_,by omega,by rw[a.1],by rw[a.1],by rw[a.1],by rw[a.1],by rw[a.1],rfl,by go_num,I (by rw[a.1];exact O5.1),r⟩
     case measure=>simp[intOf];omega
   rw[hh]at c1;have HH:=I hh;clear hh;have a:=I (show dvTo t d (k+1)=⟨s.legs,(s.heads+1),s.blk,g1,g2,s.kinds⟩ by rw[HG.1.1,HG.1.2];rw[zdY,<-a3.1,dvB,if_pos a1.1,<-Hf.1,dvA];rw[if_pos HH.1];rfl);go_wp2_with fail;go_roundw
   case rel=>exact⟨k+1,_,by omega,by rw[a.1],by rw[a.1],by rw[a.1],by rw[a.1],by rw[a.1],rfl,by go_num,I (by rw[a.1];exact OB.1),T⟩
   case measure=>simp[intOf];omega
 obtain rfl:k=d.length:=by omega
 obtain⟨ka,kc,rfl,D⟩:=zhu hO.1;have HW:=I (ztS HB.1 N.1);have qt:=blkA N.1 QT.1;have V:=blkA N.1 QC.1;have x0:=zw qt;have x1:=zu qt;have x2:wr.cell? ⟨w.heap.size,2,none⟩=some (.slice (some ⟨b,g,none⟩) t.fls.length fc):=zm (j:=2) qt rfl;have y0:=zw V;have y1:=zu V;have y2:=zC V;have y3:=zaj V;have y4:=zbe V;have y5:=zbn V;have y6:=zbm V;have y7:=zaK V;have y8:=zaX V;have y9:=zbr V;have i8:=zbb V;have i9:=zby V;have j0:=zbx V;have j1:=zcq V;have xl:=ztW qt;have yl:=ztW V;have C1:=I (λdd os=>ztZ (ziT t za zc aa ac (some ⟨b,g,none⟩) fc (grow (redrawn wr dd) os) (HF.1.below (ztS HW.1 (below_regrown wr dd os))) a4 d (some ⟨b2,A,none⟩) dc ⟨by omega,by omega⟩ (HD.1.below (ztS HW.1 (below_regrown wr dd os))) (fstN d) HM.1.1 f9));have C2:=I (λdd os=>ztZ (zlb t za zc aa ac (some ⟨b,g,none⟩) fc (grow (redrawn wr dd) os) (HF.1.below (ztS HW.1 (below_regrown wr dd os))) a4 d (some ⟨b2,A,none⟩) dc ⟨by omega,by omega⟩ (HD.1.below (ztS HW.1 (below_regrown wr dd os))) (lstN d) HM.1.2 h1));have C3:=I (λdd os=>ztZ (zhi t c za zc aa ac (some ⟨b,g,none⟩) fc p (grow (redrawn wr dd) os) R.1 HC.1 (HF.1.below (ztS HW.1 (below_regrown wr dd os))) d (some ⟨b2,A,none⟩) dc HE.1 (HD.1.below (ztS HW.1 (below_regrown wr dd os)))));have C4:=I (λdd os=>ztZ (zqA t c za zc aa ac (some ⟨b,g,none⟩) fc p (grow (redrawn wr dd) os) R.1 (HZ.1.below (ztS HW.1 (below_regrown wr dd os))) (HA.1.below (ztS HW.1 (below_regrown wr dd os))) (fAt t.fls (fstN d)).frm (fAt t.fls (lstN d)).to (zfV R.1 f9).1 (zfV R.1 h1).2 (zcK t c d).1 (zcK t c d).2 (znp R.1 HC.1 HE.1)));rw[ztd R.1 HC.1 HE.1]at C4;have k2:∀w:World,(Instr.field 82 (.agg #[.string (fAt t.fls (fstN d)).num,.string (fAt t.fls (fstN d)).frm,.string (fAt t.fls (fstN d)).to,(fAt t.fls (fstN d)).dep,(fAt t.fls (fstN d)).arr,.string (fAt t.fls (fstN d)).typ,(fAt t.fls (fstN d)).n0,(fAt t.fls (fstN d)).n1,(fAt t.fls (fstN d)).n2]) 1).run prog w=.ok (.string (fAt t.fls (fstN d)).frm) w:=λ_=>by kernel_rfl
 have k3:∀w:World,(Instr.field 82 (.agg #[.string (fAt t.fls (lstN d)).num,.string (fAt t.fls (lstN d)).frm,.string (fAt t.fls (lstN d)).to,(fAt t.fls (lstN d)).dep,(fAt t.fls (lstN d)).arr,.string (fAt t.fls (lstN d)).typ,(fAt t.fls (lstN d)).n0,(fAt t.fls (lstN d)).n1,(fAt t.fls (lstN d)).n2]) 2).run prog w=.ok (.string (fAt t.fls (lstN d)).to) w:=λ_=>by kernel_rfl
 clear qt V D hO;go_wp2_with fail;have r0:=λdd os=>cell_regrown x0 dd os
 have r1:=λdd os=>cell_regrown x1 dd os
 have r2:=λdd os=>cell_regrown x2 dd os
 have s0:=λdd os=>cell_regrown y0 dd os
 have s1:=λdd os=>cell_regrown y1 dd os
 have s2:=λdd os=>cell_regrown y2 dd os
 have s3:=λdd os=>cell_regrown y3 dd os
 have s4:=λdd os=>cell_regrown y4 dd os
 have s5:=λdd os=>cell_regrown y5 dd os
 have s6:=λdd os=>cell_regrown y6 dd os
 have s7:=λdd os=>cell_regrown y7 dd os
 have s8:=λdd os=>cell_regrown y8 dd os
 have s9:=λdd os=>cell_regrown y9 dd os
 have k4:=λdd os=>cell_regrown i8 dd os
 have k5:=λdd os=>cell_regrown i9 dd os
 have k6:=λdd os=>cell_regrown j0 dd os
 have k7:=λdd os=>cell_regrown j1 dd os
 refine wp_region_quiet_below (by kernel_rfl) (by kernel_rfl) ?_;repeat (first|go_big_quiet_step (first|(with_reducible exact C1.1 _ _)|(with_reducible exact C2.1 _ _)|(with_reducible exact C3.1 _ _)|(with_reducible exact C4.1 _ _))|quiet_step (first|(with_reducible exact C1.1 _ _)|(with_reducible exact C2.1 _ _)|(with_reducible exact C3.1 _ _)|(with_reducible exact C4.1 _ _)))
 refine wpQuiet_nil ?_;intro _ k8;obtain⟨⟨dq,j2⟩,j3⟩:=k8;subst j3;have j4:=I (ztS HW.1 (below_regrown wr dq j2));clear r0 r1 r2 s0 s1 s2 s3 s4 s5 s6 s7 s8 s9 k4 k5 k6 k7 C1 C2 C3 C4 x0 x1 x2 y0 y1 y2 y3 y4 y5 y6 y7 y8 y9 i8 i9 j0 j1 xl yl N k2 k3 HW;generalize grow (redrawn wr dq) j2=W3 at*;go_wp2_with fail;have d8:=I (ztS j4.1 (J W3 (.cells ((zaZ t c d).map (Value.int .i64)).toArray 3)));refine(zoD 1 (by decide) (by decide) (zaZ t c d) (some ⟨W3.heap.size,0,none⟩) 11 (W3.alloc (.cells ((zaZ t c d).map (Value.int .i64)).toArray 3)) rfl (zW.new W3 (zaZ t c d) 3)).mono ?_;rintro e w5 ⟨vr,b8,rfl,b3,b9,j5⟩;have r:=I (ztS d8.1 j5);have k9:=I b9;have l0:w.heap.size<=b8:=ztV d8.1.size b3;clear j5 b9 b3 d8 j4;go_wp2_with fail;go_ret;exact⟨vr,b8,rfl,l0,k9.1,r.1⟩
end Go.Proofs.YtbhhejkolnigfaaGreat
