/- a part of the proof -/
import Derived.Test.YtelojoopofolpaaGreatGJ
set_option linter.all false
set_option maxRecDepth 100000
set_option maxHeartbeats 3000000
namespace Go.Proofs.YtelojoopofolpaaGreat
open Go.RowKit Go.Sort Go.Proofs.Tryz
variable {N:LB}{q:LI}{b f i j k:Nat}{l:List (BA×Int)}{s:BA}{w w':Wd}{v:Value}{a:Int}{x:zE}{V:List (Int×Int×BA)}
theorem zW.new(w:Wd)(l:LI)(e:TypeId):zW (w.alloc (.cells (l.map (Value.int .i64)).toArray e)) (some (aD w.heap.size 0)) l:=by
 refine .inr ⟨w.heap.size,0,rfl,by rw[zr];omega,λi hi=>?_⟩;rw[World.cell?_alloc_at _ _ _ _ rfl];simp[Am,hi]
theorem QG(s:DV)(f:Ft)(h:Ao s.kinds f.ty=false):Mj f s=⟨s.legs+1,s.heads,s.blk+f.ar-f.dp,s.lng,s.sht,s.kinds++ [f.ty]⟩:=by
 unfold Mj;rw[h,iN (by decide),show s.blk+(f.ar-f.dp)=s.blk+f.ar-f.dp by omega]
theorem QE(s:DV)(f:Ft)(h:Ao s.kinds f.ty=true):Mj f s=⟨s.legs+1,s.heads,s.blk+f.ar-f.dp,s.lng,s.sht,s.kinds⟩:=by
 unfold Mj;rw[iP h,show s.blk+(f.ar-f.dp)=s.blk+f.ar-f.dp by omega]
theorem Xz(a b:Int):max a b=mx a b:=by unfold mx;split <;> omega
theorem Ya(a b:Int):min a b=mn a b:=by unfold mn;split <;> omega
theorem iV(t:At)(c:Ad)(za:Ae)(zc:Nat)(aa:Ae)(ac:Nat)(fa:Ae)(fc:Nat)(p:Bd)(w:Wd)(hT:zY t=0)(hC:Ax c=0)(hz:Al Nc w za t.zn)(ha:Al Mk w aa t.ai)(hf:Al Hi w fa t.fs)(d:Ai)(da:Ae)(dc:Nat)(a6:Cc t c d=0)(hd:Al Ei w da d):
 Calls prog 54 #[Az t za zc aa ac fa fc,Ay c p,.slice da d.length dc] w (Tu w (zk 1) (Bo t c d)):=by
 try delta Ay Az
 obtain⟨d2,d3,d4,d5⟩:=Jl a6;obtain⟨l1,l2,d6,_⟩:=Ka a6;have Y:=(On hT).2.2;have HF:=I hf;have HD:=I hd;obtain⟨b,a,rfl,V,d7⟩:=Qg hf (by omega);obtain⟨b2,r,rfl,S,b0⟩:=Ok hd (by omega);have HZ:=I hz;have HA:=I ha;have G:=I hT;have HC:=I hC;have HE:=I a6;have d8:=I d7;have Z:=I b0;have H3:=I d6;have HM:=I (aI d2 d4);obtain⟨i0,hi,i7,i8,i9⟩:=info_parts yO;clear hf hd hz ha hT hC a6 d7 b0 d6 d2 d4;go_in;go_wp2_with fail;have HB:=I (Ab (J w (Ap t za zc aa ac (some (aD b a)) fc)) (J _ (Aj c p)));have QT:=I (zd (o':=(Aj c p)) (zh w (Ap t za zc aa ac (some (aD b a)) fc)));have QC:=I (zh (w.alloc (Ap t za zc aa ac (some (aD b a)) fc)) (Aj c p));rw[zr]at QC;obtain⟨cb,b7⟩:=xSa (w.heap.size+1);rw[<-b7]at QC;simp only[<-b7];clear b7;generalize (w.alloc (Ap t za zc aa ac (some (aD b a)) fc)).alloc (Aj c p)=W at*;go_loopw [7,8,9,10,11,12,13] (λx7 x8 x9 x10 x11 x12 x13 wr=>∃(k:Nat) (v:Value),k<=d.length/\x7=vIa (By t d k).legs/\x8=vIa (By t d k).heads/\x9=vIa (By t d k).blk/\x10=vIa (By t d k).lng/\x11=vIa (By t d k).sht/\v=x12/\x13=vIa k/\Af (wr.ownsRow W.heap.size 9 1 v (By t d k).kinds.length ((By t d k).kinds.map Value.string))/\Af (Bw W wr)) (λ_ _ _ _ _ _ x13 _=>d.length-(intOf x13).toNat);exact⟨0,_,Bg _,rfl,rfl,rfl,rfl,rfl,rfl,rfl,I (World.ownsRow_nil _ _ _ _),I (An _ _)⟩;obtain⟨k,v,hk,rfl,rfl,rfl,rfl,rfl,rfl,rfl,hO,F⟩:=hrel;by_cases a0:k<d.length
 . obtain⟨m,hm,j0⟩:=Qh (H3.1 k a0);obtain⟨⟨p0,p1,p2,p3,p4,p5,p6,p7,p8⟩,_⟩:=d8.1 m j0;have t0:=(Z.1 k a0).1;have t1:=(Z.1 k a0).2;rw[hm]at t0;obtain⟨s,hs⟩:=xSa (By t d k);simp only[<-hs]at hO ⊢;have d9:=Qv.to G.1 HC.1 HE.1 k hk;rw[<-hs]at d9;obtain⟨l3,l4,l5,l6,l7,l8,l9,m0,m1,m2,m3⟩:=d9;have m4:k<6:=by omega
   obtain⟨q0,q1,q2,q3⟩:=bM G.1 HE.1 a0;have hF:Aa t.fs m=Ey t d k:=by unfold Ey;rw[hm];rfl
   rw[hF]at p0 p1 p2 p3 p4 p5 p6 p7 p8;have b8:=I hs;have Hm:=I hm;obtain⟨f,hf⟩:=xSa (Ey t d k);rw[<-hf]at p0 p1 p2 p3 p4 p5 p6 p7 p8 q0 q1 q2 q3;have Hf:=I hf;clear hs hm hf hF;go_wp2_with fail;have N:=I F.1.drew;have b9:Af (wr.drew.ownsRow W.heap.size 9 1 v s.kinds.length (s.kinds.map Value.string)):=hO;have q:=jS HB N.1;have x2:wr.drew.cell? (aD w.heap.size 2)=some (sAa b a t.fs.length fc):=zm (j:=2) (Ac N.1 QT.1) rfl;have f9:w.heap.size<wr.drew.heap.size:=Ag (Ac N.1 QT.1);have D:=As V q.1.size;have b1:=As S q.1.size;have z:wr.drew.cell? (aD w.heap.size 2)=some (sAa b a t.fs.length fc)/\wr.drew.cell? (aD b2 (r+k*2))=some (vIa (m:Int))/\wr.drew.cell? (aD b (a+m*9))=some (.string f.num)/\wr.drew.cell? (aD b (a+m*9+1))=some (.string f.fq)/\wr.drew.cell? (aD b (a+m*9+2))=some (.string f.to)/\wr.drew.cell? (aD b (a+m*9+3))=some (vIa f.dp)/\wr.drew.cell? (aD b (a+m*9+4))=some (vIa f.ar)/\wr.drew.cell? (aD b (a+m*9+5))=some (.string f.ty)/\wr.drew.cell? (aD b (a+m*9+6))=some (vIa f.n0)/\wr.drew.cell? (aD b (a+m*9+7))=some (vIa f.n1)/\wr.drew.cell? (aD b (a+m*9+8))=some (vIa f.n2):=⟨x2,zD t0 S q.1,zD p0 V q.1,zD p1 V q.1,zD p2 V q.1,zD p3 V q.1,zD p4 V q.1,zD p5 V q.1,zD p6 V q.1,zD p7 V q.1,zD p8 V q.1⟩;obtain⟨A,c6⟩:∃A,wr.drew=A:=⟨_,rfl⟩;rw[c6]at N b9 z f9 D b1;clear hO F x2 q;refine Ys (λw'=>w'.cell? (aD w.heap.size 2)=some (sAa b a t.fs.length fc)/\w'.cell? (aD b2 (r+k*2))=some (vIa (m:Int))/\w'.cell? (aD b (a+m*9))=some (.string f.num)/\w'.cell? (aD b (a+m*9+1))=some (.string f.fq)/\w'.cell? (aD b (a+m*9+2))=some (.string f.to)/\w'.cell? (aD b (a+m*9+3))=some (vIa f.dp)/\w'.cell? (aD b (a+m*9+4))=some (vIa f.ar)/\w'.cell? (aD b (a+m*9+5))=some (.string f.ty)/\w'.cell? (aD b (a+m*9+6))=some (vIa f.n0)/\w'.cell? (aD b (a+m*9+7))=some (vIa f.n1)/\w'.cell? (aD b (a+m*9+8))=some (vIa f.n2)) [10] (by kernel_rfl) c6 ?_;clear c6;refine jV (i:=0) (v:=pAa w.heap.size 2) rfl z ?_;try simp only[O]
   refine jV (i:=1) (v:=sAa b a t.fs.length fc) rfl z ?_;try simp only[O]
   refine jV (i:=2) (v:=sAa b2 r d.length dc) rfl z ?_;try simp only[O]
   refine jV (i:=3) (v:=vIa (k:Int)) rfl z ?_;try simp only[O]
   refine jV (i:=4) (v:=pAa b2 (r+k*2)) rfl z ?_;try simp only[O]
   refine jV (i:=5) (v:=pAa b2 (r+k*2)) rfl z ?_;try simp only[O]
   refine jV (i:=6) (v:=vIa (m:Int)) rfl z ?_;try simp only[O]
   refine jV (i:=7) (v:=pAa b (a+m*9)) rfl z ?_;try simp only[O]
   refine jV (i:=8) (v:=.agg #[.string f.num,.string f.fq,.string f.to,f.dp,f.ar,.string f.ty,f.n0,f.n1,f.n2]) rfl z ?_;try simp only[O]
   refine sOa (i:=9) rfl λK hK=>?_;go_simp;refine hK.1 _ _ (λ_ h=>⟨zD h.1 f9 (J A jC),zD h.2.1 b1 (J A jC),zD h.2.2.1 D (J A jC),zD h.2.2.2.1 D (J A jC),zD h.2.2.2.2.1 D (J A jC),zD h.2.2.2.2.2.1 D (J A jC),zD h.2.2.2.2.2.2.1 D (J A jC),zD h.2.2.2.2.2.2.2.1 D (J A jC),zD h.2.2.2.2.2.2.2.2.1 D (J A jC),zD h.2.2.2.2.2.2.2.2.2.1 D (J A jC),zD h.2.2.2.2.2.2.2.2.2.2 D (J A jC)⟩) ?_;clear hK K z;try simp only[O]
   have C:=I (zh A jC);have h0:=jS N (J A jC);have B8:=J A jC;have E:W.heap.size<=A.heap.size:=N.1.size;have n:=Bv A.heap.size;obtain⟨l,a1⟩:=xSa A.heap.size;rw[<-a1]at C E;have n:A.heap.size<=l:=by omega
   simp only[<-a1];clear a1;generalize A.alloc jC=T at*;have z0:=zw C.1;have f0:=FA C.1;have z1:=zu C.1;have z2:=zC C.1;have z3:=Hk C.1;have z4:=Ks C.1;have z5:=Lg C.1;have z6:=Mf C.1;have z7:=Ic C.1;have z8:=Jg C.1;have j1:=Ag C.1;refine sOa (i:=10) rfl λK hK=>?_;go_simp;refine hK.1 _ _ (λh _=>aB (by decide:(10:Nat)∈ [10]) h) ?_;clear hK K z0 f0 z1 z2 z3 z4 z5 z6 z7 z8 j1;try simp only[O]
   refine zM (by kernel_rfl) ?_;have Q0:=C.1;have Q9:=Yn (.string f.num) (.string f.fq) (.string f.to) (vIa f.dp) (vIa f.ar) (.string f.ty) (vIa f.n0) (vIa f.n1) (vIa f.n2) Q0;have h1:Bw W (((((((((T.setCell (aD l 0) (.string f.num)).setCell (aD l 1) (.string f.fq)).setCell (aD l 2) (.string f.to)).setCell (aD l 3) (vIa f.dp)).setCell (aD l 4) (vIa f.ar)).setCell (aD l 5) (.string f.ty)).setCell (aD l 6) (vIa f.n0)).setCell (aD l 7) (vIa f.n1)).setCell (aD l 8) (vIa f.n2)):=(((((((((h0.1.setCell E _).setCell E _).setCell E _).setCell E _).setCell E _).setCell E _).setCell E _).setCell E _).setCell E _);have B9:Bw A (((((((((T.setCell (aD l 0) (.string f.num)).setCell (aD l 1) (.string f.fq)).setCell (aD l 2) (.string f.to)).setCell (aD l 3) (vIa f.dp)).setCell (aD l 4) (vIa f.ar)).setCell (aD l 5) (.string f.ty)).setCell (aD l 6) (vIa f.n0)).setCell (aD l 7) (vIa f.n1)).setCell (aD l 8) (vIa f.n2)):=(((((((((B8.setCell n _).setCell n _).setCell n _).setCell n _).setCell n _).setCell n _).setCell n _).setCell n _).setCell n _);have HX:=I h1;have OX:=I (Sk b9.1 B9);have QX:=I Q9;clear Q0 Q9 h1 B9 B8 h0 b9 C;generalize (((((((((T.setCell (aD l 0) (.string f.num)).setCell (aD l 1) (.string f.fq)).setCell (aD l 2) (.string f.to)).setCell (aD l 3) (vIa f.dp)).setCell (aD l 4) (vIa f.ar)).setCell (aD l 5) (.string f.ty)).setCell (aD l 6) (vIa f.n0)).setCell (aD l 7) (vIa f.n1)).setCell (aD l 8) (vIa f.n2))=X at*;clear T N;go_upto_if 39 with(fail);go_cut [10,11] (λx10 x11 wx=>∃P Q:Int,x10=vIa P/\x11=vIa Q/\Af (Ta t d k s=⟨s.legs,s.heads,s.blk,P,Q,s.kinds⟩)/\Af (Bw W wx)/\Af (wx.ownsRow W.heap.size 9 1 v s.kinds.length (s.kinds.map Value.string))/\Af (wx.heap[l]?=some (oW f)))
   case first=>
    rcases Nat.eq_zero_or_pos k with U|U
    . have dk:decide (0<k)=false:=by simp;omega
      have HG:=I (show Ta t d k s=⟨s.legs,s.heads,s.blk,s.lng,s.sht,s.kinds⟩ from iN (by omega));clear U;rw[dk];go_wp2;go_meet;exact⟨_,_,rfl,rfl,HG,HX,OX,QX⟩
    have dk:decide (0<k)=true:=by simpa using U
    have HG:=I (show Ta t d k s=⟨s.legs,s.heads,s.blk,(mx s.lng (f.dp-(Ey t d (k-1)).ar)),(mn s.sht (f.dp-(Ey t d (k-1)).ar)),s.kinds⟩ by rw[Ta,iP U,<-Hf.1];rfl);have c7:k-1<d.length:=by omega
    obtain⟨m',c8,h2⟩:=Qh (H3.1 (k-1) c7);have h3:Aa t.fs m'=(Ey t d (k-1)):=by unfold Ey;rw[c8];rfl
    obtain⟨⟨-,-,-,-,c9,-⟩,-⟩:=d8.1 m' h2;rw[h3]at c9;obtain⟨z0,z1⟩:=kM HC.1 HE.1 a0 U;rw[<-Hf.1]at z0 z1;have a7:=jS HB HX.1;have c0:=(Z.1 (k-1) c7).1;rw[c8]at c0;have c0:=zD c0 S a7.1;have c4:=zD c9 V a7.1;have x2:X.cell? (aD w.heap.size 2)=some (sAa b a t.fs.length fc):=zm (j:=2) (Ac HX.1 QT.1) rfl;have xl:=Ag (Ac HX.1 QT.1);have h4:=As S a7.1.size;have j2:=As V a7.1.size;have n3:=Hk QX.1;have nl:=Ag QX.1;have j3:(0:Int)<=(k:Int)-1:=by omega
    have j4:(k:Int)-1<(d.length:Int):=by omega
    have e1:IntKind.i64.wrap ((k:Int)-1)=(k:Int)-1:=by rw[wI];omega
    have e2:((k:Int)-1).toNat=k-1:=by omega
    have e3:IntKind.i64.wrap (f.dp-(Ey t d (k-1)).ar)=(f.dp-(Ey t d (k-1)).ar):=by rw[wI];omega
    clear c8 h3 c9 c7 U;rw[dk];go_wp2;go_quiet (fail);clear x2 xl h4 j2 n3 nl j3 j4 e1 e2 e3 c0 c4;go_wp2;go_meet;have HY:=dr X nq;exact⟨mx s.lng (f.dp-(Ey t d (k-1)).ar),mn s.sht (f.dp-(Ey t d (k-1)).ar),by rw[Xz],by rw[Ya],HG,jS HX HY,I (Sk OX.1 HY),jT QX HY⟩
   clear HX OX QX;obtain⟨P,Q,rfl,rfl,HG,a8,OB,QB⟩:=hcut;have d0:=jS HB a8.1;have c1:=zD t1 S d0.1;have h5:=As S d0.1.size;cases hh:(Cm d k).2
   . rw[hh]at c1;have HH:=I hh;clear hh;have n3:=Hk QB.1;have n4:=Ks QB.1;have nl:=Ag QB.1;have j5:IntKind.i64.wrap (s.blk+f.ar)=s.blk+f.ar:=by rw[wI];omega
     have j6:IntKind.i64.wrap (s.blk+f.ar-f.dp)=s.blk+f.ar-f.dp:=by rw[wI];omega
     have j7:IntKind.i64.wrap (s.legs+1)=s.legs+1:=by rw[wI];omega
     go_wp2;go_quiet (fail);obtain⟨ka,kc,rfl,R⟩:=iR OB.1;have b3:=I R;clear R n3 n4 nl j5 j6 j7 c1 h5;go_wp2_with fail;go_loopw [16,17] (λx y w4=>∃j:Nat,j<=s.kinds.length/\x=.bool (Ao (s.kinds.take j) f.ty)/\y=vIa j/\Af (Bw wc w4)) (λ_ y _=>s.kinds.length-(intOf y).toNat);exact⟨0,Bg _,rfl,rfl,I (dr _ _)⟩;obtain⟨j,hj,rfl,rfl,B⟩:=hrel;by_cases a2:j<s.kinds.length
     . obtain⟨b4,k9,rfl,h6,h7⟩:=b3.1.cells (by omega);have k0:=zD (h7 j a2) h6 B.1;have l0:=As h6 B.1.size;have n5:=zm (j:=5) (Ac B.1 QB.1) rfl;have nl:=Ag (Ac B.1 QB.1);clear h7;cases e1:(Ao (s.kinds.take j) f.ty)
       . cases e2:((Bl s.kinds j).toList==f.ty.toList)
         . go_wp2;go_quiet (fail);go_wp2;go_roundw;exact⟨j+1,by omega,by rw[mW s.kinds j a2 f.ty,e1,show((s.kinds.getD j ByteArray.empty).toList==f.ty.toList)=false from e2];rfl,by go_num,jS B (dr _ _)⟩;simp[intOf];omega
         go_wp2;go_quiet (fail);go_wp2;go_roundw;exact⟨j+1,by omega,by rw[mW s.kinds j a2 f.ty,e1,show((s.kinds.getD j ByteArray.empty).toList==f.ty.toList)=true from e2];rfl,by go_num,jS B (dr _ _)⟩;simp[intOf];omega
       go_wp2;go_quiet (fail);go_wp2;go_roundw;exact⟨j+1,by omega,by rw[mW s.kinds j a2 f.ty,e1];rfl,by go_num,jS B (dr _ _)⟩;simp[intOf];omega
     obtain rfl:j=s.kinds.length:=by omega
     rw[List.take_length];have L:=jS a8 B.1;have O5:=I (Sk OB.1 B.1);have Q5:=jT QB B.1;clear B b3 a2 hj OB QB a8 d0;cases a9:(Ao s.kinds f.ty)
     . have HK:=I a9;clear a9;have n5:=zm (j:=5) Q5.1 rfl;have nl:=Ag Q5.1;have g:=I (show By t d (k+1)=⟨(s.legs+1),s.heads,(s.blk+f.ar-f.dp),P,Q,(s.kinds++ [f.ty])⟩ by rw[mS,<-b8.1,HG.1,Jv];rw[iN (by rw[HH.1];decide),<-Hf.1];exact QG _ _ HK.1);go_wp2_with (at_builtin;refine wpList_append_own _ rfl _ _ 36 rfl W.heap.size 9 i0 (.string ByteArray.empty) 1 16 underlying36 hi i7 i8 i9 rfl (by decide) _ _ _ rfl (O5.1.alloc _) (aD wr.heap.size 0) 1 1 [.string f.ty] rfl rfl ?c1 ?c2 ?c3 ?c4 ?c5 ?_)
       case c1=>exact Hh wr [.string f.ty] 9
       case c2=>intro u hu;simp at hu;subst hu;rfl
       case c3=>unfold maxLen;omega
       case c4=>omega
       case c5=>have:=L.1.size;simp;omega
       intro v' WX a3 a4 _;have j8:=I ((L.1.alloc L.1.size _).grown a4 (by have:=L.1.size;simp;omega) (λj hj=>Lt O5.1 j hj));have OX:=I (show WX.ownsRow W.heap.size 9 1 v' (s.kinds++ [f.ty]).length ((s.kinds++ [f.ty]).map Value.string) by rw[Gh,Ii];exact a3);clear a3 a4 n5 nl O5 Q5 L;go_wp2;go_roundw;exact⟨k+1,_,by omega,by rw[g.1],by rw[g.1],by rw[g.1],by rw[g.1],by rw[g.1],rfl,by go_num,I (by rw[g.1];exact OX.1),j8⟩;simp[intOf];omega
     have HK:=I a9;clear a9;have g:=I (show By t d (k+1)=⟨(s.legs+1),s.heads,(s.blk+f.ar-f.dp),P,Q,s.kinds⟩ by rw[mS,<-b8.1,HG.1,Jv];rw[iN (by rw[HH.1];decide),<-Hf.1];exact QE _ _ HK.1);go_wp2;go_roundw;exact⟨k+1,_,by omega,by rw[g.1],by rw[g.1],by rw[g.1],by rw[g.1],by rw[g.1],rfl,by go_num,I (by rw[g.1];exact O5.1),L⟩;simp[intOf];omega
   rw[hh]at c1;have HH:=I hh;clear hh;have g:=I (show By t d (k+1)=⟨s.legs,(s.heads+1),s.blk,P,Q,s.kinds⟩ by rw[mS,<-b8.1,HG.1,Jv];rw[iP HH.1];rfl);go_wp2;go_roundw;exact⟨k+1,_,by omega,by rw[g.1],by rw[g.1],by rw[g.1],by rw[g.1],by rw[g.1],rfl,by go_num,I (by rw[g.1];exact OB.1),a8⟩;simp[intOf];omega
 obtain rfl:k=d.length:=by omega
 obtain⟨ka,kc,rfl,R⟩:=iR hO.1;have HW:=jS HB F.1;have qt:=Ac F.1 QT.1;have M:=Ac F.1 QC.1;have x0:=zw qt;have x1:=zu qt;have x2:wr.cell? (aD w.heap.size 2)=some (sAa b a t.fs.length fc):=zm (j:=2) qt rfl;have y0:=zw M;have y1:=zu M;have y2:=zC M;have y3:=Hk M;have y4:=Ks M;have y5:=Lg M;have y6:=Mf M;have y7:=Ic M;have y8:=Jg M;have y9:=Mg M;have h8:=Ol M;have h9:=Qk M;have i1:=Qj M;have i2:=Ui M;have xl:=Ag qt;have yl:=Ag M;have C1:=I (λdd os=>Fa (iU t za zc aa ac (some (aD b a)) fc (grow (redrawn wr dd) os) (HF.1.below (Ab HW.1 (bR wr dd os))) Y d (some (aD b2 r)) dc ⟨by omega,by omega⟩ (HD.1.below (Ab HW.1 (bR wr dd os))) (fstN d) HM.1.1 d3));have C2:=I (λdd os=>Fa (eW t za zc aa ac (some (aD b a)) fc (grow (redrawn wr dd) os) (HF.1.below (Ab HW.1 (bR wr dd os))) Y d (some (aD b2 r)) dc ⟨by omega,by omega⟩ (HD.1.below (Ab HW.1 (bR wr dd os))) (lstN d) HM.1.2 d5));have C3:=I (λdd os=>Fa (Vy t c za zc aa ac (some (aD b a)) fc p (grow (redrawn wr dd) os) G.1 HC.1 (HF.1.below (Ab HW.1 (bR wr dd os))) d (some (aD b2 r)) dc HE.1 (HD.1.below (Ab HW.1 (bR wr dd os)))));have C4:=I (λdd os=>Fa (PD t c za zc aa ac (some (aD b a)) fc p (grow (redrawn wr dd) os) G.1 (HZ.1.below (Ab HW.1 (bR wr dd os))) (HA.1.below (Ab HW.1 (bR wr dd os))) (Aa t.fs (fstN d)).fq (Aa t.fs (lstN d)).to (eO G.1 d3).1 (eO G.1 d5).2 (Bm t c d).1 (Bm t c d).2 (yT G.1 HC.1 HE.1)));rw[UY G.1 HC.1 HE.1]at C4;have j9:∀w:Wd,(Instr.field 112 (.agg #[.string (Aa t.fs (fstN d)).num,.string (Aa t.fs (fstN d)).fq,.string (Aa t.fs (fstN d)).to,(Aa t.fs (fstN d)).dp,(Aa t.fs (fstN d)).ar,.string (Aa t.fs (fstN d)).ty,(Aa t.fs (fstN d)).n0,(Aa t.fs (fstN d)).n1,(Aa t.fs (fstN d)).n2]) 1).run prog w=.ok (.string (Aa t.fs (fstN d)).fq) w:=λ_=>by kernel_rfl
 have k1:∀w:Wd,(Instr.field 112 (.agg #[.string (Aa t.fs (lstN d)).num,.string (Aa t.fs (lstN d)).fq,.string (Aa t.fs (lstN d)).to,(Aa t.fs (lstN d)).dp,(Aa t.fs (lstN d)).ar,.string (Aa t.fs (lstN d)).ty,(Aa t.fs (lstN d)).n0,(Aa t.fs (lstN d)).n1,(Aa t.fs (lstN d)).n2]) 2).run prog w=.ok (.string (Aa t.fs (lstN d)).to) w:=λ_=>by kernel_rfl
 clear qt M R hO;go_wp2_with fail;have r0:=cR x0;have r1:=cR x1;have r2:=cR x2;have s0:=cR y0;have s1:=cR y1;have s2:=cR y2;have s3:=cR y3;have s4:=cR y4;have s5:=cR y5;have s6:=cR y6;have s7:=cR y7;have s8:=cR y8;have s9:=cR y9;have k2:=cR h8;have k3:=cR h9;have k4:=cR i1;have k5:=cR i2;refine wRa ?_;repeat (first|go_big_quiet_step (with_reducible first|exact C1.1 _ _|exact C2.1 _ _|exact C3.1 _ _|exact C4.1 _ _)|quiet_step (with_reducible first|exact C1.1 _ _|exact C2.1 _ _|exact C3.1 _ _|exact C4.1 _ _))
 refine wpQuiet_nil ?_;intro _ k6;obtain⟨⟨dq,i3⟩,i4⟩:=k6;subst i4;have i5:=jS HW (bR wr dq i3);clear r0 r1 r2 s0 s1 s2 s3 s4 s5 s6 s7 s8 s9 k2 k3 k4 k5 C1 C2 C3 C4 x0 x1 x2 y0 y1 y2 y3 y4 y5 y6 y7 y8 y9 h8 h9 i1 i2 xl yl F j9 k1 HW;generalize grow (redrawn wr dq) i3=W3 at*;go_wp2_with fail;have d1:=I (Ab i5.1 (J W3 (.cells ((Bo t c d).map (Value.int .i64)).toArray 3)));refine(qO 1 (by decide) (by decide) (Bo t c d) (some (aD W3.heap.size 0)) 11 (W3.alloc (.cells ((Bo t c d).map (Value.int .i64)).toArray 3)) rfl (zW.new W3 (Bo t c d) 3)).mono ?_;rintro e w5 ⟨vr,b5,rfl,a5,b6,i6⟩;have L:=jS d1 i6;have k7:=I b6;have k8:w.heap.size<=b5:=Bf d1.1.size a5;clear i6 b6 a5 d1 i5;go_wp2;go_ret;exact⟨vr,b5,rfl,k8,k7.1,L.1⟩
def Pu(l:List (BA×Int))(s:BA):Int:=Ex Prod.fst s 0 l
theorem AD(s:BA):∀(N:LB) (q:LI),q.length=N.length->(N.zip q).findIdx? (λx=>decide (x.1=s))=wi N s
 |[], [],_=>rfl
 |[],y::q,h=>by simp at h
 |x::N, [],h=>by simp at h
 |x::N,y::q,h=>by
  have a:=AD s N q (by simpa using h);unfold wi at a ⊢
  rw[List.zip_cons_cons,List.findIdx?_cons,List.findIdx?_cons,a]
theorem yW(s:BA)(h:q.length=N.length):Pu (N.zip q) s=match wi N s with|some i=>(i:Int)|none=>-1:=by
 unfold Pu;rw[qG,AD s N q h];cases wi N s with
 |none=>rfl
 |some i=>simp
theorem qL(h:q.length=N.length)(b:i<q.length):Do (N.zip q) i=(Bl N i,Am q i):=by
 have c:i<N.length:=by omega
 have a:(N.zip q)[i]?=some (N[i],q[i]):=List.getElem?_zip_eq_some.2 ⟨Cz c,Cz b⟩;unfold Do Bl Am;rw[Cr,Cr,Cr,a,Cz c,Cz b];rfl
theorem RD(h:k<l.length)(e:(Do l k).1=s):Ex Prod.fst s k (l.drop k)=k:=by rw[kC l k h,Ex,iP e]
theorem VK(h:k<l.length)(e:¬ (Do l k).1=s):Ex Prod.fst s k (l.drop k)=Ex Prod.fst s (k+1) (l.drop (k+1)):=by rw[kC l k h,Ex,iN e]
theorem xH(l:List (BA×Int))(s:BA)(a:Ae)(cap:Nat)(w:Wd)(h:Jk w a l)(o:l.length<=2^47):CE 180 #[.slice a l.length cap,.string s] w (Pu l s):=by
 have j:=I h;delta CE;go_in;go_wp2_with fail;go_loop [5] (λi=>∃k:Nat,k<=l.length/\i=vIa k/\Af (Pu l s=Ex Prod.fst s k (l.drop k))) (λi=>l.length-(intOf i).toNat);exact⟨0,Bg _,rfl,I rfl⟩;obtain⟨k,p,rfl,g⟩:=hrel;by_cases c:k<l.length
 . obtain⟨b,m,rfl,q,d⟩:=j.1.cells (by omega);have r:=(d k c).1;by_cases e:(Do l k).1=s
   . have n:((Do l k).1.toList==s.toList)=true:=by rw[zV];simpa using e
     have f:=I (g.1.trans (RD c e));go_wp2;go_ret;exact⟨ze f.1.symm,rfl⟩
   have n:((Do l k).1.toList==s.toList)=false:=by rw[zV];simpa using e
   have f:=I (g.1.trans (VK c e));go_wp2;go_round;exact⟨k+1,by omega,by go_num,f⟩;simp[intOf];omega
 have f:=I (g.1.trans (show Ex Prod.fst s k (l.drop k)=-1 by rw[List.drop_of_length_le (by omega)];rfl));obtain rfl:k=l.length:=by omega
 go_wp2;go_ret;exact⟨ze f.1.symm,rfl⟩
theorem Jk.of_own(h:w.ownsRow b 109 2 v q.length (Lv N q q.length))(m:q.length=N.length):∃a c,v=.slice a q.length c/\Jk w a (N.zip q):=by
 rcases h.2 with⟨f,j⟩|⟨g,c,n,rfl,f,d,o,p,r,s⟩;exact⟨none,0,by rw[f,j],.inl (by have:q= []:=List.length_eq_zero_iff.1 j;subst this;simp)⟩;refine⟨_,_,rfl,.inr ⟨g,0,rfl,Ag d,λi hi=>?_⟩⟩;have e:i<q.length:=by rw[List.length_zip]at hi;omega
 obtain⟨k,l⟩:=iB N q m q.length (Bv _) i e;rw[<-s,List.getElem?_take,iP (by omega)]at k l;exact⟨zm d (by rw[Nat.zero_add];simpa using k),zm d (by rw[Nat.zero_add];simpa using l)⟩
theorem VJ{b:BA->Option (Int×Int)}{f:BA->Int}(E:eZ b f a q){o n:Int}{l:List zH}(p:Db (.mk o n s l)=true)(z:o≠6)(g:(Bt b a (.mk o n s l)).2=0):
 (∀k,k<l.length->(Bt b a (Au l k)).2=0)/\(∀k,k<l.length->jU (Am (Dz q (Ce f a l)) k))/\(o=14->Gq (Am (Dz q (Ce f a l)) 0))/\(19<=o->∀k,k<l.length->Gq (Am (Dz q (Ce f a l)) k)):=by
 obtain⟨w,r⟩:=Zb p;simp only[Nr,Em]at w;obtain⟨⟨⟨A,i⟩,t⟩,B⟩:=w;obtain⟨C,x⟩:=Om.1 A;rw[qM _ _ _ _ _ _ z]at g;by_cases m:(Cn b a l).1≠0;rw[iP m]at g;exact aB g m;rw[iN m]at g;have u:(Cn b a l).1=0:=Classical.not_not.1 m;by_cases j:Ch o (Cn b a l).2≠0;obtain⟨D,v⟩:=jW u;have y:=qS E l r (λk hk=>(v k hk).1);have c:(Ce f a l).length=l.length:=aO f a l;have d:∀k,k<l.length->Am (Cn b a l).2 k=4->Gq (Am (Dz q (Ce f a l)) k):=λk hk h4=>by
  rw[Na q _ k (by rw[c];exact hk)];exact(y.2 k hk) (by rw[<-(v k hk).2];exact h4)
 refine⟨λk hk=>(v k hk).1,λk hk=>pF _ y.1 k (by rw[Vp,c];exact hk),λh14=>?_,λh19 k hk=>?_⟩;subst h14;have F:l.length=3:=by simp[zL]at i;omega
 have e:Ch 14 (Cn b a l).2=if((Am (Cn b a l).2 0==4)&&(Am (Cn b a l).2 1==Am (Cn b a l).2 2))=true then Am (Cn b a l).2 1 else 0:=rfl;rw[e]at j;by_cases h:((Am (Cn b a l).2 0==4)&&(Am (Cn b a l).2 1==Am (Cn b a l).2 2))=true;exact d 0 (by omega) (by simpa using(Bool.and_eq_true_iff.1 h).1);rw[iN h]at j;exact aB rfl j;refine d k hk ?_;have h:Gd o (Cn b a l).2=true:=by
  refine Classical.byContradiction λh=>j ?_;obtain rfl|rfl|rfl|rfl:o=19\/o=20\/o=21\/o=22:=by omega
  all_goals (simp only[Ch];simp[h])
 have G:Ck (Cn b a l).2 4=true:=by
  obtain rfl|rfl|rfl|rfl:o=19\/o=20\/o=21\/o=22:=by omega
  all_goals simpa[Gd] using h
 exact qA G k (by rw[D];exact hk);rw[iN j]at g;exact aB g (by decide)
theorem UO(q:LI)(e:BA->Int)(f o n:Int)(s:BA)(l:List zH)(i:1<=o)(g:o≠6):Fw o n (Dz q (Ce e f l))=Aw q (Bj e f (.mk o n s l)):=by
 rw[Bj];unfold Fw;by_cases h:o<=3;have a:o=1\/o=2\/o=3:=by omega
 rw[iP h,iP a,Aw,iP rfl];have a:¬ (o=1\/o=2\/o=3):=by omega
 rw[iN h,iN a];by_cases b:o=4;subst b;rw[iP rfl,iP rfl,Aw,iP rfl];rw[iN b,iN b];by_cases c:o=5;subst c;rw[iP rfl,iP rfl,Aw,iP rfl];have d:¬ o=1:=by omega
 rw[iN c,iN c,iN g,Aw,iN d,iN g]
structure Ob(k:Nat)(q:LI):Prop where
 len:q.length=(zk k).length
 val:∀i,i<q.length->jU (Am q i)/\(Cl k (Bl (zk k) i)=3->0<=Am q i/\Am q i<1440)/\(Cl k (Bl (zk k) i)=4->Gq (Am q i))
theorem Ob.env(h:Ob k q)(b:k<4)(l:List zB)(n:Nat):eZ (Cv l n) (Ec l n) k q where
 attr:=λs i hp=>by
  have c:=kS hp;have d:=rD hp;have a:=h.val i (by rw[h.len];exact c);rw[d]at a;exact⟨by rw[h.len];exact c,a.1,a.2.2⟩
 none:=λs hp=>mQ b hp
 named:=λs i hp=>PT b hp
 const:=λs r hr h0=>(pH l n (λj _ hjl h0=>AX l j hjl h0)).const s r hr h0
theorem Ob.atr(h:Ob k q)(c:Qd k s=some i):Ju (Cl k s) (Am q i)=Am q i:=by
 have f:=kS c;have g:=rD c;have d:=h.val i (by rw[h.len];exact f);rw[g]at d;obtain⟨j,l,m⟩:=d;unfold Ju;by_cases a:Cl k s=3;rw[iP a];have:=l a;omega;rw[iN a];by_cases b:Cl k s=4;rw[iP b];rcases m b with e|e <;> rw[e] <;> decide;rw[iN b];exact Za j
structure bZ(k:Nat)(q0 q:LI):Prop where
 l0:q0.length=(zk k).length
 ok:Ob k q
 atr:∀s i,Qd k s=some i->Ju (Cl k s) (Am q0 i)=Am q i
 bd:∀i,i<q0.length->-9000000000000000000<=Am q0 i/\Am q0 i<=9000000000000000000
theorem Ob.self(h:Ob k q):bZ k q q where
 l0:=h.len
 ok:=h
 atr:=λs i hp=>h.atr hp
 bd:=λi hi=>by have:=(h.val i hi).1;unfold jU at this;omega
theorem Ob.nil:Ob 0 []:=⟨rfl,λi hi=>by simp at hi⟩
theorem MQ(nm:List UInt8)(o:Int)(l:List (Int×Int))(x y a b:Int):0<=(Jp nm o l x y a b).1/\(Jp nm o l x y a b).1<=52596000:=by
 unfold Jp;by_cases h:Ee nm o l x y a b≠0;rw[iP h];omega;rw[iN h];obtain⟨_,c,_⟩:=aY (Classical.not_not.1 h);have:=pB (Gx o l a b) x (y-x).toNat;simp only;omega
theorem yM(nm:List UInt8)(o:Int)(l:List (Int×Int))(t:Int):-840<=(Ej nm o l t).1/\(Ej nm o l t).1<=840:=by
 by_cases h:(Ej nm o l t).2=0;have:=eL h;omega;unfold Ej at*;by_cases a:zG nm o l≠0;rw[iP a];simp;rw[iN a]at h ⊢;by_cases b:Ew t=false;rw[iP b];simp;rw[iN b]at h;exact aB rfl h
theorem gQ(nm:List UInt8)(o:Int)(l:List (Int×Int))(t:Int):0<=(Kt nm o l t).2.1/\(Kt nm o l t).2.1<1440:=by
 unfold Kt;split;simp;simp only;omega
theorem Rd(t:At)(c:Ad)(d:Ai):(Bo t c d).length=11:=rfl
theorem fB{t:At}{c:Ad}{d:Ai}(a:zY t=0)(b:Ax c=0)(hd:Cc t c d=0):∀i,i<11->0<=Am (Bo t c d) i/\Am (Bo t c d) i<=100000000:=by
 have e:=Qv.to a b hd d.length (Bv _);have w:d.length<=6:=(Ka hd).2.1;have f:=yT a b hd;have g:(Bm t c d).1=(Aa t.fs (fstN d)).dp-c.rp:=rfl;have h:(Bm t c d).2=(Aa t.fs (lstN d)).ar+c.rl:=rfl;rw[g,h]at f;obtain⟨j,k,l,m,n,o,p,q,r,s,u⟩:=e;intro i v;match i,v with
 |0,_=>show 0<=(By t d d.length).legs/\(By t d d.length).legs<=_;omega
 |1,_=>show 0<=(By t d d.length).heads/\(By t d d.length).heads<=_;omega
 |2,_=>show 0<=((By t d d.length).kinds.length:Int)/\((By t d d.length).kinds.length:Int)<=_;omega
 |3,_=>show 0<=(By t d d.length).blk/\(By t d d.length).blk<=_;omega
 |4,_=>show 0<=Zq t c (fstN d) (lstN d)/\Zq t c (fstN d) (lstN d)<=_;unfold Zq;omega
 |5,_=>show 0<=Un t c (fstN d) (lstN d)/\Un t c (fstN d) (lstN d)<=_;unfold Un;have:=MQ (zp t (Aa t.fs (fstN d)).fq).name.data.toList (zp t (Aa t.fs (fstN d)).fq).off (zp t (Aa t.fs (fstN d)).fq).sh ((Aa t.fs (fstN d)).dp-c.rp) ((Aa t.fs (lstN d)).ar+c.rl) c.nf c.nt;omega
 |6,_=>show 0<=(By t d d.length).lng/\(By t d d.length).lng<=_;omega
 |7,_=>show 0<=(By t d d.length).sht/\(By t d d.length).sht<=_;omega
 |8,_=>
  show 0<=Nt t c (fstN d) (lstN d)/\Nt t c (fstN d) (lstN d)<=_
  have x:=yM (zp t (Aa t.fs (fstN d)).fq).name.data.toList (zp t (Aa t.fs (fstN d)).fq).off (zp t (Aa t.fs (fstN d)).fq).sh ((Aa t.fs (fstN d)).dp-c.rp);have y:=yM (zp t (Aa t.fs (lstN d)).to).name.data.toList (zp t (Aa t.fs (lstN d)).to).off (zp t (Aa t.fs (lstN d)).to).sh ((Aa t.fs (lstN d)).ar+c.rl);unfold Nt Vw Vv mx
  split <;> omega
 |9,_=>
  have:=gQ (zp t (Aa t.fs (fstN d)).fq).name.data.toList (zp t (Aa t.fs (fstN d)).fq).off (zp t (Aa t.fs (fstN d)).fq).sh ((Aa t.fs (fstN d)).dp-c.rp);show 0<=Ov t c (fstN d)/\Ov t c (fstN d)<=_;unfold Ov;omega
 |10,_=>
  have:=gQ (zp t (Aa t.fs (lstN d)).to).name.data.toList (zp t (Aa t.fs (lstN d)).to).off (zp t (Aa t.fs (lstN d)).to).sh ((Aa t.fs (lstN d)).ar+c.rl);show 0<=Mx t c (lstN d)/\Mx t c (lstN d)<=_;unfold Mx;omega
theorem NQ:((List.range 11).all λi=>Cl 1 (Bl (zk 1) i) !=4&&(Cl 1 (Bl (zk 1) i) !=3 || decide (9<=i)))=true:=by decide+kernel
theorem PE(t:At)(c:Ad)(d:Ai)(b:9<=i)(a:i<11):0<=Am (Bo t c d) i/\Am (Bo t c d) i<1440:=by
 obtain rfl|rfl:i=9\/i=10:=by omega
 have:=gQ (zp t (Aa t.fs (fstN d)).fq).name.data.toList (zp t (Aa t.fs (fstN d)).fq).off (zp t (Aa t.fs (fstN d)).fq).sh ((Aa t.fs (fstN d)).dp-c.rp);exact this;have:=gQ (zp t (Aa t.fs (lstN d)).to).name.data.toList (zp t (Aa t.fs (lstN d)).to).off (zp t (Aa t.fs (lstN d)).to).sh ((Aa t.fs (lstN d)).ar+c.rl);exact this
theorem eI{t:At}{c:Ad}{d:Ai}(e:zY t=0)(f:Ax c=0)(hd:Cc t c d=0):Ob 1 (Bo t c d) where
 len:=rfl
 val:=λi hi=>by
  have a:i<11:=hi;have g:=fB e f hd i a;have b:=List.all_eq_true.1 NQ i (List.mem_range.2 a);simp only[Em,bne_iff_ne,Bool.or_eq_true,decide_eq_true_eq]at b;refine⟨by unfold jU;omega,λh3=>?_,λh4=>aB h4 b.1⟩;rcases b.2 with h|h
  . exact aB h3 h
  exact PE t c d h a
def Pn(t:At)(c:Ad)(d:Ai):List (BA×Int):=if Bk t c d=0 then(zk 1).zip (Bo t c d) else []
def Zu(w:Wd)(L:List (BA×Int))(er:Int)(e:Ending)(w':Wd):Prop:=∃a cap,e=.returned (.tuple #[.slice a L.length cap,er])/\Jk w' a L/\Below w.heap.size w w'
theorem Uj{t:At}{c:Ad}{d:Ai}(h:Bk t c d=0):Pn t c d=(zk 1).zip (Bo t c d):=iP h
theorem nT{t:At}{c:Ad}{d:Ai}(h:Bk t c d≠0):Pn t c d= []:=iN h
theorem Rf(h:q.length=N.length):(N.zip q).length=q.length:=by rw[List.length_zip];omega
theorem gU.list{t:At}{c:Ad}{d:Ai}{e:Ending}(h:gU w (zk 1) (Bo t c d) (Bk t c d) e w'):Zu w (Pn t c d) (Bk t c d) e w':=by
 obtain⟨h,f⟩:=h;rcases h with⟨a,rfl⟩|⟨b,a,rfl,g,i⟩;exact⟨none,0,by rw[nT a];rfl,.inl (nT a),f⟩;exact⟨_,_,by rw[Uj a,Rf g,a],by rw[Uj a];exact i.at g,f⟩
theorem Wa{c:Value}{b:Int}(d:v=c)(h:a=b):Ending.returned (.tuple #[v,a])=.returned (.tuple #[c,b]):=by rw[h,d]
theorem fZ(t:At)(c:Ad)(i:Ae)(g:Nat)(j:Ae)(ac:Nat)(fa:Ae)(fc:Nat)(p:Bd)(w:Wd)(o:(t.zn.length<=g/\g<=2^47/\t.ai.length<=ac/\ac<=2^47))(C:c.cs.length<=p.cc/\p.cc<=9223372036854775807)(q:Ea w t c i j fa p)(d:Ai)(x:Ae)(D:Nat)(E:d.length<=2^47)(hd:Al Ei w x d):
 Calls prog 14 #[Az t i g j ac fa fc,Ay c p,.slice x d.length D] w (Zu w (Pn t c d) (Bk t c d)):=by
 try delta Ay Az
 have y:=I q;have L:=I hd;clear q hd;go_in;go_wp2_with fail;have A:=I (Ab (J w (Ap t i g j ac fa fc)) (J _ (Aj c p)));have M:=I (zd (o':=(Aj c p)) (zh w (Ap t i g j ac fa fc)));have B:=I (zh (w.alloc (Ap t i g j ac fa fc)) (Aj c p));rw[zr]at B;obtain⟨N,m⟩:=xSa (w.heap.size+1);rw[<-m]at B;simp only[<-m];clear m;generalize (w.alloc (Ap t i g j ac fa fc)).alloc (Aj c p)=W at*;refine ca (FI t c i g j ac fa fc p W o C (y.1.below A.1) d x D E (L.1.below A.1)) λU h=>?_;have b:=jS A h;have F:=jT M h;have G:=jT B h;clear h A M B;by_cases k:Bk t c d=0
 . have r:=I (Uj k);have V:=I k;obtain⟨P,Q,R⟩:=aR k;have S:=I (iV t c i g j ac fa fc p U P Q (y.1.below b.1).z (y.1.below b.1).a (y.1.below b.1).f d x D R (L.1.below b.1));clear P Q R;obtain⟨x0,x1,x2,xl⟩:=Ev F.1;obtain⟨y0,y1,y2,y3,y4,y5,y6,y7,y8,y9,X,Y,Z,a0,yl⟩:=Ek G.1;rw[k];clear k;go_wp2_with fail;refine S.1.mono ?_;rintro e w2 ⟨v,T,rfl,n,l,s⟩;have H:=jS b s;obtain⟨a2,c2,rfl,u⟩:=Jk.of_own l rfl;have K:=I u;clear s S l n u;go_wp2;go_ret2;exact⟨a2,c2,Wa (by rw[r.1,Rf rfl] <;> rfl) V.1.symm,by rw[r.1];exact K.1,H.1⟩
 have r:=I (nT k);have e1:=bNa k
 clear k;go_wp2;go_ret2;exact⟨none,0,Wa (by rw[r.1];rfl) rfl,.inl r.1,b.1⟩
def In(c:Ad)(k:Nat)(q:LI):Nat->LB
 |0=> []
 |j+1=>if(Ah c.rs j).sc=(k:Int)/\Aw q (Eb c k (Ah c.rs j).ex)=0 then In c k q j++ [(Ah c.rs j).name] else In c k q j
theorem yJ{c:Ad}(a:(Ah c.rs j).sc=(k:Int))(b:Aw q (Eb c k (Ah c.rs j).ex)=0):In c k q (j+1)=In c k q j++ [(Ah c.rs j).name]:=iP ⟨a,b⟩
theorem xP{c:Ad}(a:Aw q (Eb c k (Ah c.rs j).ex)≠0):In c k q (j+1)=In c k q j:=iN λh=>a h.2
theorem AO{c:Ad}(a:(Ah c.rs j).sc≠(k:Int)):In c k q (j+1)=In c k q j:=iN λh=>a h.1
theorem yI(c:Ad)(k:Nat)(q:LI):∀j,(In c k q j).length<=j
 |0=>Bv _
 |j+1=>by
  have:=yI c k q j;rw[In];split
  . rw[Gh];simp;omega
  omega
theorem vR(q:LI)(l a:List (BA×zE)):∀n,(∀i,i<n->Eh l i=Eh a i)->Ik q l n=Ik q a n
 |0,_=>rfl
 |n+1,h=>by rw[Ik,Ik,vR q l a n (λi hi=>h i (by omega)),h n (by omega)]
theorem PS(q:LI)(l:List (BA×zE))(x:BA×zE):Ik q (l++ [x]) (l++ [x]).length=if Aw q x.2=0 then Ik q l l.length++ [x.1] else Ik q l l.length:=by
 rw[Gh,List.length_singleton,Ik,uA,vR q (l++ [x]) l l.length (λi hi=>tZ hi)]
theorem vV(c:Ad)(k:Nat)(q:LI):∀j,j<=c.rs.length->In c k q j=Ik q (Fm c (c.rs.take j) k) (Fm c (c.rs.take j) k).length
 |0,_=>rfl
 |j+1,h=>by
  have d:=vV c k q j (by omega);rw[AQ c.rs j (by omega),uV];by_cases a:(Ah c.rs j).sc=(k:Int)
  . rw[iP a,PS];by_cases b:Aw q (Eb c k (Ah c.rs j).ex)=0
    . rw[iP b,yJ a b,d]
    rw[iN b,xP b,d]
  rw[iN a,AO a,d]
theorem SV(c:Ad)(k:Nat)(q:LI):In c k q c.rs.length=Ik q (Sg c k) (Sg c k).length:=by
 rw[vV c k q _ (Bv _),List.take_length];rfl
def Gs(c:Ad)(k:Nat)(q:LI):Nat->Int
 |0=>0
 |j+1=>if(Aq c.ks j).sc=(k:Int) then Gs c k q j+Aw q (Eb c k (Aq c.ks j).ex) else Gs c k q j
theorem pP{c:Ad}(a:(Aq c.ks j).sc=(k:Int)):Gs c k q (j+1)=Gs c k q j+Aw q (Eb c k (Aq c.ks j).ex):=iP a
theorem pS{c:Ad}(a:(Aq c.ks j).sc≠(k:Int)):Gs c k q (j+1)=Gs c k q j:=iN a
theorem vF(q:LI)(l a:List zE):∀n,(∀i,i<n->Ci l i=Ci a i)->Jx q l n=Jx q a n
 |0,_=>rfl
 |n+1,h=>by rw[Jx,Jx,vF q l a n (λi hi=>h i (by omega)),h n (by omega)]
theorem LJ{l:List zE}(h:i<l.length):Ci (l++ [x]) i=Ci l i:=by
 unfold Ci;rw[Cr,Tp h,<-Cr]
theorem LK{l:List zE}:Ci (l++ [x]) l.length=x:=by simp[Ci]
theorem OQ(q:LI)(l:List zE)(x:zE):Jx q (l++ [x]) (l++ [x]).length=Jx q l l.length+Aw q x:=by
 rw[Gh,List.length_singleton,Jx,LK,vF q (l++ [x]) l l.length (λi hi=>LJ hi)]
theorem wL(c:Ad)(k:Nat)(q:LI):∀j,j<=c.ks.length->Gs c k q j=Jx q (Eu c (c.ks.take j) k) (Eu c (c.ks.take j) k).length
 |0,_=>rfl
 |j+1,h=>by
  have b:=wL c k q j (by omega);rw[jX c.ks j (by omega),uO];by_cases a:(Aq c.ks j).sc=(k:Int)
  . rw[iP a,OQ,pP a,b]
  rw[iN a,pS a,b]
theorem SU(c:Ad)(k:Nat)(q:LI):Gs c k q c.ks.length=Jx q (Ra c k) (Ra c k).length:=by
 rw[wL c k q _ (Bv _),List.take_length];rfl
theorem KY{c:Ad}(h:Ax c=0)(f:k<4)(g:Ob k q)(a:i<c.rs.length)(j:(Ah c.rs i).sc=(k:Int)):Db (Ah c.rs i).ex=true/\Bq (Ah c.rs i).ex<=200/\(Bt (Cv c.cs c.cs.length) k (Ah c.rs i).ex).2=0:=by
 obtain⟨m,l,_,_,b,d,e⟩:=AV h a;obtain rfl:m=k:=by omega
 exact⟨b,d,e⟩
theorem vU{c:Ad}(h:Ax c=0)(d:k<4)(e:Ob k q)(f:i<c.ks.length)(j:(Aq c.ks i).sc=(k:Int)):Db (Aq c.ks i).ex=true/\Bq (Aq c.ks i).ex<=200/\(Bt (Cv c.cs c.cs.length) k (Aq c.ks i).ex).2=0/\jU (Aw q (Eb c k (Aq c.ks i).ex)):=by
 obtain⟨m,l,_,_,a,g,b⟩:=AZ h f;obtain rfl:m=k:=by omega
 exact⟨a,g,b,Ph _ (eV (e.env d c.cs c.cs.length) _ a b).1⟩
theorem AN{c:Ad}(h:Ax c=0)(g:k<4)(i:Ob k q):∀j,j<=c.ks.length->-(1099511627776*(j:Int))<=Gs c k q j/\Gs c k q j<=1099511627776*(j:Int)
 |0,_=>by simp[Gs]
 |j+1,hj=>by
  obtain⟨a,b⟩:=AN h g i j (by omega);by_cases d:(Aq c.ks j).sc=(k:Int)
  . obtain⟨_,_,_,e,f⟩:=vU h g i (by omega) d;rw[pP d];omega
  rw[pS d];omega
theorem zmd{c:Ad}(d:i<(Sg c k).length):∃j,j<c.rs.length/\(Ah c.rs j).sc=(k:Int)/\(Eh (Sg c k) i).2=Eb c k (Ah c.rs j).ex:=by
 have f:Eh (Sg c k) i∈Sg c k:=by
  unfold Eh;rw[Cr,Cz d];exact gM d
 unfold Sg Fm at f;obtain⟨r,l,e⟩:=List.mem_map.1 f;obtain⟨a,b⟩:=List.mem_filter.1 l;obtain⟨j,g,rfl⟩:=List.getElem_of_mem a;have h:Ah c.rs j=c.rs[j]:=by unfold Ah;rw[Cr,Cz g];rfl
 exact⟨j,g,by rw[h];exact of_decide_eq_true b,by rw[h];show(Eh (Fm c c.rs k) i).2=_;unfold Fm;rw[<-e]⟩
theorem zme{c:Ad}(h:i<(Ra c k).length):∃j,j<c.ks.length/\(Aq c.ks j).sc=(k:Int)/\Ci (Ra c k) i=Eb c k (Aq c.ks j).ex:=by
 have d:Ci (Ra c k) i∈Ra c k:=QN h;unfold Ra Eu at d;obtain⟨r,l,e⟩:=List.mem_map.1 d;obtain⟨a,b⟩:=List.mem_filter.1 l;obtain⟨j,f,rfl⟩:=List.getElem_of_mem a;have g:Aq c.ks j=c.ks[j]:=by unfold Aq;rw[Cr,Cz f];rfl
 exact⟨j,f,by rw[g];exact of_decide_eq_true b,by rw[g];show Ci (Eu c c.ks k) i=_;unfold Eu;rw[<-e]⟩
theorem j_{c:Ad}(h:Ax c=0)(a:k<4)(b:Ob k q):∀i,i<(Sg c k).length->Lb q (Eh (Sg c k) i).2:=λi hi=>by
 obtain⟨j,d,f,e⟩:=zmd hi;obtain⟨g,m,l⟩:=KY h a b d f;rw[e];exact(eV (b.env a c.cs c.cs.length) _ g l).1
theorem c_{c:Ad}(h:Ax c=0)(a:k<4)(b:Ob k q):∀i,i<(Ra c k).length->Lb q (Ci (Ra c k) i):=λi hi=>by
 obtain⟨j,d,f,e⟩:=zme hi;obtain⟨g,m,l,_⟩:=vU h a b d f;rw[e];exact(eV (b.env a c.cs c.cs.length) _ g l).1
theorem a_(c:Ad)(k:Nat):(Sg c k).length<=c.rs.length:=by
 unfold Sg Fm;rw[List.length_map];exact List.length_filter_le _ _
theorem b_(c:Ad)(k:Nat):(Ra c k).length<=c.ks.length:=by
 unfold Ra Eu;rw[List.length_map];exact List.length_filter_le _ _
theorem NO(q:LI)(b:BA->Int)(c:Int)(l:List zH)(j:Nat)(d:j<l.length):Dz q (Ce b c (l.take (j+1)))=Dz q (Ce b c (l.take j))++ [Aw q (Bj b c (Au l j))]:=by
 rw[nG b c l j d];generalize Ce b c (l.take j)=a;induction a with
 |nil=>rfl
 |cons x a ih=>rw[List.cons_append,Dz,Dz,ih,List.cons_append]
theorem UB{l:List zB}{n:Nat}{r:Int×Int}(h:Cv l n s=some r):∃i:Nat,fi l s=some i/\i<n/\Qx (l.take n) s=i/\Am (Es l n) i=Ec l n s:=by
 unfold Cv at h;cases b:fi l s with
 |none=>rw[b]at h;cases h
 |some i=>
  rw[b]at h;by_cases a:i<n
  . refine⟨i,rfl,a,?_,?_⟩
    . unfold Qx
      rw[eQ,b];simp[a]
    unfold Ec
    rw[b];simp only[iP a];exact(yF l n i).trans (iP a)
  simp only[iN a]at h;cases h
def rE(B:Nat)(l:List zB)(n:Nat)(la:Ae)(lc:Nat)(k:Nat)(va:Ae)(vc:Nat)(q0 q:LI)(ta:Ae)(tc:Nat)(x:zH):Prop:=∀(xa:Ae) (xc:Nat) (w:Wd),B<=w.heap.size->Ia x->Db x=true->Bq x<=200->Et B w xa x.args->(Bt (Cv l n) k x).2=0->zW w va (Es l n)->Me B w la (l.take n)->Jk w ta ((zk k).zip q0)->
 Calls prog 181 #[.slice va n vc,.slice la n lc,k,.slice ta q0.length tc,.agg #[x.op,x.num,.string x.name,.slice xa x.args.length xc]] w λe w'=>e=.returned (Aw q (Bj (Ec l n) k x))/\Below w.heap.size w w'
theorem LS(B:Nat)(l:List zB)(n:Nat)(hn:n<=l.length)(la:Ae)(lc:Nat)(k:Nat)(b0:k<4)(va:Ae)(vc:Nat)(L q:LI)(hQ:bZ k L q)(ta:Ae)(tc:Nat)(o p:Int)(s:BA)(c:List zH)(IH:∀j,j<c.length->rE B l n la lc k va vc L q ta tc (Au c j)):rE B l n la lc k va vc L q ta tc (.mk o p s c):=by
 intro Z xc w f z P A ha Q hV R a5;obtain⟨hs,d8,_,_⟩:=z;simp only[zH.op,zH.num,zH.name,zH.args]at d8 ha hs ⊢;have b1:(l.take n).length=n:=by rw[List.length_take];omega
 have g2:n<=2^47:=by have:=R.1;omega
 have f8:1+Dc c<=200:=by rw[Bq]at A;exact A
 have d9:c.length<=200:=by have:=iM c;omega
 obtain⟨hh,a6⟩:=Zb P;simp only[Nr,Em]at hh;obtain⟨⟨⟨g1,h3⟩,_⟩,_⟩:=hh;obtain⟨h1,h2⟩:=Om.1 g1;have E:=hQ.ok.env b0 l n;have HW:=I a6;have HI:=I IH;have HA:=I ha;have HV:=I hV;have b2:=I R;have b3:=I a5;have f9:L.length<=25:=by rw[hQ.l0];exact dZ k
 obtain⟨i0,hi,b4,b5,b6⟩:=info_parts bV;by_cases o6:o=6
 . subst o6;have f0:=I Q;have HQ:=I hQ;have HE:=I E;clear IH ha hV R h3 a6 g1 P A a5 Q hQ E hi b4 b5 b6;go_enter func181,ntmps181;go_wp2_with fail;have HB:=I (J w (Dq 6 p s Z c.length xc));have QX:=I (zh w (Dq 6 p s Z c.length xc));generalize w.alloc (Dq 6 p s Z c.length xc)=W at*;refine ca (mZ k b0 s W hs) λw1 D=>?_;have d:=jS HB D;have b7:=jT QX D;have z2:=zC b7.1;have zl:=Ag b7.1;clear D HB QX;cases S:Qd k s with
   |some i=>
    have F:Cl k s≠0:=HE.1.named s i S;have e2:(Pw (Cl k s)==0)=true:=by rw[Pw,iN F];rfl
    have b8:i<L.length:=by have:=kS S;rw[HQ.1.l0];exact this
    have hr:=I (show Aw q (Bj (Ec l n) k (.mk 6 p s c))=Ju (Cl k s) (Am L i) by
     rw[HQ.1.atr s i S,Bj,iN (by decide),iN (by decide),iN (by decide),iP rfl,S];simp only[];rw[Aw,iN (by decide),iP rfl];simp)
    have f1:=I ((yW s HQ.1.l0).trans (by rw[show wi (zk k) s=some i from S]):Pu ((zk k).zip L) s=(i:Int));have b9:((zk k).zip L).length=L.length:=by rw[List.length_zip,HQ.1.l0];exact Nat.min_self _
    have A1:=b3.1.below d.1;obtain⟨b,a7,rfl,hb,g⟩:=A1.cells (by omega);have d1:=(g i (by omega)).2;rw[qL HQ.1.l0 b8]at d1;have c6:=HQ.1.bd i b8;have HF:=I (xH ((zk k).zip L) s (some (aD b a7)) tc w1 A1 (by omega));rw[b9,f1.1]at HF;clear g A1 F S b9;go_wp2_with fail;refine HF.1.mono ?_;rintro e w2 ⟨rfl,rfl⟩;clear HF;go_wp2_with fail;refine cb (PU (Cl k s) (Am L i) w1 c6.1 c6.2) ?_;go_wp2;go_ret;exact zEa hr d
   |none=>
    have F:Cl k s=0:=HE.1.none s S;have e2:(Pw (Cl k s)==0)=false:=by rw[F];rfl
    have hl:∃r,Cv l n s=some r:=by
     have h:=f0.1;rw[zO,iN (by simpa using F)]at h;cases hk:Cv l n s with
     |none=>rw[hk]at h;exact aB h (by decide)
     |some r=>exact⟨r,rfl⟩
    obtain⟨r,c7⟩:=hl;obtain⟨i,f2,g3,c8,c9⟩:=UB c7
    have hr:=I (show Aw q (Bj (Ec l n) k (.mk 6 p s c))=Am (Es l n) i by
     rw[c9,Bj,iN (by decide),iN (by decide),iN (by decide),iP rfl,S];simp only[];rw[Aw,iP rfl])
    have V1:=HV.1.below d.1;obtain⟨b,a7,rfl,hb,g⟩:=V1.cells (by rw[Uf];omega);have d1:=g i (by rw[Uf];omega);have a8:=I (uP (l.take n) s la lc B w1 (Bf f d.1.size) (b2.1.keep (d.1.mono f) (Is.keep (d.1.mono f))));rw[b1,c8]at a8;clear g V1 F S c7 f2 c8 c9;go_wp2_with fail;refine a8.1.mono ?_;rintro e w2 ⟨rfl,rfl⟩;clear a8;go_wp2;go_ret;exact zEa hr d
 obtain⟨a1,a2,a3,a4⟩:=VJ E P o6 Q;have HT:=I a1;have HR:=I a2;have f3:=I a3;have f4:=I a4;have H3:=I h3;have Hv:=I (UO q (Ec l n) k o p s c h1 o6);have e6:=bFa o6
 have O6:=I o6;clear IH ha hV R h3 a6 g1 P A a5 Q hQ E a1 a2 a3 a4 o6;go_enter func181,ntmps181;go_wp2_with fail;have HB:=I (J w (Dq o p s Z c.length xc));have QX:=I (zh w (Dq o p s Z c.length xc));have HO:=I (show World.ownsRow (w.alloc (Dq o p s Z c.length xc)) w.heap.size 3 1 sNa 0 (([]:LI).map (Value.int .i64)) from⟨rfl,.inl ⟨rfl,rfl⟩⟩);generalize w.alloc (Dq o p s Z c.length xc)=W at*;go_loopw [13,14] (λt i wr=>∃(j:Nat) (v:Value) (G:LI),j<=c.length/\i=vIa j/\t=v/\G.length=j/\Af (G=Dz q (Ce (Ec l n) k (c.take j)))/\Af (wr.ownsRow w.heap.size 3 1 v G.length (G.map (Value.int .i64)))/\Af (wr.heap[w.heap.size]?=some (Dq o p s Z c.length xc))/\Af (Bw w wr)) (λ_ i _=>c.length-(intOf i).toNat);exact⟨0,_, [],Bg _,rfl,rfl,rfl,I (by simp[Ce,Dz]),HO,QX,HB⟩;clear HO QX HB;obtain⟨j,v,G,hj,rfl,rfl,T,C,hO,H,a⟩:=hrel;have x0:=zw H.1;have x1:=zu H.1;have x3:=Hk H.1;have f5:=Ag H.1;by_cases K:j<c.length
 . obtain⟨b,a7,d0,hb,g⟩:=HA.1.cells (by omega);obtain⟨a2,d2,f6,⟨c0,c1,c2,c3⟩,z,M⟩:=(g.keep (a.1.mono f)).at j K;have f7:b<wr.heap.size:=As f6 (Bf f a.1.size);rw[d0]at x3;have C1:=I (HI.1 j K a2 d2 wr (Bf f a.1.size) z (kI HW.1 j K) (by have:=iQ (l:=c) j K;omega) M (HT.1 j K) (HV.1.below a.1) (b2.1.keep (a.1.mono f) (Is.keep (a.1.mono f))) (b3.1.below a.1));clear g M z d0;go_wp2_with fail;refine C1.1.mono ?_;rintro e W2 ⟨rfl,U⟩;have a9:=jS a U;have V:=jT H U;have X:=I (Sh hO.1 a.1 U);clear C1 U c0 c1 c2 c3 x0 x1 x3 f5 f7 hO H a;obtain⟨y,hy⟩:=xSa (Aw q (Bj (Ec l n) k (Au c j)));rw[<-hy];have d3:=I (show G++ [y]=Dz q (Ce (Ec l n) k (c.take (j+1))) by rw[NO q _ _ _ j K,<-C.1,hy]);have g0:G.length<=200:=by omega
   have nx:=Ma X.1 V.1 (by decide);clear hy C;go_wp2_with (at_builtin;refine wpList_append_own _ rfl _ _ 22 rfl w.heap.size 3 i0 (vIa 0) 1 8 underlying22 hi b4 b5 b6 rfl (by decide) _ _ _ rfl (X.1.alloc _) (aD W2.heap.size 0) 1 1 [vIa y] rfl rfl ?c1 ?c2 ?c3 ?c4 ?c5 ?_)
   case c1=>exact Hh W2 [vIa y] 3
   case c2=>intro u hu;simp at hu;subst hu;rfl
   case c3=>unfold maxLen;omega
   case c4=>omega
   case c5=>have:=a9.1.size;simp;omega
   intro v' w3 N x _;have d4:=I (Ld (e':=3) a9.1 rfl X.1 x);have d5:=I ((x.block _ (Ag (zd V.1)) nx).trans (zd V.1));have d6:=I (show w3.ownsRow w.heap.size 3 1 v' (G++ [y]).length ((G++ [y]).map (Value.int .i64)) by
    rw[Gh,Ii,T];exact N)
   have a0:(G++ [y]).length=j+1:=by simp[T]
   clear N x nx X V a9;go_wp2;go_roundw;(try((repeat apply eX);refine⟨?_,rfl⟩));exact⟨j+1,_,_,by omega,by go_num,rfl,a0,d3,d6,d5,d4⟩;simp[intOf];omega
 obtain rfl:j=c.length:=by omega
 have Y:=I (show G=(Dz q (Ce (Ec l n) k c)) by rw[C.1,List.take_length]);obtain⟨a3,d7,rfl,hI⟩:=zW.of_own hO.1;have CA:=I (MR o p G a3 d7 wr ⟨h1,h2⟩ O6.1 (by omega) (by rw[T];exact H3.1) (λm hm=>by rw[Y.1];exact HR.1 m (by omega)) (λh=>by rw[Y.1];exact f3.1 h) (λh m hm=>by rw[Y.1];exact f4.1 h m (by omega)) hI);have hr:=I (show Fw o p G=Aw q (Bj (Ec l n) k (.mk o p s c)) by rw[Y.1];exact Hv.1);clear hI C T hO;go_wp2_with fail;refine CA.1.mono ?_;rintro e w1 ⟨rfl,D⟩;have d:=jS a D;clear D CA;go_wp2;go_ret;exact⟨ze hr.1,d.1⟩
theorem vT(B:Nat)(l:List zB)(n:Nat)(r:n<=l.length)(c:Ae)(d:Nat)(k:Nat)(a:k<4)(e:Ae)(f:Nat)(b q:LI)(t:bZ k b q)(g:Ae)(h:Nat)(x:zH):rE B l n c d k e f b q g h x:=by
 obtain⟨m,u⟩:=xSa (SizeOf.sizeOf x);induction m using Nat.strongRecOn generalizing x with
 |_ m ih=>
  subst u;obtain⟨o,i,s,p⟩:=x;exact LS B l n r c d k a e f b q t g h o i s p λj hj=>ih _ (Rc (x:=.mk o i s p) hj) _ rfl
theorem LT(B:Nat)(l:List zB)(n:Nat)(j:n<=l.length)(a:Ae)(g:Nat)(b:Ae)(h:Nat)(x:zH)(c:Ae)(i:Nat)(w:Wd)(k:B<=w.heap.size)(m:Ia x)(d:Db x=true)(o:Bq x<=200)(p:Et B w c x.args)(f:(Bt (Cv l n) 0 x).2=0)(q:zW w b (Es l n))(r:Me B w a (l.take n)):
 CV 181 #[.slice b n h,.slice a n g,vIa 0,sNa,.agg #[x.op,x.num,.string x.name,.slice c x.args.length i]] w (Aw [] (Bj (Ec l n) 0 x)):=
 vT B l n j a g 0 (by decide) b h [] [] Ob.nil.self none 0 x c i w k m d o p f q r (.inl (by simp))
theorem oX(B:Nat)(l:List zB)(b:Ae)(j:Nat)(n:Int)(k:Nat)(c:n=(k:Int))(s:k<4)(d:Ae)(o:Nat)(a q:LI)(t:bZ k a q)(f:Ae)(p:Nat)(m:Nat)(u:m=a.length)(x:zH)(g:Ae)(r:Nat)(w:Wd)(v:B<=w.heap.size)(y:Ia x)(h:Db x=true)(z:Bq x<=200)(A:Et B w g x.args)(i:(Bt (Cv l l.length) k x).2=0)(C:zW w d (Es l l.length))(D:Me B w b l)(E:Jk w f ((zk k).zip a)):
 CV 181 #[.slice d l.length o,.slice b l.length j,n,.slice f m p,.agg #[x.op,x.num,.string x.name,.slice g x.args.length r]] w (Aw q (Bj (Ec l l.length) k x)):=by
 subst c u;exact vT B l l.length (Bv _) b j k s d o a q t f p x g r w v y h z A i C (by rw[List.take_length];exact D) E
theorem oB{c:Ad}(h:Ax c=0):∀i,i<c.cs.length->(Bx c.cs i).2=0:=by
 unfold Ax at h;by_cases a:Cf c≠0;rw[iP a]at h;exact aB h a;rw[iN a]at h;by_cases b:Av (Fg c.cs) 0 (c.cs.length-0)≠0;rw[iP b]at h;exact aB h b;intro i e;have d:=Ti _ _ (Classical.not_not.1 b) i (Bg _) (by omega);unfold Fg at d;split at d;omega;exact d
theorem mT{c:Ad}(h:Ax c=0):c.cs.length<=32/\c.rs.length<=40/\c.ks.length<=16/\c.xs.length<=1:=by
 have h:=(Vq (Ud h).g).1;simp only[Li,Em,decide_eq_true_eq]at h;omega
def MV(w:Wd)(l:List zB)(e:Ending)(w':Wd):Prop:=∃a cap,e=.returned (.slice a l.length cap)/\zW w' a (Es l l.length)/\Below w.heap.size w w'
theorem nO(l:List zB)(la:Ae)(N:Nat)(B:Nat)(w:Wd)(d:B<=w.heap.size)(a7:l.length<=N/\N<=9223372036854775807)(a8:l.length<=1000)(ha:Me B w la l)(P:∀i,i<l.length->(Bx l i).2=0):Calls prog 182 #[.slice la l.length N] w (MV w l):=by
 have HA:=I ha;have Q:=I P;obtain⟨i0,hi,a0,a1,a3⟩:=info_parts bV;clear ha P;go_in;go_wp2_with fail;go_loopw [3,4] (λt i wr=>∃(j:Nat) (v:Value),j<=l.length/\i=vIa j/\v=t/\Af (wr.ownsRow w.heap.size 3 1 v (Es l j).length ((Es l j).map (Value.int .i64)))/\Af (Bw w wr)) (λ_ i _=>l.length-(intOf i).toNat);exact⟨0,_,Bg _,rfl,rfl,I (World.ownsRow_nil _ _ _ _),I (An _ _)⟩;obtain⟨j,v,a9,rfl,rfl,Y,a⟩:=hrel;by_cases D:j<l.length
 . obtain⟨b,a4,a5,hb,R⟩:=(HA.1.keep (a.1.mono d) (Is.keep (a.1.mono d))).cells (by omega);obtain⟨_,_,a2,s,⟨c1,c2,c3,c4⟩,x,k⟩:=R j D;have g:b<wr.heap.size:=by have:=a.1.size;omega
   have HF:=I x;have E:=I k;obtain⟨g1,g2,g3⟩:=iZ (Q.1 j D);obtain⟨S,A,_⟩:=Ql g1;have r:B<=wr.heap.size:=Bf d a.1.size;have e:(l.take j).length=j:=by rw[List.length_take];omega
   have e0:(Cd (l.take j) j 0 (Ak l j).ex).2=0:=by rw[wE,wF];exact Q.1 j D
   have p:=I (λdd os=>Fa (nI (l.take j) la N B 0 (by decide) (Ak l j).ex a2 s (grow (redrawn wr dd) os) (Bf r (bR wr dd os).size) (by rw[e];omega) (by rw[e];omega) (gC (HA.1.keep ((Ab a.1 (bR wr dd os)).mono d) (Is.keep ((Ab a.1 (bR wr dd os)).mono d))) j) HF.1 (E.1.keep ((bR wr dd os).mono r))));simp only[e,e0]at p;subst a5;obtain⟨kx,T⟩:∃z,z=(Cd (l.take j) j 0 (Ak l j).ex).1:=⟨_,rfl⟩;rw[<-T]at p;have F:=I (aI S (aI A g2));clear R k x T e0 g1 g2 g3 S A e;go_wp2_with fail;have r1:=cR c1;have r2:=cR c2;have r3:=cR c3;have r4:=cR c4;refine wRa ?_;repeat (first|go_big_quiet_step (with_reducible exact p.1 _ _)|quiet_step (with_reducible exact p.1 _ _))
   refine wpQuiet_nil ?_;intro _ G;obtain⟨⟨f,c⟩,m⟩:=G;subst m;have H:=I (Sh Y.1 a.1 (bR wr f c));have h:=jS a (bR wr f c);have C:=I (E.1.keep ((bR wr f c).mono r));have z1:=zj c1 g (bR wr f c);have z2:=zj c2 g (bR wr f c);have z3:=zj c3 g (bR wr f c);have z4:=zj c4 g (bR wr f c);have U:b<(grow (redrawn wr f) c).heap.size:=As g (bR wr f c).size;clear r1 r2 r3 r4 p c1 c2 c3 c4 g r Y a E;generalize grow (redrawn wr f) c=q at*;obtain⟨va,vc,rfl,V⟩:=zW.of_own H.1;have Z:=I V;rw[Uf] at*;have K:B<=q.heap.size:=Bf d h.1.size;have p:=I (λdd os=>Fa (LT B l j (by omega) (some (aD b a4)) N va vc (Ak l j).ex a2 s (grow (redrawn q dd) os) (Bf K (bR q dd os).size) HF.1 F.1.1 F.1.2.1 (C.1.keep ((bR q dd os).mono K)) F.1.2.2 (Z.1.below (bR q dd os)) (gC (HA.1.keep ((Ab h.1 (bR q dd os)).mono d) (Is.keep ((Ab h.1 (bR q dd os)).mono d))) j)));rw[<-qJ]at p;clear V;go_wp2_with fail;have r1:=cR z1;have r2:=cR z2;have r3:=cR z3;have r4:=cR z4;refine wRa ?_;repeat (first|go_big_quiet_step (with_reducible exact p.1 _ _)|quiet_step (with_reducible exact p.1 _ _))
   refine wpQuiet_nil ?_;intro _ G;obtain⟨⟨f,c⟩,m⟩:=G;subst m;have L:=jS h (bR q f c);have M:=I (Sh H.1 h.1 (bR q f c));clear r1 r2 r3 r4 p z1 z2 z3 z4 U K H h Z C;generalize grow (redrawn q f) c=W3 at*;obtain⟨y,hy⟩:=xSa (Dm l j);rw[<-hy];have a6:=I (show Es l (j+1)=Es l j++ [y] by rw[Es,hy];rfl);clear hy;go_wp2_with (at_builtin;refine wpList_append_own _ rfl _ _ 22 rfl w.heap.size 3 i0 (vIa 0) 1 8 underlying22 hi a0 a1 a3 rfl (by decide) _ _ _ rfl (M.1.alloc _) (aD W3.heap.size 0) 1 1 [vIa y] rfl rfl ?c1 ?c2 ?c3 ?c4 ?c5 ?_)
   case c1=>exact Hh W3 [vIa y] 3
   case c2=>intro u hu;simp at hu;subst hu;rfl
   case c3=>unfold maxLen;omega
   case c4=>omega
   case c5=>have:=L.1.size;simp;omega
   intro v' w4 n o _;have W:=I (Ld (e':=3) L.1 rfl M.1 o);have X:=I (show w4.ownsRow w.heap.size 3 1 v' (Es l (j+1)).length ((Es l (j+1)).map (Value.int .i64)) by
    rw[a6.1,Gh,Ii,Uf];exact n)
   clear n o M L;go_wp2;go_roundw;(try((repeat apply eX);refine⟨?_,rfl⟩));exact⟨j+1,_,by omega,by go_num,rfl,X,W⟩;simp[intOf];omega
 obtain rfl:j=l.length:=by omega
 obtain⟨va,vc,rfl,V⟩:=zW.of_own Y.1;have Z:=I V;clear V Y;rw[Uf];go_wp2;go_ret;exact⟨va,vc,rfl,Z.1,a.1⟩
def Sf(V:List (Int×Int×BA))(i:Nat):Int×Int×BA:=V.getD i (0,0,ByteArray.empty)
def Us(w:Wd)(a:Ae)(V:List (Int×Int×BA)):Prop:=V= []\/∃b off,a=some (aD b off)/\b<w.heap.size/\∀i,i<V.length->w.cell? (aD b (off+i*3))=some (.int .i64 (Sf V i).1)/\w.cell? (aD b (off+i*3+1))=some (.int .i64 (Sf V i).2.1)/\w.cell? (aD b (off+i*3+2))=some (.string (Sf V i).2.2)
theorem Us.below{a:Ae}(h:Us w a V)(c:Bw w w'):Us w' a V:=by
 rcases h with h|⟨b,e,h,d,f⟩;exact .inl h;exact .inr ⟨b,e,h,As d c.size,λi hi=>⟨zj (f i hi).1 d c,zj (f i hi).2.1 d c,zj (f i hi).2.2 d c⟩⟩
theorem Us.cells{a:Ae}(h:Us w a V)(c:0<V.length):∃b off,a=some (aD b off)/\b<w.heap.size/\∀i,i<V.length->w.cell? (aD b (off+i*3))=some (vIa (Sf V i).1)/\w.cell? (aD b (off+i*3+1))=some (vIa (Sf V i).2.1)/\w.cell? (aD b (off+i*3+2))=some (.string (Sf V i).2.2):=by
 rcases h with rfl|h;simp at c;exact h
theorem yY:∀(V:List (Int×Int×BA)) (i:Nat),i<V.length->(Je V)[i*3]?=some (vIa (Sf V i).1)/\(Je V)[i*3+1]?=some (vIa (Sf V i).2.1)/\(Je V)[i*3+2]?=some (.string (Sf V i).2.2)
 |[],i,h=>by simp at h
 |x::V,0,_=>⟨rfl,rfl,rfl⟩
 |x::V,i+1,h=>by
  have a:=yY V i (by simpa using h);have e:Je (x::V)=vIa x.1::vIa x.2.1::.string x.2.2::Je V:=rfl;have b:Sf (x::V) (i+1)=Sf V i:=rfl;rw[e,b];have c:(i+1)*3=i*3+1+1+1:=by omega
  rw[c];simp only[List.getElem?_cons_succ];exact a
theorem Us.of_own(h:w.ownsRow b 126 3 v V.length (Je V)):∃a c,v=.slice a V.length c/\Us w a V:=by
 rcases h.2 with⟨e,f⟩|⟨g,c,m,rfl,e,d,n,o,p,q⟩;exact⟨none,0,by rw[e,f],.inl (List.length_eq_zero_iff.1 f)⟩;refine⟨_,_,rfl,.inr ⟨g,0,rfl,Ag d,λi hi=>?_⟩⟩;obtain⟨j,k,l⟩:=yY V i hi;rw[<-q,List.getElem?_take,iP (by omega)]at j k l;exact⟨zm d (by rw[Nat.zero_add];simpa using j),zm d (by rw[Nat.zero_add];simpa using k),zm d (by rw[Nat.zero_add];simpa using l)⟩
def Ef(c:Ad)(k:Nat)(ix:Int)(q:LI)(j:Nat):List (Int×Int×BA):=(In c k q j).map λs=>((k:Int),ix,s)
theorem OF{c:Ad}{ix:Int}(a:(Ah c.rs j).sc=(k:Int))(b:Aw q (Eb c k (Ah c.rs j).ex)=0):Ef c k ix q (j+1)=Ef c k ix q j++ [((k:Int),ix,(Ah c.rs j).name)]:=by
 unfold Ef;rw[yJ a b,Ii];rfl
theorem KZ(c:Ad)(k:Nat)(ix:Int)(q:LI)(j:Nat):(Ef c k ix q j).length<=j:=by
 unfold Ef;rw[List.length_map];exact yI c k q j
def mF(w:Wd)(V:List (Int×Int×BA))(e:Ending)(w':Wd):Prop:=∃v base,e=.returned v/\w.heap.size<=base/\w'.ownsRow base 126 3 v V.length (Je V)/\Below w.heap.size w w'
theorem MX(c:Ad)(p:Bd)(B:Nat)(w:Wd)(s:B<=w.heap.size)(a0:c.cs.length<=p.cc/\p.cc<=9223372036854775807)(hC:Ax c=0)(hc:Kb B w c p)(k:Nat)(hk:k<4)(G:Int)(Q:G=(k:Int))(ix:Int)(q0 q:LI)(hQ:bZ k q0 q)(ta:Ae)(tc:Nat)(m:Nat)(hm:m=q0.length)(hA:Jk w ta ((zk k).zip q0)):
 Calls prog 127 #[Ay c p,G,ix,.slice ta m tc] w (mF w (Ef c k ix q c.rs.length)):=by
 try delta Ay Az
 obtain⟨i0,hi,a1,a3,a4⟩:=info_parts QJ;have HC:=I hc;have HA:=I hA;have HQ:=I hQ;have a5:=I (oB hC);have a6:=I hC;have t:=I Q;have HM:=I hm;obtain⟨b4,b5,b6,b7⟩:=mT hC;clear hc hA hQ hC Q hm;go_in;go_wp2_with fail;have HB:=I (J w (Aj c p));have QC:=I (zh w (Aj c p));obtain⟨cb,H⟩:=xSa w.heap.size;rw[<-H]at QC;simp only[<-H];clear H;generalize w.alloc (Aj c p)=W at*;refine(nO c.cs p.ca p.cc B W (Bf s HB.1.size) a0 (by omega) (HC.1.keep (HB.1.mono s)).cs a5.1).mono ?_;rintro e u ⟨va,vc,rfl,hI,K⟩;have g:=jS HB K;have f:=jT QC K;have HI:=I hI;have z:B<=u.heap.size:=Bf s g.1.size;have R:=I (HC.1.keep (g.1.mono s));have a7:=I (HA.1.below g.1);clear K HB QC hI HC HA;go_wp2_with fail;go_loopw [9,11] (λx y wr=>∃(j:Nat) (v:Value),j<=c.rs.length/\y=.int .i64 j/\v=x/\Af (wr.ownsRow u.heap.size 126 3 v (Ef c k ix q j).length (Je (Ef c k ix q j)))/\Af (Bw u wr)) (λ_ y _=>c.rs.length-(intOf y).toNat);exact⟨0,_,Bg _,rfl,rfl,I (World.ownsRow_nil _ _ _ _),I (An _ _)⟩;obtain⟨j,v,hj,rfl,rfl,hO,a⟩:=hrel;by_cases S:j<c.rs.length
 . obtain⟨b,a8,T,hb,U⟩:=(R.1.keep (a.1.mono z)).rs.cells (by omega);obtain⟨r0,r1,a9,b0,a2,d,⟨e0,e1,e2,e3⟩,E,i⟩:=U j S;have b1:b<wr.heap.size:=by have:=a.1.size;omega
   have y8:wr.cell? (aD cb 8)=some (.slice (some (aD b a8)) c.rs.length p.rc):=by rw[<-T];exact zm (j:=8) (Ac a.1 f.1) rfl
   have yl:=Ag (Ac a.1 f.1);have HF:=I E;have b2:=I i;clear U i E b0 a9 T;have BX:=J wr (oR (Ah c.rs j) a2 d);have A:=I (zh wr (oR (Ah c.rs j) a2 d));have C:=jS a BX;have OX:=I (Sk hO.1 BX);have b3:B<=wr.heap.size:=Bf z a.1.size;have V:=I (b2.1.keep (Below.mono BX b3));go_upto_region 7 with fail;clear y8 yl r0 r1 e0 e1 e2 e3 b1 BX;obtain⟨rb,L⟩:=xSa wr.heap.size;rw[<-L]at A;simp only[<-L];clear L;generalize (wr.alloc (oR (Ah c.rs j) a2 d))=X at*;have n0:=zw A.1;have n1:=zu A.1;have nl:=Ag A.1;by_cases M:(Ah c.rs j).sc=(k:Int)
   . have es:((Ah c.rs j).sc==G)=true:=by rw[t.1];simpa using M
     obtain⟨g1,g2,g3⟩:=KY a6.1 hk HQ.1.ok S M;have n2:=zC A.1;have n3:=Hk A.1;have n4:=Ks A.1;have n5:=Lg A.1;have y7:=Ic (Ac C.1 f.1);have yl:=Ag (Ac C.1 f.1);have Y:B<=X.heap.size:=Bf z C.1.size;have CV:=I (oX B c.cs p.ca p.cc G k t.1 hk va vc q0 q HQ.1 ta tc m HM.1 (Ah c.rs j).ex a2 d X Y HF.1 g1 g2 V.1 g3 (HI.1.below C.1) (R.1.keep (C.1.mono z)).cs (a7.1.below C.1));have HS:=I M;clear g1 g2 g3 M;go_wp2_with fail;refine CV.1.mono ?_;rintro e w4 ⟨rfl,D⟩;have N:=jS C D;have O4:=I (Sk OX.1 D);have Q4:=jT A D;clear CV D n0 n1 n2 n3 n4 n5 nl y7 yl Y;obtain⟨Z,l⟩:=xSa (Aw q (Bj (Ec c.cs c.cs.length) k (Ah c.rs j).ex));rw[<-l];by_cases P:Z=0
     . have n:=I (OF (ix:=ix) HS.1 (show Aw q (Eb c k (Ah c.rs j).ex)=0 from l.symm.trans P));have e0:(Z==0)=true:=by simpa using P
       have n1:=zu Q4.1;have nl:=Ag Q4.1;have b8:=KZ c k ix q j;clear P l;go_wp2_with (at_builtin;refine wpList_append_own _ rfl _ _ 121 rfl u.heap.size 126 i0 (.agg #[.int .i64 0,.int .i64 0,.string ByteArray.empty]) 3 32 underlying121 hi a1 a3 a4 rfl (by decide) _ _ _ rfl (O4.1.alloc _) (aD w4.heap.size 0) 1 1 [.int .i64 G,.int .i64 ix,.string (Ah c.rs j).name] rfl rfl ?c1 ?c2 ?c3 ?c4 ?c5 ?_)
       case c1=>exact Hh w4 [.int .i64 G,.int .i64 ix,.string (Ah c.rs j).name] 126
       case c2=>intro x hx;simp at hx;rcases hx with rfl|rfl|rfl <;> rfl
       case c3=>unfold maxLen;omega
       case c4=>omega
       case c5=>have:=N.1.size;simp;omega
       intro v' w5 o r _;have H5:=I ((N.1.alloc N.1.size _).grown r (by have:=N.1.size;simp;omega) (λm hm'=>Lt O4.1 m hm'));have F:=I (show w5.ownsRow u.heap.size 126 3 v' (Ef c k ix q (j+1)).length (Je (Ef c k ix q (j+1))) by
        rw[n.1,Gh,Je,List.flatMap_append,<-t.1];exact o)
       clear o r;go_wp2;go_roundw;(try((repeat apply eX);refine⟨?_,rfl⟩));exact⟨j+1,_,by omega,by go_num,rfl,F,H5⟩;simp[intOf];omega
     have n:=I (show Ef c k ix q (j+1)=Ef c k ix q j by unfold Ef;rw[xP (show Aw q (Eb c k (Ah c.rs j).ex)≠0 from λh=>P (l.trans h))]);have e0:(Z==0)=false:=by simpa using P
     have F:=I (show w4.ownsRow u.heap.size 126 3 v (Ef c k ix q (j+1)).length (Je (Ef c k ix q (j+1))) by rw[n.1];exact O4.1);clear P l;go_wp2;go_roundw;(try((repeat apply eX);refine⟨?_,rfl⟩));exact⟨j+1,_,by omega,by go_num,rfl,F,N⟩;simp[intOf];omega
   have es:((Ah c.rs j).sc==G)=false:=by rw[t.1];simpa using M
   have n:=I (show Ef c k ix q (j+1)=Ef c k ix q j by unfold Ef;rw[AO M]);have F:=I (show X.ownsRow u.heap.size 126 3 v (Ef c k ix q (j+1)).length (Je (Ef c k ix q (j+1))) by rw[n.1];exact OX.1);clear M;go_wp2;go_roundw;(try((repeat apply eX);refine⟨?_,rfl⟩));exact⟨j+1,_,by omega,by go_num,rfl,F,C⟩;simp[intOf];omega
 obtain rfl:j=c.rs.length:=by omega
 have y8:=Jg (Ac a.1 f.1);have yl:=Ag (Ac a.1 f.1);go_wp2;go_ret;exact⟨v,u.heap.size,rfl,g.1.size,hO.1,Ab g.1 a.1⟩
theorem PP(c:Ad)(p:Bd)(B:Nat)(w:Wd)(g:B<=w.heap.size)(U:c.cs.length<=p.cc/\p.cc<=9223372036854775807)(P:Ax c=0)(hc:Kb B w c p)(k:Nat)(V:k<4)(z:Int)(A:z=(k:Int))(Q q:LI)(hQ:bZ k Q q)(X:Ae)(tc:Nat)(m:Nat)(hm:m=Q.length)(hA:Jk w X ((zk k).zip Q)):
 CV 128 #[Ay c p,z,.slice X m tc] w (Gs c k q c.ks.length):=by
 try delta Ay Az
 have Y:=I hc;have HA:=I hA;have Z:=I hQ;have a0:=I (oB P);have C:=I P;have n:=I A;have HM:=I hm;obtain⟨a7,a8,a9,b0⟩:=mT P;clear hc hA hQ P A hm;delta CV;go_in;go_wp2_with fail;have R:=I (J w (Aj c p));have QC:=I (zh w (Aj c p));obtain⟨cb,o⟩:=xSa w.heap.size;rw[<-o]at QC;simp only[<-o];clear o;generalize w.alloc (Aj c p)=W at*;refine(nO c.cs p.ca p.cc B W (Bf g R.1.size) U (by omega) (Y.1.keep (R.1.mono g)).cs a0.1).mono ?_;rintro e w1 ⟨va,vc,rfl,hI,r⟩;have h:=jS R r;have t:=jT QC r;have HI:=I hI;have u:B<=w1.heap.size:=Bf g h.1.size;have D:=I (Y.1.keep (h.1.mono g));have a1:=I (HA.1.below h.1);clear r R QC hI Y HA;go_wp2_with fail;go_loopw [7,9] (λx y wr=>∃(j:Nat) (s:Int),j<=c.ks.length/\y=vIa j/\x=vIa s/\Af (s=Gs c k q j)/\Af (Bw w1 wr)) (λ_ y _=>c.ks.length-(intOf y).toNat);exact⟨0,_,Bg _,rfl,rfl,I rfl,I (An _ _)⟩;obtain⟨j,s,hj,rfl,rfl,i,a⟩:=hrel;have y7:=Ic (Ac a.1 t.1);have y9:=Mg (Ac a.1 t.1);have yl:=Ag (Ac a.1 t.1);by_cases E:j<c.ks.length
 . obtain⟨b,b1,F,hb,G⟩:=(D.1.keep (a.1.mono u)).ks.cells (by omega);obtain⟨r0,a3,a2,H,⟨e0,e1,e2,e3⟩,l,d⟩:=G j E;have b2:b<wr.heap.size:=by have:=a.1.size;omega
   rw[F]at y9;have K:B<=wr.heap.size:=Bf u a.1.size;have HF:=I l;have a4:=I d;clear G d l F a3;by_cases v:(Aq c.ks j).sc=(k:Int)
   . have es:((Aq c.ks j).sc==z)=true:=by rw[n.1];simpa using v
     obtain⟨g1,g2,g3,g4⟩:=vU C.1 V Z.1.ok E v;have L:=AN C.1 V Z.1.ok j hj;rw[<-i.1]at L;obtain⟨y,S⟩:=xSa (Aw q (Bj (Ec c.cs c.cs.length) k (Aq c.ks j).ex));have a5:jU y:=by rw[S];exact g4
     unfold jU at a5;have f:=I (show s+y=Gs c k q (j+1) by rw[pP v,<-i.1,S];rfl);have T:=I (λdd os=>Fa (oX B c.cs p.ca p.cc z k n.1 V va vc Q q Z.1 X tc m HM.1 (Aq c.ks j).ex a2 H (grow (redrawn wr dd) os) (Bf K (bR wr dd os).size) HF.1 g1 g2 (a4.1.keep ((bR wr dd os).mono K)) g3 (HI.1.below (Ab a.1 (bR wr dd os))) (D.1.keep ((Ab a.1 (bR wr dd os)).mono u)).cs (a1.1.below (Ab a.1 (bR wr dd os)))));rw[<-S]at T;have ew:IntKind.i64.wrap (s+y)=s+y:=by rw[wI];omega
     clear g1 g2 g3 g4 v S L;go_wp2_with fail;have t0:=cR y7;have t1:=cR y9;have t2:=cR e0;have t3:=cR e1;have t4:=cR e2;have t5:=cR e3;refine wRa ?_;repeat (first|go_big_quiet_step (with_reducible exact T.1 _ _)|quiet_step (with_reducible exact T.1 _ _))
     refine wpQuiet_nil ?_;intro _ a6;obtain⟨⟨dq,M⟩,N⟩:=a6;subst N;have H2:=jS a (bR wr dq M);clear T t0 t1 t2 t3 t4 t5 y7 y9 yl e0 e1 e2 e3 r0;generalize grow (redrawn wr dq) M=W2 at*;go_wp2;go_roundw;(try((repeat apply eX);refine⟨?_,rfl⟩));exact⟨j+1,_,by omega,by go_num,rfl,f,H2⟩;simp[intOf];omega
   have es:((Aq c.ks j).sc==z)=false:=by rw[n.1];simpa using v
   have f:=I (show s=Gs c k q (j+1) by rw[pS v];exact i.1);clear v;go_wp2;go_roundw;(try((repeat apply eX);refine⟨?_,rfl⟩));exact⟨j+1,_,by omega,by go_num,rfl,f,a⟩;simp[intOf];omega
 obtain rfl:j=c.ks.length:=by omega
 go_wp2;go_ret;exact⟨ze i.1,Ab h.1 a.1⟩
theorem AI{t:At}{c:Ad}{d:Ai}(f:zY t=0)(b:Ax c=0)(hd:Cc t c d=0):∀k,k<(Jf c).length->Lb (Bo t c d) (Ci (Jf c) k):=by
 intro k g;have a:k<c.xs.length:=by simpa[Jf] using g
 have e:Ci (Jf c) k=Bj (Ec c.cs c.cs.length) 1 (Au c.xs k):=by
  unfold Ci Jf Au;rw[Cr,List.getElem?_map,Cr,Cz a];rfl
 obtain⟨h,j,i⟩:=nZ b a;rw[e];exact(eV ((eI f b hd).env (by decide) c.cs c.cs.length) _ h i).1
theorem NT{c:Ad}(a:Ax c=0):(Jf c).length<=1:=by
 have h:=(Vq (Ud a).g).1;simp only[Li,Em,decide_eq_true_eq]at h;simp only[Jf,List.length_map];omega
def Xc(t:At)(c:Ad)(d:Ai):Int:=if Bk t c d=0 then Nw c (Bo t c d) else 0
theorem SH:wi (zk 1) ⟨#[98,108,111,99,107]⟩=some 3:=by decide+kernel
theorem LO{c:Ad}(a:k<c.xs.length):Ci (Jf c) k=Bj (Ec c.cs c.cs.length) 1 (Au c.xs k):=by
 unfold Ci Jf Au;rw[Cr,List.getElem?_map,Cr,Cz a];rfl
theorem yH(c:Ad)(p:Bd)(B:Nat)(w:Wd)(N:B<=w.heap.size)(b0:c.cs.length<=p.cc/\p.cc<=9223372036854775807)(hC:Ax c=0)(hc:Kb B w c p)(q:LI)(hq:Ob 1 q)(ta:Ae)(tc:Nat)(hA:Jk w ta ((zk 1).zip q)):
 CV 113 #[Ay c p,.slice ta q.length tc] w (Nw c q):=by
 try delta Ay Az
 have HC:=I hc;have HA:=I hA;have b1:=I (oB hC);have a0:=(mT hC).1;have A:q.length=11:=hq.len;have u:q.length=(zk 1).length:=hq.len;by_cases V:c.xs.length=0
 . have hr:=I (show Nw c q=Am q 3 from iP (by simpa[Jf] using V));have b2:=I ((yW ⟨#[98,108,111,99,107]⟩ u).trans (by rw[SH];rfl):Pu ((zk 1).zip q) ⟨#[98,108,111,99,107]⟩=3);have a1:((zk 1).zip q).length=q.length:=by rw[List.length_zip];omega
   have X:3<q.length:=by omega
   have e3:(3:Int)<(q.length:Int):=by omega
   have e0:((c.xs.length:Int)==0)=true:=by rw[V];rfl
   have a3:q.length<=140737488355328:=by omega
   have b3:=I u;have x:=I a1;clear hc hA hq V u a1 A a0;delta CV;go_in;go_wp2_with fail;have Y:=I (J w (Aj c p));generalize w.alloc (Aj c p)=W at*;have A1:=HA.1.below Y.1;obtain⟨b,a,rfl,hb,r⟩:=A1.cells (by rw[x.1];omega);have d1:=(r 3 (by rw[x.1];omega)).2;rw[qL b3.1 X]at d1;have HF:=I (xH ((zk 1).zip q) ⟨#[98,108,111,99,107]⟩ (some (aD b a)) tc W A1 (by rw[x.1];exact a3));rw[x.1,b2.1]at HF;clear r A1;refine HF.1.mono ?_;rintro e s ⟨rfl,rfl⟩;clear HF;go_wp2;go_ret;exact zEa hr Y
 have X:0<c.xs.length:=by omega
 have hr:=I (show Nw c q=Aw q (Bj (Ec c.cs c.cs.length) 1 (Au c.xs 0)) by rw[Nw,iN (by simpa[Jf] using V),LO X]);have e0:((c.xs.length:Int)==0)=false:=by simpa using V
 have P:=nZ hC X;have c5:(0:Int)<(c.xs.length:Int):=by omega
 clear hc hA V;delta CV;go_in;go_wp2_with fail;have Y:=I (J w (Aj c p));have QC:=I (zh w (Aj c p));obtain⟨m,Q⟩:=xSa w.heap.size;rw[<-Q]at QC;simp only[<-Q];clear Q;generalize w.alloc (Aj c p)=W at*;have a4:=Bf N Y.1.size;obtain⟨b,a,a5,b4,r⟩:=(HC.1.keep (Y.1.mono N)).xs.cells X;obtain⟨R,g,_,⟨c1,c2,c3,c4⟩,C,t⟩:=r.at 0 X;simp only[Nat.zero_mul,Nat.add_zero]at c1 c2 c3 c4;have HF:=I C;have a6:W.cell? (aD m 10)=some (.slice (some (aD b a)) c.xs.length p.xc):=by rw[<-a5];exact zm (j:=10) QC.1 rfl
 have d:W.drew.cell? (aD m 7)=some (.slice p.ca c.cs.length p.cc)/\W.drew.cell? (aD m 10)=some (.slice (some (aD b a)) c.xs.length p.xc)/\W.drew.cell? (aD b a)=some (.int .i64 (Au c.xs 0).op)/\W.drew.cell? (aD b (a+1))=some (.int .i64 (Au c.xs 0).num)/\W.drew.cell? (aD b (a+2))=some (.string (Au c.xs 0).name)/\W.drew.cell? (aD b (a+3))=some (.slice R (Au c.xs 0).args.length g):=⟨zm (j:=7) QC.1 rfl,a6,c1,c2,c3,c4⟩;have BL:=I Y.1.drew;have n:B<=W.drew.heap.size:=a4;have y:m<W.drew.heap.size:=Ag QC.1;have Z:b<W.drew.heap.size:=As b4 n;have S:=I (HC.1.keep (BL.1.mono N));have a7:Af (Et B W.drew R (Au c.xs 0).args):=I (t.keep ((An W.heap.size W).drew.mono a4));have a8:=I (HA.1.below BL.1);have T:=I (nO c.cs p.ca p.cc B W.drew n b0 (by omega) S.1.cs b1.1);obtain⟨Wd,U⟩:∃Wd,W.drew=Wd:=⟨_,rfl⟩;rw[U]at d BL n y Z S a7 a8 T;clear r C t a5 c1 c2 c3 c4 A u;go_wp2_with fail;refine Ys (λw'=>w'.cell? (aD m 7)=some (.slice p.ca c.cs.length p.cc)/\w'.cell? (aD m 10)=some (.slice (some (aD b a)) c.xs.length p.xc)/\w'.cell? (aD b a)=some (.int .i64 (Au c.xs 0).op)/\w'.cell? (aD b (a+1))=some (.int .i64 (Au c.xs 0).num)/\w'.cell? (aD b (a+2))=some (.string (Au c.xs 0).name)/\w'.cell? (aD b (a+3))=some (.slice R (Au c.xs 0).args.length g)) [] (by kernel_rfl) U ?_;clear U a6;refine jV (i:=0) (v:=.pointer (some (aD m 7))) rfl d ?_;try simp only[Act.put,O]
 refine jV (i:=1) (v:=.slice p.ca c.cs.length p.cc) rfl d ?_;try simp only[Act.put,O]
 refine jV (i:=3) (v:=.pointer (some (aD m 7))) rfl d ?_;try simp only[Act.put,O]
 refine jV (i:=4) (v:=.slice p.ca c.cs.length p.cc) rfl d ?_;try simp only[Act.put,O]
 refine jV (i:=5) (v:=.slice ta q.length tc) rfl d ?_;try simp only[Act.put,O]
 refine jV (i:=6) (v:=.pointer (some (aD m 10))) rfl d ?_;try simp only[Act.put,O]
 refine jV (i:=7) (v:=.slice (some (aD b a)) c.xs.length p.xc) rfl d ?_;try simp only[Act.put,O]
 refine jV (i:=8) (v:=.pointer (some (aD b a))) rfl d ?_;try simp only[Act.put,O]
 refine jV (i:=9) (v:=.agg #[(Au c.xs 0).op,(Au c.xs 0).num,.string (Au c.xs 0).name,.slice R (Au c.xs 0).args.length g]) rfl d ?_;try simp only[Act.put,O]
 refine sOa (i:=2) rfl λK hK=>?_;go_simp;refine T.1.mono ?_;rintro e s ⟨va,vc,rfl,hI,f⟩;have HI:=I hI;have b5:=jS BL f;have b6:B<=s.heap.size:=Bf n f.size;have b7:=I (S.1.keep (f.mono n));have b8:=I (a7.1.keep (f.mono n));have b9:=I (a8.1.below f);have k:s.cell? (aD m 7)=some (.slice p.ca c.cs.length p.cc)/\s.cell? (aD m 10)=some (.slice (some (aD b a)) c.xs.length p.xc)/\s.cell? (aD b a)=some (.int .i64 (Au c.xs 0).op)/\s.cell? (aD b (a+1))=some (.int .i64 (Au c.xs 0).num)/\s.cell? (aD b (a+2))=some (.string (Au c.xs 0).name)/\s.cell? (aD b (a+3))=some (.slice R (Au c.xs 0).args.length g):=⟨zD d.1 y f,zD d.2.1 y f,zD d.2.2.1 Z f,zD d.2.2.2.1 Z f,zD d.2.2.2.2.1 Z f,zD d.2.2.2.2.2 Z f⟩;have M:m<s.heap.size:=As y f.size;have z:b<s.heap.size:=As Z f.size;have HV:=I (oX B c.cs p.ca p.cc 1 1 rfl (by decide) va vc q q hq.self ta tc q.length rfl (Au c.xs 0) R g s b6 HF.1 P.1 P.2.1 b8.1 P.2.2 HI.1 b7.1.cs b9.1);clear hI f T;refine hK.1 _ _ (λ_ _=>k) ?_;clear hK K;try simp only[Act.put,O]
 refine sOa (i:=10) rfl λK hK=>?_;go_simp;refine HV.1.mono ?_;rintro e w3 ⟨rfl,l⟩;have c0:=jS b5 l;have a9:w3.cell? (aD m 7)=some (.slice p.ca c.cs.length p.cc)/\w3.cell? (aD m 10)=some (.slice (some (aD b a)) c.xs.length p.xc)/\w3.cell? (aD b a)=some (.int .i64 (Au c.xs 0).op)/\w3.cell? (aD b (a+1))=some (.int .i64 (Au c.xs 0).num)/\w3.cell? (aD b (a+2))=some (.string (Au c.xs 0).name)/\w3.cell? (aD b (a+3))=some (.slice R (Au c.xs 0).args.length g):=⟨zD k.1 M l,zD k.2.1 M l,zD k.2.2.1 z l,zD k.2.2.2.1 z l,zD k.2.2.2.2.1 z l,zD k.2.2.2.2.2 z l⟩;clear l HV;refine hK.1 _ _ (λ_ _=>a9) ?_;clear hK K;try simp only[Act.put,O]
 refine sOa (i:=11) rfl λK hK=>?_;go_simp;refine hK.1 _ _ (λ_ h=>h) ?_;clear hK K;try simp only[Act.put,O]
 refine zM (by kernel_rfl) ?_;clear d k a9;go_wp2;go_ret;exact zEa hr c0
theorem Xd{t:At}{c:Ad}{d:Ai}(h:Bk t c d=0):Xc t c d=Nw c (Bo t c d):=iP h
theorem VF{t:At}{c:Ad}{d:Ai}(h:Bk t c d≠0):Xc t c d=0:=iN h
theorem IA(t:At)(c:Ad)(f:Ae)(b:Nat)(g:Ae)(ac:Nat)(fa:Ae)(fc:Nat)(p:Bd)(w:Wd)(k:(t.zn.length<=b/\b<=2^47/\t.ai.length<=ac/\ac<=2^47))(l:c.cs.length<=p.cc/\p.cc<=9223372036854775807)(m:Ea w t c f g fa p)(d:Ai)(s:Ae)(A:Nat)(u:d.length<=2^47)(hd:Al Ei w s d):
 CV 138 #[Az t f b g ac fa fc,Ay c p,.slice s d.length A] w (.tuple #[(Xc t c d),(Bk t c d)]):=by
 try delta Ay Az
 have B:=I m;have H:=I hd;clear m hd;delta CV;go_in;go_wp2_with fail;have o:=I (Ab (J w (Ap t f b g ac fa fc)) (J _ (Aj c p)));have K:=I (zd (o':=(Aj c p)) (zh w (Ap t f b g ac fa fc)));have q:=I (zh (w.alloc (Ap t f b g ac fa fc)) (Aj c p));rw[zr]at q;obtain⟨C,h⟩:=xSa (w.heap.size+1);rw[<-h]at q;simp only[<-h];clear h;generalize (w.alloc (Ap t f b g ac fa fc)).alloc (Aj c p)=W at*;refine(fZ t c f b g ac fa fc p W k l (B.1.below o.1) d s A u (H.1.below o.1)).mono ?_;rintro e D ⟨L,M,rfl,r,i⟩;have j:=jS o i;have v:=jT q i;clear i o K q;by_cases a:Bk t c d=0
 . have x:=I (Xd a);have N:=I a;obtain⟨E,y,F⟩:=aR a;rw[Uj a]at r;have G:=I (yH c p D.heap.size D (Bv _) l y (B.1.below j.1).c (Bo t c d) (eI E y F) L M r);rw[Uj a,Rf (show(Bo t c d).length=(zk 1).length from rfl)];clear E y F r;obtain⟨T,U,V,X,Y,Z,y6,y7,y8,y9,P,Q,R,S,yl⟩:=Ek v.1;rw[a];clear a;go_wp2_with fail;refine G.1.mono ?_;rintro e w2 ⟨rfl,n⟩;have z:=jS j n;clear n G;go_wp2;go_ret2;exact⟨zJ x.1.symm N.1.symm,z.1⟩
 have x:=I (VF a);have e1:=bNa a
 clear a r;go_wp2;go_ret2;exact⟨zJ x.1.symm rfl,j.1⟩
def Zp(t:At)(c:Ad)(d:Ai):List (Int×Int×BA):=if Bk t c d=0 then(Wy c 1 (Bo t c d)).map λs=>(1,0,s) else []
def Wg(t:At)(c:Ad)(d:Ai):Int:=if Bk t c d=0 then qQ c 1 (Bo t c d) else 0
theorem tU(q:LI):Rt 1 q=q:=iN (by decide)
theorem sZ{t:At}{c:Ad}{d:Ai}(h:Bk t c d≠0):Zp t c d= []:=iN h
theorem KO{t:At}{c:Ad}{d:Ai}(h:Bk t c d≠0):Wg t c d=0:=iN h
theorem FO{t:At}{c:Ad}{d:Ai}(h:Bk t c d=0):Zp t c d=(Wy c 1 (Bo t c d)).map λs=>(1,0,s):=iP h
theorem IQ{t:At}{c:Ad}{d:Ai}(h:Bk t c d=0):Wg t c d=qQ c 1 (Bo t c d):=iP h
theorem uM{t:At}{c:Ad}{d:Ai}(h:Bk t c d=0):Zp t c d=Ef c 1 0 (Bo t c d) c.rs.length:=by
 rw[FO h,Ef,SV,Wy,show Rt ((1:Nat):Int) (Bo t c d)=Bo t c d from tU _];rfl
theorem PG{t:At}{c:Ad}{d:Ai}(h:Bk t c d=0):Wg t c d=Gs c 1 (Bo t c d) c.ks.length:=by
 rw[IQ h,SU,qQ,show Rt ((1:Nat):Int) (Bo t c d)=Bo t c d from tU _]
theorem zqC(t:At)(c:Ad)(d:Ai):(Zp t c d).length<=2^47:=by
 by_cases h:Bk t c d=0;obtain⟨_,a,_⟩:=aR h;have:=mT a;rw[uM h];exact Bf (KZ _ _ _ _ _) (by omega);rw[sZ h];exact Bg _
def cL(w:Wd)(V:List (Int×Int×BA))(er:Int)(e:Ending)(w':Wd):Prop:=∃a cap,e=.returned (.tuple #[.slice a V.length cap,er])/\Us w' a V/\Below w.heap.size w w'
theorem wM.of_own{l:LB}(h:w.ownsRow b 9 1 v l.length (l.map Value.string)):∃a c,v=.slice a l.length c/\wM w a l:=by
 rcases h.2 with⟨f,j⟩|⟨g,c,d,rfl,f,k,m,n,o,p⟩;exact⟨none,0,by rw[f,j],.inl (List.length_eq_zero_iff.1 j)⟩;refine⟨_,_,rfl,.inr ⟨g,d,_,rfl,k,λi hi=>?_⟩⟩;have e:(d.toList.take (l.length*1))[i]?=some (.string (Bl l i)):=by
  rw[p];simp[Bl,hi]
 rw[List.getElem?_take,iP (by omega)]at e;simpa using e
theorem GW(t:At)(c:Ad)(g:Ae)(b:Nat)(h:Ae)(ac:Nat)(fa:Ae)(fc:Nat)(p:Bd)(w:Wd)(n:(t.zn.length<=b/\b<=2^47/\t.ai.length<=ac/\ac<=2^47))(o:c.cs.length<=p.cc/\p.cc<=9223372036854775807)(q:Ea w t c g h fa p)(d:Ai)(z:Ae)(F:Nat)(A:d.length<=2^47)(hd:Al Ei w z d):
 Calls prog 65 #[Az t g b h ac fa fc,Ay c p,.slice z d.length F] w (cL w (Zp t c d) (Bk t c d)):=by
 try delta Ay Az
 have G:=I q;have Q:=I hd;clear q hd;go_in;go_wp2_with fail;have u:=I (Ab (J w (Ap t g b h ac fa fc)) (J _ (Aj c p)));have R:=I (zd (o':=(Aj c p)) (zh w (Ap t g b h ac fa fc)));have x:=I (zh (w.alloc (Ap t g b h ac fa fc)) (Aj c p));rw[zr]at x;obtain⟨H,i⟩:=xSa (w.heap.size+1);rw[<-i]at x;simp only[<-i];clear i;generalize (w.alloc (Ap t g b h ac fa fc)).alloc (Aj c p)=W at*;refine(fZ t c g b h ac fa fc p W n o (G.1.below u.1) d z F A (Q.1.below u.1)).mono ?_;rintro e K ⟨S,T,rfl,y,j⟩;have k:=jS u j;have B:=jT x j;clear j u R x;by_cases a:Bk t c d=0
 . have m:=I a;obtain⟨L,C,M⟩:=aR a;rw[Uj a]at y;have N:=I (MX c p K.heap.size K (Bv _) o C (G.1.below k.1).c 1 (by decide) 1 rfl 0 (Bo t c d) (Bo t c d) (eI L C M).self S T (Bo t c d).length rfl y);rw[Uj a,Rf (show(Bo t c d).length=(zk 1).length from rfl)];clear L C M y;obtain⟨y0,y1,y2,y3,y4,y5,y6,y7,y8,y9,U,V,X,Y,yl⟩:=Ek B.1;rw[a];clear a;go_wp2_with fail;refine N.1.mono ?_;rintro e w2 ⟨v,P,rfl,l,f,r⟩;have D:=jS k r;obtain⟨Z,c3,rfl,s⟩:=Us.of_own f;have E:=I s;clear r N f l s;go_wp2;go_ret2;exact⟨Z,c3,Wa (by rw[uM m.1] <;> rfl) m.1.symm,by rw[uM m.1];exact E.1,D.1⟩
 have e1:=bNa a
 have m:=I a;clear a y;go_wp2;go_ret2;exact⟨none,0,Wa (by rw[sZ m.1];rfl) rfl,.inl (sZ m.1),k.1⟩
theorem IP(t:At)(c:Ad)(f:Ae)(b:Nat)(g:Ae)(ac:Nat)(fa:Ae)(fc:Nat)(p:Bd)(w:Wd)(k:(t.zn.length<=b/\b<=2^47/\t.ai.length<=ac/\ac<=2^47))(l:c.cs.length<=p.cc/\p.cc<=9223372036854775807)(m:Ea w t c f g fa p)(d:Ai)(u:Ae)(A:Nat)(v:d.length<=2^47)(hd:Al Ei w u d):
 CV 66 #[Az t f b g ac fa fc,Ay c p,.slice u d.length A] w (.tuple #[(Wg t c d),(Bk t c d)]):=by
 try delta Ay Az
 have B:=I m;have H:=I hd;clear m hd;delta CV;go_in;go_wp2_with fail;have o:=I (Ab (J w (Ap t f b g ac fa fc)) (J _ (Aj c p)));have K:=I (zd (o':=(Aj c p)) (zh w (Ap t f b g ac fa fc)));have q:=I (zh (w.alloc (Ap t f b g ac fa fc)) (Aj c p));rw[zr]at q;obtain⟨C,h⟩:=xSa (w.heap.size+1);rw[<-h]at q;simp only[<-h];clear h;generalize (w.alloc (Ap t f b g ac fa fc)).alloc (Aj c p)=W at*;refine(fZ t c f b g ac fa fc p W k l (B.1.below o.1) d u A v (H.1.below o.1)).mono ?_;rintro e D ⟨L,M,rfl,r,i⟩;have j:=jS o i;have x:=jT q i;clear i o K q;by_cases a:Bk t c d=0
 . have s:=I a;obtain⟨E,y,F⟩:=aR a;rw[Uj a]at r;have G:=I (PP c p D.heap.size D (Bv _) l y (B.1.below j.1).c 1 (by decide) 1 rfl (Bo t c d) (Bo t c d) (eI E y F).self L M (Bo t c d).length rfl r);rw[Uj a,Rf (show(Bo t c d).length=(zk 1).length from rfl)];clear E y F r;obtain⟨S,T,U,V,X,Y,Z,y7,y8,y9,N,P,Q,R,yl⟩:=Ek x.1;rw[a];clear a;go_wp2_with fail;refine G.1.mono ?_;rintro e w2 ⟨rfl,n⟩;have z:=jS j n;clear n G;go_wp2;go_ret2;exact⟨zJ (PG s.1).symm s.1.symm,z.1⟩
 have e1:=bNa a
 have s:=I a;clear a r;go_wp2;go_ret2;exact⟨zJ (KO s.1).symm rfl,j.1⟩
theorem ziq(w:Wd)(sb:Nat)(t:At)(c:Ad)(P:Dh)(f:Hl w sb t c P)(d:Ai)(a:Ae)(cap:Nat)(hd:Cc t c d=0)(r:Al Ei w a d):Calls prog 120 #[pAa sb 0,.slice a d.length cap] w (mF w ((Wy c 1 (Bo t c d)).map λs=>(1,0,s))):=by
 have B:=I f;have u:=eI f.okT f.okC hd;have C:=I (j_ f.okC (by decide) u);have D:=mT f.okC;have E:=a_ c 1;have v:=I (gE w sb t c P f d a cap hd r);go_in;go_wp2_with fail;refine v.1.mono ?_;rintro e F ⟨b,rfl,x,g⟩;have n:=I g;have y:=I (zzQ 1 1 rfl (by decide) F sb t c P (B.1.below g) (Bo t c d) (some (aD b 0)) 11 (λh=>aB h (by decide)) (by rw[Rd];decide) x (by omega) (by rw[tU];exact C.1));go_wp2_with fail;refine y.1.mono ?_;rintro e o ⟨L,rfl,i,j⟩;have k:=jS n j;obtain⟨G,H,rfl,z⟩:=wM.of_own i;have A:=I (h_ o.heap.size [] sNa o (Bv _) (World.ownsRow_nil _ _ _ _) 1 0 (Wy c 1 (Bo t c d)) G H z (by have:=U_ (Rt ((1:Nat):Int) (Bo t c d)) (Sg c 1) (Sg c 1).length;simp only[List.length_nil];unfold Wy;omega));go_wp2_with fail;refine A.1.mono ?_;rintro e M ⟨K,rfl,l,m,_⟩;have p:=jS k m;have q:=I l;go_wp2;go_ret;exact⟨K,o.heap.size,rfl,k.1.size,by simpa using q.1,p.1⟩
theorem ze4(t:At)(c:Ad)(a:Ae)(g:Nat)(b:Ae)(ac:Nat)(fa:Ae)(fc:Nat)(p:Bd)(w:Wd)(D:Rn t c a g b ac fa fc p)(m:Ea w t c a b fa p)(d:Ai)(u:Ae)(y:Nat)(z:d.length<=2^47)(hd:Al Ei w u d):
 Calls prog 57 #[Az t a g b ac fa fc,Ay c p,.slice u d.length y] w (cL w (Zp t c d) (Bk t c d)):=by
 try delta Ay Az
 have L:=I m;have E:=I hd;have M:=I D;go_in;go_wp2_with fail;have x:=I (Ab (J w (Ap t a g b ac fa fc)) (J _ (Aj c p)));have N:=I (zd (o':=(Aj c p)) (zh w (Ap t a g b ac fa fc)));have A:=I (zh (w.alloc (Ap t a g b ac fa fc)) (Aj c p));rw[zr]at A;obtain⟨F,i⟩:=xSa (w.heap.size+1);rw[<-i]at A;simp only[<-i];generalize (w.alloc (Ap t a g b ac fa fc)).alloc (Aj c p)=W at*;refine(zhI t c a g b ac fa fc p M.1 W (L.1.below x.1) d u y z (E.1.below x.1)).mono ?_;rintro e Q ⟨n,o⟩;have j:=jS x o;rcases n with⟨h,rfl⟩|⟨R,P,h,q,rfl,G,_⟩
 . have l:=I h;have U:=bNa h
   go_wp2;go_ret2;exact⟨none,0,Wa (by rw[sZ l.1];rfl) rfl,.inl (sZ l.1),j.1⟩
 have l:=I h;have H:=I (ziq Q R t c P G d u y q (E.1.below j.1));go_wp2_with fail;refine H.1.mono ?_;rintro e V ⟨v,K,rfl,k,f,r⟩;have B:=jS j r;obtain⟨S,T,rfl,s⟩:=Us.of_own f;have C:=I s;go_wp2;go_ret2;exact⟨S,T,Wa (by rw[FO l.1,List.length_map] <;> rfl) l.1.symm,by rw[FO l.1];exact C.1,B.1⟩
theorem zfP(t:At)(c:Ad)(a:Ae)(g:Nat)(f:Ae)(ac:Nat)(fa:Ae)(fc:Nat)(p:Bd)(w:Wd)(C:Rn t c a g f ac fa fc p)(n:Ea w t c a f fa p)(d:Ai)(s:Ae)(x:Nat)(y:d.length<=2^47)(hd:Al Ei w s d):
 CV 58 #[Az t a g f ac fa fc,Ay c p,.slice s d.length x] w (.tuple #[(Wg t c d),(Bk t c d)]):=by
 try delta Ay Az
 have M:=I n;have D:=I hd;have N:=I C;delta CV;go_in;go_wp2_with fail;have u:=I (Ab (J w (Ap t a g f ac fa fc)) (J _ (Aj c p)));have Q:=I (zd (o':=(Aj c p)) (zh w (Ap t a g f ac fa fc)));have z:=I (zh (w.alloc (Ap t a g f ac fa fc)) (Aj c p));rw[zr]at z;obtain⟨E,i⟩:=xSa (w.heap.size+1);rw[<-i]at z;simp only[<-i];generalize (w.alloc (Ap t a g f ac fa fc)).alloc (Aj c p)=W at*;refine(zhI t c a g f ac fa fc p N.1 W (M.1.below u.1) d s x y (D.1.below u.1)).mono ?_;rintro e R ⟨o,q⟩;have j:=jS u q;rcases o with⟨h,rfl⟩|⟨F,P,h,k,rfl,l,_⟩
 . have v:=I h;have Y:=bNa h
   go_wp2;go_ret2;exact⟨zJ (KO v.1).symm rfl,j.1⟩
 have v:=I h;have S:=I l;have G:=eI l.okT l.okC k;have T:=I (c_ l.okC (by decide) G);have U:=mT l.okC;have V:=b_ c 1;have H:=I (gE R F t c P l d s x k (D.1.below j.1));go_wp2_with fail;refine H.1.mono ?_;rintro e X ⟨b,rfl,K,m⟩;have A:=jS j m;have L:=I (zzP 1 1 rfl (by decide) X F t c P (S.1.below m) (Bo t c d) (some (aD b 0)) 11 (λh=>aB h (by decide)) (by rw[Rd];decide) K (by omega) (by rw[tU];exact T.1));go_wp2_with fail;refine L.1.mono ?_;rintro e Z ⟨rfl,r⟩;have B:=jS A r;go_wp2;go_ret2;exact⟨zJ (IQ v.1).symm v.1.symm,B.1⟩
def exG:Ft:=⟨⟨#[88,49]⟩,⟨#[65,65,65]⟩,⟨#[66,66,66]⟩,10560,10740,⟨#[98,55,51,55]⟩,0,0,0⟩
def ZW:At:=⟨bO,bX, [exG]⟩
def T_:BA:=⟨#[115,112,97,110]⟩
def zmp:BA:=⟨#[115,104,111,114,116]⟩
def exE1:zH:=.mk 6 0 T_ []
def exE2:zH:=.mk 2 240 ByteArray.empty []
def exX:zH:=.mk 17 0 ByteArray.empty [exE1,exE2]
def exK:zH:=.mk 1 7 ByteArray.empty []
def ZV:Ad:=⟨60,30,0,1440,0,0,0, [], [⟨1,zmp,exX⟩], [⟨1,exK⟩], [], [], [],0⟩
def ZX:Ai:= [(0,false)]
theorem zs8:zY ZW=0:=by decide+kernel
theorem S_:Ax ZV=0:=by decide+kernel
theorem ztc:Cc ZW ZV ZX=0:=by decide+kernel
theorem f_:Bo ZW ZV ZX= [1,0,1,180,270,0,0,1440,60,420,750]:=by decide+kernel
theorem s_:Bk ZW ZV ZX=0:=by rw[pX zs8 S_];exact ztc
theorem w_:Wy ZV 1 [1,0,1,180,270,0,0,1440,60,420,750]= [zmp]:=by decide+kernel
theorem x_:qQ ZV 1 [1,0,1,180,270,0,0,1440,60,420,750]=7:=by decide+kernel
abbrev ZY:Obj:=.cells #[.string ⟨#[88,49]⟩,.string ⟨#[65,65,65]⟩,.string ⟨#[66,66,66]⟩,.int .i64 10560,.int .i64 10740,.string ⟨#[98,55,51,55]⟩,.int .i64 0,.int .i64 0,.int .i64 0] 112
abbrev A_:Obj:=.cells #[.int .i64 6,.int .i64 0,.string ⟨#[115,112,97,110]⟩,.slice none 0 0,.int .i64 2,.int .i64 240,.string ⟨#[]⟩,.slice none 0 0] 116
abbrev F_(eb:Nat):Obj:=.cells #[.int .i64 17,.int .i64 0,.string ⟨#[]⟩,.slice (some (aD eb 0)) 2 2] 116
abbrev C_(eb:Nat):Obj:=.cells #[.int .i64 1,.string ⟨#[115,104,111,114,116]⟩,.int .i64 17,.int .i64 0,.string ⟨#[]⟩,.slice (some (aD eb 0)) 2 2] 118
abbrev B_:Obj:=.cells #[.int .i64 1,.int .i64 1,.int .i64 7,.string ⟨#[]⟩,.slice none 0 0] 120
abbrev E_(rb:Nat)(kb:Nat):Obj:=.cells #[.int .i64 60,.int .i64 30,.int .i64 0,.int .i64 1440,.int .i64 0,.int .i64 0,.int .i64 0,.slice none 0 0,.slice (some (aD rb 0)) 1 1,.slice (some (aD kb 0)) 1 1,.slice none 0 0,.slice none 0 0,.slice none 0 0,.int .i64 0] 35
theorem zba{a:Nat}(q:w.heap[a]?=some ZY):w.cell? (aD a 0)=some (.string ⟨#[88,49]⟩)/\w.cell? (aD a 1)=some (.string ⟨#[65,65,65]⟩)/\w.cell? (aD a 2)=some (.string ⟨#[66,66,66]⟩)/\w.cell? (aD a 3)=some (vIa 10560)/\w.cell? (aD a 4)=some (vIa 10740)/\w.cell? (aD a 5)=some (.string ⟨#[98,55,51,55]⟩)/\w.cell? (aD a 6)=some (vIa 0)/\w.cell? (aD a 7)=some (vIa 0)/\w.cell? (aD a 8)=some (vIa 0):=
 ⟨zm (j:=0) q rfl,zm (j:=1) q rfl,zm (j:=2) q rfl,zm (j:=3) q rfl,zm (j:=4) q rfl,zm (j:=5) q rfl,zm (j:=6) q rfl,zm (j:=7) q rfl,zm (j:=8) q rfl⟩
theorem zgG{w0:Wd}{l sb m tb:Nat}(a b c:Value)(e:Pg w j k l)(n:Tl w f)(o:w.heap[sb]?=some ZY)(p:w.heap[m]?=some ZY)(d:w.heap[tb]?=some (.cells #[sNa,sNa,sNa] 27 (0,0)))(q:Bw w0 w)(r:w0.heap.size<=tb):
 Pg (((w.setCell (aD tb 0) a).setCell (aD tb 1) b).setCell (aD tb 2) c) j k l/\Tl (((w.setCell (aD tb 0) a).setCell (aD tb 1) b).setCell (aD tb 2) c) f/\(((w.setCell (aD tb 0) a).setCell (aD tb 1) b).setCell (aD tb 2) c).heap[sb]?=some ZY/\(((w.setCell (aD tb 0) a).setCell (aD tb 1) b).setCell (aD tb 2) c).heap[m]?=some ZY/\(((w.setCell (aD tb 0) a).setCell (aD tb 1) b).setCell (aD tb 2) c).heap[tb]?=some (.cells #[a,b,c] 27 (0,0))/\Bw w0 (((w.setCell (aD tb 0) a).setCell (aD tb 1) b).setCell (aD tb 2) c):=by
 have g:=W_ e.q0 d (by decide);have h:=W_ e.q1 d (by decide);have i:=W_ e.q2 d (by decide);have s:=W_ (show w.heap[f]?=some _ from n) d (by decide);have t:=W_ o d (by decide);have u:=W_ p d (by decide);exact⟨⟨X_ e.q0 g 0 1 2 a b c,X_ e.q1 h 0 1 2 a b c,X_ e.q2 i 0 1 2 a b c⟩,X_ n s 0 1 2 a b c,X_ o t 0 1 2 a b c,X_ p u 0 1 2 a b c,KX sNa sNa sNa a b c d,GJ r a b c q⟩
theorem zs5(h:w.heap[b]?=some ZY):Al Hi w (some (aD b 0)) [exG]:=by
 refine Al.of_block h _ (λi hi=>?_);rcases i with _|i;exact⟨[.string ⟨#[88,49]⟩,.string ⟨#[65,65,65]⟩,.string ⟨#[66,66,66]⟩,vIa 10560,vIa 10740,.string ⟨#[98,55,51,55]⟩,vIa 0,vIa 0,vIa 0],λj hj=>by rcases j with _|_|_|_|_|_|_|_|_|j <;> first|rfl|(simp at hj;omega),rfl,⟨Jr rfl,Jr rfl,Jr rfl,Jr rfl⟩,rfl,rfl⟩;simp at hi
theorem ztb(h:w.heap[b]?=some (.cells #[vIa 0,.bool false] 86 (0,0))):Al Ei w (some (aD b 0)) ZX:=by
 refine Al.of_block h ZX (λi hi=>?_);rcases i with _|i;exact⟨[vIa 0,.bool false],λj hj=>by rcases j with _|_|j <;> first|rfl|(simp at hj;omega), [_], [_],rfl,⟨rfl,rfl⟩,rfl⟩;simp[ZX]at hi
def exQp(rb kb:Nat):Bd:=⟨none,0,some (aD rb 0),1,some (aD kb 0),1,none,0,none,0,none,0⟩
theorem R_{B d g:Nat}(b:w.heap[d]?=some A_)(c:w.heap[f]?=some (C_ d))(e:w.heap[g]?=some B_)(k:d<B)(l:f<B)(m:g<B):Kb B w ZV (exQp f g) where
 cs:=⟨by simp[ZV],.inl rfl⟩
 rs:=by
  refine⟨by simp[ZV],.inr ⟨f,0,rfl,l,λi hi=>?_⟩⟩;obtain rfl:i=0:=by simp[ZV]at hi;omega
  refine⟨zm (j:=0) c rfl,zm (j:=1) c rfl,Jr rfl,rfl,some (aD d 0),2,⟨zm (j:=2) c rfl,zm (j:=3) c rfl,zm (j:=4) c rfl,zm (j:=5) c rfl⟩,⟨Jr rfl,Jr rfl,rfl,rfl⟩,d,0,λ_=>rfl,?_⟩;exact .cons (b':=0) (off':=0) (a:=none) (cap:=0) k (zm (j:=0) b rfl) (zm (j:=1) b rfl) (zm (j:=2) b rfl) (zm (j:=3) b rfl) (Jr rfl) (Jr rfl) rfl rfl (λh=>aB rfl h) (.nil _ _)
   (.cons (b':=0) (off':=0) (a:=none) (cap:=0) k (zm (j:=4) b rfl) (zm (j:=5) b rfl) (zm (j:=6) b rfl) (zm (j:=7) b rfl) (Jr rfl) (Jr rfl) rfl rfl (λh=>aB rfl h) (.nil _ _) (.nil _ _))
 ks:=by
  refine⟨by simp[ZV],.inr ⟨g,0,rfl,m,λi hi=>?_⟩⟩;obtain rfl:i=0:=by simp[ZV]at hi;omega
  exact⟨zm (j:=0) e rfl,rfl,none,0,⟨zm (j:=1) e rfl,zm (j:=2) e rfl,zm (j:=3) e rfl,zm (j:=4) e rfl⟩,⟨Jr rfl,Jr rfl,rfl,rfl⟩,0,0,λh=>aB rfl h,.nil _ _⟩
 xs:=by
  show Et B w none []
  exact⟨0,0,λh=>aB rfl h,.nil _ _⟩
 creditN:=by simp[ZV]
 creditF:=λx hx=>by simp[ZV]at hx
 ls:=⟨by simp[ZV],.inl rfl⟩
 oz:=⟨by simp[ZV],.inl rfl⟩
theorem z_:Zp ZW ZV ZX= [(1,0,zmp)]:=by rw[FO s_,f_,w_];rfl
theorem y_:Wg ZW ZV ZX=7:=by rw[IQ s_,f_,x_]
theorem G_(w:Wd):CV 16 #[] w (.bool true):=by
 delta CV;go_in;go_upto_region 2 with fail
 have n:=I (zh w ZY);have q:=I (J w ZY);obtain⟨fb,r⟩:=xSa w.heap.size;rw[<-r]at n;simp only[<-r];clear r;generalize w.alloc ZY=W at*;refine' Wi [⟨11, [],.ow (λv w'=>∃s1 s2 l,v=sAa l 0 3 3/\Pg w' s1 s2 l) (λ_ _ _ ⟨a,b,c,e,h⟩ h'=>⟨a,b,c,e,h.keep (λ_ _ _ h=>zA h' h)⟩)⟩,⟨12, [],.ow (λv w'=>∃m,v=sAa m 0 3 3/\Tl w' m) (λ_ _ _ ⟨a,e,h⟩ h'=>⟨a,e,zA h' h⟩)⟩,⟨13, [],.kn _⟩,⟨14, [13],.bs 1 1 ZY⟩,⟨15, [11,12,14],.ag [11,12,14]⟩,⟨2, [],.bx jI⟩] [1] [11,12,14,15,2] (λ_ h=>zba (zA h n.1)) ?h1 ?c1 ?f1
 case h1=>
  intro u;simp only[Df,Jm,↓reduceIte,Nat.reduceEqDiff];intros;and_intros
  all_goals try (first|trivial|(intros;refine Fy (by assumption) ?_;go_simp <;> rfl))
  intro A G e p g K k;go_simp;refine(sQ G).mono ?_;rintro e' w3 ⟨s1,s2,l,rfl,_,h1,h2⟩;exact k.1 _ _ ⟨h2,s1,s2,l,rfl,h1⟩;intro A G e p g K k;go_simp;refine(sM G).mono ?_;rintro e' w3 ⟨m,rfl,_,h1,h2⟩;exact k.1 _ _ ⟨h2,m,rfl,h1⟩;intro A G e p g q1 K k;go_simp;exact k.1 _ _ ⟨J _ _,rfl,zh _ _⟩;intro A G e p g q1 q2 q3 K k;obtain⟨_,_,_,s,_⟩:=q1;obtain⟨_,t,_⟩:=q2;obtain⟨_,x,_⟩:=q3;refine Fy k ?_;go_simp;intro A G e p g K k;go_simp;exact k.1 _ _ ⟨J _ _,rfl,zh _ _⟩
 case c1=>kernel_rfl
 intro u d p;simp only[Df,Hu,Jm,Act.put,O,↓reduceIte,Nat.reduceEqDiff];rintro⟨s1,s2,l,s,hz⟩ ⟨m,t,ha⟩ ⟨y,x,_,hs⟩ P ⟨tb,e2,Q,ht⟩;rw[s,t,x]at P;rw[e2];obtain⟨RZ,RA,RS,_,RT,RB⟩:=zgG (sAa l 0 3 3) (sAa m 0 3 3) (sAa y 0 1 1) hz ha hs (zA p n.1) ht (Ab q.1 p) (Bf q.1.size Q);obtain⟨z0,z1,z2,g0,g1,g2,gl⟩:=gB ht;go_simp;clear z0 z1 z2 g0 g1 g2 gl s t x P e2 hz ha hs ht Q p q n;generalize (((d.setCell (aD tb 0) (sAa l 0 3 3)).setCell (aD tb 1) (sAa m 0 3 3)).setCell (aD tb 2) (sAa y 0 1 1))=d at*;have HZ:=I RZ;have HA:=I RA;have HS:=I RS;have HT:=I RT;have HB:=I RB;clear RZ RA RS RT RB;go_upto_region 6 with fail;have H:=I (show Bw d ((((((d.alloc A_).alloc (F_ (d.heap.size))).alloc (C_ (d.heap.size))).alloc B_).alloc (E_ (d.heap.size+1+1) (d.heap.size+1+1+1))).alloc jO) from Ab (Ab (Ab (Ab (Ab (J _ _) (J _ _)) (J _ _)) (J _ _)) (J _ _)) (J _ _));have N0:=I (zd (o':=jO) (zd (o':=(E_ (d.heap.size+1+1) (d.heap.size+1+1+1))) (zd (o':=B_) (zd (o':=(C_ (d.heap.size))) (zd (o':=(F_ (d.heap.size))) (zh d A_))))));have N1:=I (zd (o':=jO) (zd (o':=(E_ (d.heap.size+1+1) (d.heap.size+1+1+1))) (zd (o':=B_) (zd (o':=(C_ (d.heap.size))) (zh (d.alloc A_) (F_ (d.heap.size)))))));rw[zr]at N1;have L:=I (zd (o':=jO) (zd (o':=(E_ (d.heap.size+1+1) (d.heap.size+1+1+1))) (zd (o':=B_) (zh ((d.alloc A_).alloc (F_ (d.heap.size))) (C_ (d.heap.size))))));rw[zr,zr]at L;have R:=I (zd (o':=jO) (zd (o':=(E_ (d.heap.size+1+1) (d.heap.size+1+1+1))) (zh (((d.alloc A_).alloc (F_ (d.heap.size))).alloc (C_ (d.heap.size))) B_)));rw[zr,zr,zr]at R;have M:=I (zd (o':=jO) (zh ((((d.alloc A_).alloc (F_ (d.heap.size))).alloc (C_ (d.heap.size))).alloc B_) (E_ (d.heap.size+1+1) (d.heap.size+1+1+1))));rw[zr,zr,zr,zr]at M;have N5:=I (zh (((((d.alloc A_).alloc (F_ (d.heap.size))).alloc (C_ (d.heap.size))).alloc B_).alloc (E_ (d.heap.size+1+1) (d.heap.size+1+1+1))) jO);rw[zr,zr,zr,zr,zr]at N5;generalize ((((((d.alloc A_).alloc (F_ (d.heap.size))).alloc (C_ (d.heap.size))).alloc B_).alloc (E_ (d.heap.size+1+1) (d.heap.size+1+1+1))).alloc jO)=w3 at*;obtain⟨db,S⟩:∃b,b=d.heap.size+1+1+1+1+1:=⟨_,rfl⟩;obtain⟨cb,T⟩:∃b,b=d.heap.size+1+1+1+1:=⟨_,rfl⟩;obtain⟨U,V⟩:∃b,b=d.heap.size+1+1+1:=⟨_,rfl⟩;obtain⟨X,Y⟩:∃b,b=d.heap.size+1+1:=⟨_,rfl⟩;obtain⟨xb,Z⟩:∃b,b=d.heap.size+1:=⟨_,rfl⟩;obtain⟨eb,a0⟩:∃b,b=d.heap.size:=⟨_,rfl⟩;simp only[<-S]at N5 ⊢;simp only[<-T]at M ⊢;simp only[<-V]at R M ⊢;simp only[<-Y]at L M ⊢;simp only[<-Z]at N1 ⊢;simp only[<-a0]at N0 N1 L ⊢;have a1:=Ag N0.1;have a2:=Ag L.1;have a3:=Ag R.1;clear a0 Z Y V T S;have a4:=jS HB H.1;have TC:=I (show Ea w3 ZW ZV (some (aD l 0)) (some (aD m 0)) (some (aD y 0)) (exQp X U) from⟨HZ.1.at.below H.1,HA.1.at.below H.1,(zs5 HS.1).below H.1,R_ N0.1 L.1 R.1 a1 a2 a3⟩);have HD:=I (ztb N5.1);have N:=I (zA H.1 HT.1);have i:=I M.1;clear N0 N1 L R M N5 a1 a2 a3 HZ HA HS HT HB H;have CC:=I (ze4 ZW ZV (some (aD l 0)) 3 (some (aD m 0)) 3 (some (aD y 0)) 1 (exQp X U) w3 (gI ZW (some (aD l 0)) (some (aD m 0)) (some (aD y 0)) 3 3 1 ZV (exQp X U)) TC.1 ZX (some (aD db 0)) 1 (by decide) HD.1);rw[z_,s_]at CC;have x0:=zw N.1;have x1:=zu N.1;have x2:=zC N.1;have xl:=Ag N.1;have y0:=zw i.1;have y1:=zu i.1;have y2:=zC i.1;have y3:=Hk i.1;have y4:=Ks i.1;have y5:=Lg i.1;have y6:=Mf i.1;have y7:=Ic i.1;have y8:=Jg i.1;have y9:=Mg i.1;have z:=Ol i.1;have B:=Qk i.1;have C:=Qj i.1;have D:=Ui i.1;have yl:=Ag i.1;go_wp2_with fail;clear x0 x1 x2 xl y0 y1 y2 y3 y4 y5 y6 y7 y8 y9 z B C D yl;refine(CC.1).mono ?_;rintro e w4 ⟨va,vc,rfl,hv,j⟩;have a6:=jS a4 j;have o:=I (zA j N.1);have f:=I (zA j i.1);have HV:=I hv;have CD:=I (zfP ZW ZV (some (aD l 0)) 3 (some (aD m 0)) 3 (some (aD y 0)) 1 (exQp X U) w4 (gI ZW (some (aD l 0)) (some (aD m 0)) (some (aD y 0)) 3 3 1 ZV (exQp X U)) (TC.1.below j) ZX (some (aD db 0)) 1 (by decide) (HD.1.below j));rw[y_,s_]at CD;clear hv j CC a4 N i;have x0:=zw o.1;have x1:=zu o.1;have x2:=zC o.1;have xl:=Ag o.1;have y0:=zw f.1;have y1:=zu f.1;have y2:=zC f.1;have y3:=Hk f.1;have y4:=Ks f.1;have y5:=Lg f.1;have y6:=Mf f.1;have y7:=Ic f.1;have y8:=Jg f.1;have y9:=Mg f.1;have z:=Ol f.1;have B:=Qk f.1;have C:=Qj f.1;have D:=Ui f.1;have yl:=Ag f.1;go_wp2_with fail;refine(CD.1).mono ?_;rintro e w5 ⟨rfl,E⟩;have a7:=jS a6 E;obtain⟨b,F,rfl,a8,a5⟩:=(HV.1.below E).cells (by decide);obtain⟨p0,p1,p2⟩:=a5 0 (by decide);simp only[Nat.zero_mul,Nat.add_zero]at p0 p1 p2;replace p0:w5.cell? (aD b F)=some (vIa 1):=p0;replace p1:w5.cell? (aD b (F+1))=some (vIa 0):=p1;replace p2:w5.cell? (aD b (F+2))=some (.string ⟨#[115,104,111,114,116]⟩):=p2;clear E CD a5 x0 x1 x2 xl y0 y1 y2 y3 y4 y5 y6 y7 y8 y9 z B C D yl;go_wp2;go_ret;exact⟨rfl,a7.1⟩
theorem znO(V:List (Int×Int×BA))(g:Ae)(q:Nat)(h:Ae)(r:Nat)(w:Wd)(j:Us w g V)(l:Us w h V)(G:V.length<=2^47):CV 64 #[.slice g V.length q,.slice h V.length r] w (.bool true):=by
 have s:=I j;have t:=I l;delta CV;go_in;go_wp2_with fail;go_loopw [5] (λi wr=>∃k:Nat,k<=V.length/\i=vIa k/\Af (Bw w wr)) (λi _=>V.length-(intOf i).toNat);exact⟨0,Bg _,rfl,I (An _ _)⟩;obtain⟨k,H,rfl,c⟩:=hrel;by_cases d:k<V.length
 . obtain⟨b,u,rfl,K,f⟩:=(s.1.below c.1).cells (by omega);obtain⟨L,m,rfl,v,a⟩:=(t.1.below c.1).cells (by omega);obtain⟨A,B,C⟩:=f k d;obtain⟨D,E,F⟩:=a k d;obtain⟨x,n⟩:=xSa ((Sf V k).1);obtain⟨y,o⟩:=xSa ((Sf V k).2.1);obtain⟨z,p⟩:=xSa ((Sf V k).2.2);rw[<-n]at A D;rw[<-o]at B E;rw[<-p]at C F;go_wp2;go_quiet (fail);go_wp2;go_roundw;(try((repeat apply eX);refine⟨?_,rfl⟩));exact⟨k+1,by omega,by go_num,jS c (dr _ _)⟩;simp[intOf];omega
 obtain rfl:k=V.length:=by omega
 go_wp2;go_ret;exact⟨rfl,c.1⟩
theorem zzH(t:At)(c:Ad)(d:Ai)(k:Ae)(b:Nat)(l:Ae)(ac:Nat)(fa:Ae)(fc:Nat)(p:Bd)(da:Ae)(dc:Nat)(w:Wd)(hn:(t.zn.length<=b/\b<=2^47/\t.ai.length<=ac/\ac<=2^47)/\t.fs.length<=2^47)(hz:Al Nc w k t.zn)(ha:Al Mk w l t.ai)(hf:Al Hi w fa t.fs)(a6:c.cs.length<=p.cc/\p.cc<=9223372036854775807)(hc:Kb w.heap.size w c p)(s:d.length<=2^47)(hd:Al Ei w da d):
 CV 18 #[Az t k b l ac fa fc,Ay c p,.slice da d.length dc] w (.bool true):=by
 try delta Ay Az
 have u:=I (λW (h:Bw w W)=>aI (Ea.below ⟨hz,ha,hf,hc⟩ h) (hd.below h));have a7:=hn.1;have a8:t.zn.length<=2^47/\t.ai.length<=2^47/\t.fs.length<=2^47:=by omega
 have c1:(Zp t c d).length<=2^47:=zqC t c d;have y:=I (show t.zn.length<=b/\b<=2^47/\t.ai.length<=ac/\ac<=2^47 by omega);clear hz ha hf hc hd hn a7;delta CV;go_in;go_wp2_with fail;have a9:=I (Ab (J w (Ap t k b l ac fa fc)) (J _ (Aj c p)));have q0:=zd (o':=(Aj c p)) (zh w (Ap t k b l ac fa fc));have q1:=zh (w.alloc (Ap t k b l ac fa fc)) (Aj c p);rw[zr]at q1;obtain⟨b0,A⟩:=xSa w.heap.size;obtain⟨b1,B⟩:=xSa (w.heap.size+1);rw[<-A]at q0;rw[<-B]at q1;simp only[<-B];simp only[<-A];clear A B;generalize (w.alloc (Ap t k b l ac fa fc)).alloc (Aj c p)=w0 at*;have Q0:=I q0;have Q1:=I q1;clear q0 q1;have z:=I (λW' (h:Bw w0 W')=>aI (zA h Q0.1) (zA h Q1.1));refine(zhE t c k b l ac fa fc p w0 a8 (u.1 _ a9.1).1).mono ?_;rintro e w1 ⟨bl,rfl,C⟩;have m:=jS a9 C;have D:=I C;clear C a8;cases bl
 . have n:=m;go_wp2_with fail;refine ca (G_ _) λwz a=>?_;have o:=jS n a;clear a;go_wp2;go_ret;exact⟨rfl,o.1⟩
 by_cases b2:40<d.length
 . have c2:decide ((40:Int)<(d.length:Int))=true:=by simp;omega
   have n:=m;clear b2;go_wp2_with fail;refine ca (G_ _) λwz a=>?_;have o:=jS n a;clear a;go_wp2;go_ret;exact⟨rfl,o.1⟩
 have c2:decide ((40:Int)<(d.length:Int))=false:=by simp;omega
 clear b2;obtain⟨er,b3⟩:=xSa (Bk t c d);have v:=I b3;clear b3;obtain⟨E,F,G,H⟩:=Ev (z.1 _ D.1).1;obtain⟨K,L,M,N,P,Q,R,S,T,U,f,g,i,j,V⟩:=Ek (z.1 _ D.1).2;go_wp2_with fail;refine(ze4 t c k b l ac fa fc p w1 (gI t k l fa b ac fc c p) (u.1 _ m.1).1 d da dc s (u.1 _ m.1).2).mono ?_;rintro e w2 ⟨a1,k1,rfl,b4,X⟩;have Y:=jS m X;have Z:=jS D X;rw[<-v.1];clear E F G H K L M N P Q R S T U f g i j V;have V1:=I b4;clear b4 X;obtain⟨E,F,G,H⟩:=Ev (z.1 _ Z.1).1;obtain⟨K,L,M,N,P,Q,R,S,T,U,f,g,i,j,V⟩:=Ek (z.1 _ Z.1).2;go_wp2_with fail;refine(GW t c k b l ac fa fc p w2 y.1 a6 (u.1 _ Y.1).1 d da dc s (u.1 _ Y.1).2).mono ?_;rintro e w3 ⟨a2,k2,rfl,b5,x⟩;have a0:=jS Y x;have a3:=jS Z x;rw[<-v.1];clear E F G H K L M N P Q R S T U f g i j V;have b6:=I (V1.1.below x);have V2:=I b5;clear b5 x V1;obtain⟨E,F,G,H⟩:=Ev (z.1 _ a3.1).1;obtain⟨K,L,M,N,P,Q,R,S,T,U,f,g,i,j,V⟩:=Ek (z.1 _ a3.1).2;go_wp2_with fail;refine ca (zfP t c k b l ac fa fc p w3 (gI t k l fa b ac fc c p) (u.1 _ a0.1).1 d da dc s (u.1 _ a0.1).2) λw4 q=>?_;have a4:=jS a0 q;have a5:=jS a3 q;rw[<-v.1];clear E F G H K L M N P Q R S T U f g i j V;have b7:=I (b6.1.below q);have b8:=I (V2.1.below q);clear q b6 V2;obtain⟨E,F,G,H⟩:=Ev (z.1 _ a5.1).1;obtain⟨K,L,M,N,P,Q,R,S,T,U,f,g,i,j,V⟩:=Ek (z.1 _ a5.1).2;go_wp2_with fail;refine ca (IP t c k b l ac fa fc p w4 y.1 a6 (u.1 _ a4.1).1 d da dc s (u.1 _ a4.1).2) λw5 r=>?_;have c3:=jS a4 r;have c6:=jS a5 r;rw[<-v.1];clear E F G H K L M N P Q R S T U f g i j V;have c4:=I (b7.1.below r);have c5:=I (b8.1.below r);clear r b7 b8;obtain⟨cr,b9⟩:=xSa (Wg t c d);rw[<-b9];clear b9;go_wp2_with fail;refine ca (znO (Zp t c d) a1 k1 a2 k2 w5 c4.1 c5.1 c1) λw6 c0=>?_;have n:=jS c3 c0;clear c0;go_wp2_with fail;refine ca (G_ _) λwz a=>?_;have o:=jS n a;clear a;go_wp2;go_ret;exact⟨rfl,o.1⟩
end Go.Proofs.YtelojoopofolpaaGreat
