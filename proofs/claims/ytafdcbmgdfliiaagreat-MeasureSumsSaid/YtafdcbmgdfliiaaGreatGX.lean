/- a part of the proof -/
import Derived.Test.YtafdcbmgdfliiaaGreatGM
set_option linter.all false
set_option maxRecDepth 100000
set_option maxHeartbeats 3000000
namespace Go.Proofs.YtafdcbmgdfliiaaGreat
open Go.RowKit Go.Sort Go.Proofs.Tryz
variable {w:Wd}{q:LI}{T:TypeId}{v:Value}{s:BA}
def CK(t:At)(c:Ad)(v:Ae)(z:Nat)(A:Ae)(ac:Nat)(fa:Ae)(fc:Nat)(p:Bd)(w:Wd)(hT:zY t=0)(hC:Ax c=0)(hf:Al Hi w fa t.fs)(x y:Ai)(xa ya:Ae)(xc yc:Nat)(a9:x.length<=2^47)(b0:y.length<=2^47)(hx:Al Ei w xa x)(hy:Al Ei w ya y):
 CV 212 #[Az t v z A ac fa fc,Ay c p,CU xa x.length xc,CU ya y.length yc] w (Gw t c x y):=by
 try delta Ay Az
 have HF:=I hf;have HX:=I hx;have HY:=I hy;have HT:=I hT;have HC:=I hC;have B:=(On hT).2.2;clear hf hx hy hT hC;delta CV;go_in;go_wp2_with fail;have HB:=I (Ab (J w (Ap t v z A ac fa fc)) (J _ (Aj c p)));have QT:=I (zd (o':=(Aj c p)) (zh w (Ap t v z A ac fa fc)));have QC:=I (zh (w.alloc (Ap t v z A ac fa fc)) (Aj c p));rw[zr]at QC;have⟨cb,Y⟩:=aT (w.heap.size+1);rw[<-Y]at QC;simp only[<-Y];clear Y;generalize (w.alloc (Ap t v z A ac fa fc)).alloc (Aj c p)=W at*;refine(kK t c v z A ac fa fc p W HT.1 (HF.1.below HB.1) x xa xc a9 (HX.1.below HB.1)).mono ?_;rintro e w1 ⟨rfl,H⟩;have C:=fE HB H;have Z:=fO QT H;have a0:=fO QC H;clear H HB QT QC;by_cases u:Cc t c x=0
 . have D:=I u;have⟨m,n,o,U⟩:=Ev Z.1;have⟨y0,y1,y2,y3,q,y5,y6,y7,y8,y9,K,L,M,N,V⟩:=Ek a0.1;rw[u];clear u;go_wp2_with fail;clear m n o U y0 y1 y2 y3 q y5 y6 y7 y8 y9 K L M N V;refine(kK t c v z A ac fa fc p w1 HT.1 (HF.1.below C.1) y ya yc b0 (HY.1.below C.1)).mono ?_;rintro e F ⟨rfl,P⟩;have j:=fE C P;have a1:=fO Z P;have a2:=fO a0 P;clear P C Z a0;by_cases X:Cc t c y=0
   . have G:=I X;obtain⟨a4,b1,_,_⟩:(Cm x (x.length-1)).1=(lstN x:Int)/\lstN x<t.fs.length/\1<=x.length/\x.length<=6:=⟨(Jl D.1).2.2.1,(Jl D.1).2.2.2,(Ka D.1).1,(Ka D.1).2.1⟩;obtain⟨a5,b2,_,_⟩:(Cm y 0).1=(fstN y:Int)/\fstN y<t.fs.length/\1<=y.length/\y.length<=6:=⟨(Jl G.1).1,(Jl G.1).2.1,(Ka G.1).1,(Ka G.1).2.1⟩;have HM:=I (aI a4 a5);have bx:=Tq HT.1 HC.1 D.1;have bY:=Tq HT.1 HC.1 G.1;have hw:IntKind.i64.wrap ((Bm t c y).1-(Bm t c x).2)=(Bm t c y).1-(Bm t c x).2:=by rw[wI];omega
     have r:∀w:Wd,(Instr.field 186 (.agg #[Bn (Bm t c y).1,Bn (Bm t c y).2]) 0).run prog w=.ok (Bn (Bm t c y).1) w:=λ_=>by kernel_rfl
     have s:∀w:Wd,(Instr.field 186 (.agg #[Bn (Bm t c x).1,Bn (Bm t c x).2]) 1).run prog w=.ok (Bn (Bm t c x).2) w:=λ_=>by kernel_rfl
     have g:=I (λdd os=>Fa (Vy t c v z A ac fa fc p (grow (redrawn F dd) os) HT.1 HC.1 (HF.1.below (Ab j.1 (bR F dd os))) y ya yc G.1 (HY.1.below (Ab j.1 (bR F dd os)))));have h:=I (λdd os=>Fa (Vy t c v z A ac fa fc p (grow (redrawn F dd) os) HT.1 HC.1 (HF.1.below (Ab j.1 (bR F dd os))) x xa xc D.1 (HX.1.below (Ab j.1 (bR F dd os)))));clear a4 a5;have⟨m,n,o,U⟩:=Ev a1.1;have⟨y0,y1,y2,y3,q,y5,y6,y7,y8,y9,K,L,M,N,V⟩:=Ek a2.1;rw[X];clear X;go_wp2_with fail;have Q:=cR m;have R:=cR n;have S:=cR o;have s0:=cR y0;have s1:=cR y1;have s2:=cR y2;have s3:=cR y3;have T:=cR q;have s5:=cR y5;have s6:=cR y6;have s7:=cR y7;have s8:=cR y8;have s9:=cR y9;have b3:=cR K;have b4:=cR L;have b5:=cR M;have b6:=cR N;refine SY ?_;repeat go_big_quiet_step (with_reducible first|exact g.1 _ _|exact h.1 _ _)
     refine wpQuiet_nil ?_;intro _ f;obtain⟨⟨i,a⟩,b⟩:=f;subst b;have d:=fE j (bR F i a);have a6:=fO a1 (bR F i a);have a3:=fO a2 (bR F i a);clear Q R S s0 s1 s2 s3 T s5 s6 s7 s8 s9 b3 b4 b5 b6 g h m n o U y0 y1 y2 y3 q y5 y6 y7 y8 y9 K L M N V r s j a1 a2;generalize grow (redrawn F i) a=l at*;have⟨m,n,o,U⟩:=Ev a6.1;have q:=Ks a3.1;have V:=Ag a3.1;clear a6 a3;have g:=I (λdd os=>Fa (eW t v z A ac fa fc (grow (redrawn l dd) os) (HF.1.below (Ab d.1 (bR l dd os))) B x xa xc ⟨by omega,by omega⟩ (HX.1.below (Ab d.1 (bR l dd os))) (lstN x) HM.1.1 b1));have h:=I (λdd os=>Fa (iU t v z A ac fa fc (grow (redrawn l dd) os) (HF.1.below (Ab d.1 (bR l dd os))) B y ya yc ⟨by omega,by omega⟩ (HY.1.below (Ab d.1 (bR l dd os))) (fstN y) HM.1.2 b2));have r:∀w:Wd,(Instr.field 122 (.agg #[B_ (Aa t.fs (lstN x)).num,B_ (Aa t.fs (lstN x)).fq,B_ (Aa t.fs (lstN x)).to,(Aa t.fs (lstN x)).dp,(Aa t.fs (lstN x)).ar,B_ (Aa t.fs (lstN x)).ty,(Aa t.fs (lstN x)).n0,(Aa t.fs (lstN x)).n1,(Aa t.fs (lstN x)).n2]) 2).run prog w=.ok (B_ (Aa t.fs (lstN x)).to) w:=λ_=>by kernel_rfl
     have s:∀w:Wd,(Instr.field 122 (.agg #[B_ (Aa t.fs (fstN y)).num,B_ (Aa t.fs (fstN y)).fq,B_ (Aa t.fs (fstN y)).to,(Aa t.fs (fstN y)).dp,(Aa t.fs (fstN y)).ar,B_ (Aa t.fs (fstN y)).ty,(Aa t.fs (fstN y)).n0,(Aa t.fs (fstN y)).n1,(Aa t.fs (fstN y)).n2]) 1).run prog w=.ok (B_ (Aa t.fs (fstN y)).fq) w:=λ_=>by kernel_rfl
     cases u:((Aa t.fs (lstN x)).to.toList==(Aa t.fs (fstN y)).fq.toList)
     . have E:=I (show Gw t c x y=14 by rw[Gw,iN (by simp[D.1]),iN (by simp[G.1]),iP (by simp[Ll,u])]);have a7:((Aa t.fs (lstN x)).to.toList !=(Aa t.fs (fstN y)).fq.toList)=true:=by simpa using u
       go_wp2_with fail;have Q:=cR m;have R:=cR n;have S:=cR o;have T:=cR q;refine SY ?_;repeat go_big_quiet_step (with_reducible first|exact g.1 _ _|exact h.1 _ _)
       refine wpQuiet_nil ?_;intro _ f;obtain⟨⟨i,a⟩,b⟩:=f;subst b;have k:=fE d (bR l i a);clear Q R S T g h m n o U q V r s d;generalize grow (redrawn l i) a=w4 at*;go_wp2;go_ret;exact hU E k
     have a7:((Aa t.fs (lstN x)).to.toList !=(Aa t.fs (fstN y)).fq.toList)=false:=by simpa using u
     by_cases X:(Bm t c y).1-(Bm t c x).2<0
     . have E:=I (show Gw t c x y=14 by rw[Gw,iN (by simp[D.1]),iN (by simp[G.1]),iP (by simp only[Ll,u,Bool.true_and,Bool.and_eq_false_iff,decide_eq_false_iff_not];exact .inl (by omega))]);have a8:decide ((Bm t c y).1-(Bm t c x).2<0)=true:=by simpa using X
       go_wp2_with fail;have Q:=cR m;have R:=cR n;have S:=cR o;have T:=cR q;refine SY ?_;repeat go_big_quiet_step (with_reducible first|exact g.1 _ _|exact h.1 _ _)
       refine wpQuiet_nil ?_;intro _ f;obtain⟨⟨i,a⟩,b⟩:=f;subst b;have k:=fE d (bR l i a);clear Q R S T g h m n o U q V r s d;generalize grow (redrawn l i) a=w4 at*;go_wp2;go_ret;exact hU E k
     have a8:decide ((Bm t c y).1-(Bm t c x).2<0)=false:=by simpa using X
     by_cases e2:c.lv<(Bm t c y).1-(Bm t c x).2
     . have E:=I (show Gw t c x y=14 by rw[Gw,iN (by simp[D.1]),iN (by simp[G.1]),iP (by simp only[Ll,u,Bool.true_and,Bool.and_eq_false_iff,decide_eq_false_iff_not];exact .inr (by omega))]);have b7:decide (c.lv<(Bm t c y).1-(Bm t c x).2)=true:=by simpa using e2
       go_wp2_with fail;have Q:=cR m;have R:=cR n;have S:=cR o;have T:=cR q;refine SY ?_;repeat go_big_quiet_step (with_reducible first|exact g.1 _ _|exact h.1 _ _)
       refine wpQuiet_nil ?_;intro _ f;obtain⟨⟨i,a⟩,b⟩:=f;subst b;have k:=fE d (bR l i a);clear Q R S T g h m n o U q V r s d;generalize grow (redrawn l i) a=w4 at*;go_wp2;go_ret;exact hU E k
     have E:=I (show Gw t c x y=0 by rw[Gw,iN (by simp[D.1]),iN (by simp[G.1]),iN (by simp only[Ll,u,Bool.true_and];simp;omega)]);have b7:decide (c.lv<(Bm t c y).1-(Bm t c x).2)=false:=by simpa using e2
     go_wp2_with fail;have Q:=cR m;have R:=cR n;have S:=cR o;have T:=cR q;refine SY ?_;repeat go_big_quiet_step (with_reducible first|exact g.1 _ _|exact h.1 _ _)
     refine wpQuiet_nil ?_;intro _ f;obtain⟨⟨i,a⟩,b⟩:=f;subst b;have k:=fE d (bR l i a);clear Q R S T g h m n o U q V r s d;generalize grow (redrawn l i) a=w4 at*;go_wp2;go_ret;exact hU E k
   have E:=I (show Gw t c x y=Cc t c y by rw[Gw,iN (by simp[D.1]),iP X]);have a8:=CN X
   go_wp2;go_ret;exact hU E j
 have E:=I (show Gw t c x y=Cc t c x by rw[Gw,iP u]);have a7:=CN u
 go_wp2;go_ret;exact hU E C
theorem zuG{t:At}{c:Ad}{e:Int}(h:Jn t c≠0):Sb t c e=Jn t c:=by
 grind[Jn,Sc,Se]
def kV(t:At)(c:Ad)(x y:Ai):Int:=(zdh (zp t (Aa t.fs (lstN x)).to).name.data.toList (zp t (Aa t.fs (lstN x)).to).off (zp t (Aa t.fs (lstN x)).to).sh (Bm t c x).2 (Bm t c y).1 c.nf c.nt).1
def rK(t:At)(x:Ai)(s:BA):Int:=if((Aa t.fs (lstN x)).to.toList==s.toList)=true then 1 else 0
def Wh(t:At)(c:Ad)(s:BA)(x y:Ai)(qx qy:LI)(nb:Bool):LI:=((Bm t c y).1-(Bm t c x).2)::(if nb=true then kV t c x y else 0)::rK t x s::(qx++qy)
def VW{t:At}(a:zY t=0)(s:BA):(zp t s).sh.length<=16:=Vz a s
def kZ{b off:Nat}(h:∀i,i<q.length->w.cell? (aD b (off+i))=some (Bn (Am q i))):∀j u,(q.map (Value.int .i64))[j]?=some u->w.cell? (Addr.add (aD b off) j)=some u:=by
 intro j u a;rw[List.getElem?_map]at a;by_cases c:j<q.length;rw[Cz c]at a;have e:u=Bn (Am q j):=by
  simp at a;rw[<-a];simp[Am,c]
 rw[e,<-h j c];unfold Addr.add;split
 next h0=>rw[h0];rfl
 rfl;rw[List.getElem?_eq_none (by omega)]at a;cases a
def kY(q:LI):∀u∈q.map (Value.int .i64),u.oneCell'=true:=by
 intro u a;obtain⟨n,_,rfl⟩:=List.mem_map.1 a;rfl
def zuu(w:Wd)(sb:Nat)(t:At)(c:Ad)(P:Dh)(hS:Hl w sb t c P)(s:BA)(x y:Ai)(xa ya:Ae)(xc yc:Nat)(hx:Cc t c x=0)(hy:Cc t c y=0)(c4:Al Ei w xa x)(c5:Al Ei w ya y)(D E:LI)(qa ra:Ae)(qc rc:Nat)(c6:D.length=11)(c7:E.length=11)(c8:zW w qa D)(c9:zW w ra E):
 Calls prog 99 #[.pointer (some (aD sb 0)),B_ s,CU xa x.length xc,CU ya y.length yc,CU qa 11 qc,CU ra 11 rc,.bool true] w λe m=>∃v,e=.returned v/\m.ownsRow w.heap.size 3 1 v 25 ((Wh t c s x y D E true).map (Value.int .i64))/\Bw w m:=by
 have g4:∀w:Wd,(Instr.makeSlice 22 (.int .i64 0) (.int .i64 25)).run prog w=.ok (CU (some (aD w.heap.size 0)) 0 25) (w.alloc jE):=λ_=>by kernel_rfl
 have⟨i0,hi,H,L,M⟩:=info_parts bV;obtain⟨qb,b1,rfl,g5,d0⟩:=c8.cells (by omega);obtain⟨rb,b2,rfl,g6,d1⟩:=c9.cells (by omega);have d2:=I (λW (h:Bw w W)=>λi hi=>zj (d0 i hi) g5 h);have d3:=I (λW (h:Bw w W)=>λi hi=>zj (d1 i hi) g6 h);have a0:=I (aI c6 c7);clear c6 c7;have HS:=I hS;have HX:=I hx;have HY:=I hy;have d4:=I c4;have g7:=I c5;obtain⟨g8,d5,d6,g9⟩:fstN x<t.fs.length/\lstN x<t.fs.length/\fstN y<t.fs.length/\lstN y<t.fs.length:=⟨(Jl hx).2.1,(Jl hx).2.2.2,(Jl hy).2.1,(Jl hy).2.2.2⟩;have tx:=Lu hS.okT d5;have ty:=Lu hS.okT d6;have cr:=Ul hS.okC;have e1:(Bm t c y).1=(Aa t.fs (fstN y)).dp-c.rp:=rfl;have e2:(Bm t c x).2=(Aa t.fs (lstN x)).ar+c.rl:=rfl;have⟨f,a1⟩:=aT ((Bm t c y).1);have⟨g,a2⟩:=aT ((Bm t c x).2);have hw:IntKind.i64.wrap (f-g)=f-g:=by rw[wI,a1,a2,e1,e2];omega
 have F:=I (aI a1 a2);have⟨l,b4⟩:=aT ((Aa t.fs (lstN x)).to);have b5:=I b4;have X:=I (show Wh t c s x y D E true=(f-g)::(if true=true then kV t c x y else 0)::(if(l.toList==s.toList)=true then 1 else 0)::(D++E) by rw[Wh,rK,a1,a2,b4]);have FD:=I (aI (λ(a b:Int) (w:Wd)=>(by kernel_rfl:(Instr.field 186 (.agg #[a,b]) 1).run prog w=.ok (.int .i64 b) w)) (λ(a b:Int) (w:Wd)=>(by kernel_rfl:(Instr.field 186 (.agg #[a,b]) 0).run prog w=.ok (.int .i64 a) w)));clear hS hx hy c4 c5 c8 c9 d0 d1 tx ty cr e1 e2 a1 a2 b4 g8 d5 d6 g9;go_in;go_wp2_with fail;have a3:=I (J w jE);have d7:Af (World.ownsRow (w.alloc jE) w.heap.size 3 1 (CU (some (aD w.heap.size 0)) 0 25) 0 []):=I ⟨rfl,.inr ⟨w.heap.size,25,_,rfl,Bv _,zh w jE,by omega,by unfold maxLen;omega,rfl,rfl⟩⟩;generalize w.alloc jE=W1 at*;refine ca (To W1 sb t c P (HS.1.below a3.1) x xa xc HX.1 (d4.1.below a3.1)) λw2 b6=>?_;have a4:=fE a3 b6;have f2:=I (Sk d7.1 b6);clear b6 a3 d7 g4;have f1:=FD.1.1 (Bm t c x).1 (Bm t c x).2;go_wp2_with fail;clear f1;refine ca (To w2 sb t c P (HS.1.below a4.1) y ya yc HY.1 (g7.1.below a4.1)) λw3 b7=>?_;have h0:=fE a4 b7;have h1:=I (Sk f2.1 b7);clear b7 a4 f2;rw[<-F.1.2];have f0:=FD.1.2 (Bm t c y).1 (Bm t c y).2;go_wp2_with fail;rw[<-F.1.1];clear f0;have b8:=fE h0 (J w3 (oQ g f));have h2:=I (Sk h1.1 (J w3 (oQ g f)));have QP:=I (zh w3 (oQ g f));have⟨N,b9⟩:=aT w3.heap.size;rw[<-b9]at QP;simp only[<-b9];clear b9;generalize w3.alloc (oQ g f)=w4 at*;refine cb (Jy w4 sb t c P (HS.1.below b8.1) x xa xc HX.1 (d4.1.below b8.1)) ?_;rw[<-b5.1];have hn:=I (show Wh t c s x y D E true=(f-g)::(zdh (zp t l).name.data.toList (zp t l).off (zp t l).sh g f c.nf c.nt).1::(if(l.toList==s.toList)=true then 1 else 0)::(D++E) by rw[X.1];simp only[kV,F.1.1,F.1.2,b5.1,if_true]);replace X:=hn;have h3:=I (VW HS.1.okT l);have d8:=Jg HS.1.box;have d9:=Mg HS.1.box;have a5:=HS.1.lt;have Q:=I b8.1.drew;have f3:Af (w4.drew.ownsRow w.heap.size 3 1 (CU (some (aD w.heap.size 0)) 0 25) 0 []):=h2;have a6:Af (w4.drew.heap[N]?=some (oQ g f)):=QP;have d:w4.drew.cell? (aD N 0)=some (.int .i64 g)/\w4.drew.cell? (aD N 1)=some (.int .i64 f)/\w4.drew.cell? (aD sb 8)=some (.int .i64 c.nf)/\w4.drew.cell? (aD sb 9)=some (.int .i64 c.nt):=⟨EE 0 a6.1 rfl,EE 1 a6.1 rfl,zj d8 a5 Q.1,zj d9 a5 Q.1⟩;have Y:=Ag a6.1;have a7:=As a5 Q.1.size;obtain⟨Wd,c0⟩:∃Wd,w4.drew=Wd:=⟨_,rfl⟩;rw[c0]at Q f3 a6 d Y a7;have c1:=I (iW w Wd sb t c P HS.1 Q.1 (Aa t.fs (lstN x)).to);rw[<-b5.1]at c1;clear d8 d9 a5;go_wp2_with fail;refine Ys (λm=>m.cell? (aD N 0)=some (.int .i64 g)/\m.cell? (aD N 1)=some (.int .i64 f)/\m.cell? (aD sb 8)=some (.int .i64 c.nf)/\m.cell? (aD sb 9)=some (.int .i64 c.nt)) [] (by kernel_rfl) c0 ?_;clear c0;refine zx (i:=0) (v:=.pointer (some (aD sb 0))) rfl (λm hS'=>?_) d ?_
 obtain⟨S,T,U,V⟩:=hS';go_simp;try simp only[Act.put,O]
 refine zx (i:=1) (v:=B_ l) rfl (λm hS'=>?_) d ?_;obtain⟨S,T,U,V⟩:=hS';go_simp;try simp only[Act.put,O]
 refine zx (i:=3) (v:=.agg #[g,f]) rfl (λm hS'=>?_) d ?_;obtain⟨S,T,U,V⟩:=hS';go_simp;try simp only[Act.put,O]
 refine zx (i:=4) (v:=.pointer (some (aD sb 0))) rfl (λm hS'=>?_) d ?_;obtain⟨S,T,U,V⟩:=hS';go_simp;try simp only[Act.put,O]
 refine zx (i:=5) (v:=.pointer (some (aD sb 0))) rfl (λm hS'=>?_) d ?_;obtain⟨S,T,U,V⟩:=hS';go_simp;try simp only[Act.put,O]
 refine zx (i:=6) (v:=.pointer (some (aD sb 3))) rfl (λm hS'=>?_) d ?_;obtain⟨S,T,U,V⟩:=hS';go_simp;try simp only[Act.put,O]
 refine zx (i:=7) (v:=.pointer (some (aD sb 8))) rfl (λm hS'=>?_) d ?_;obtain⟨S,T,U,V⟩:=hS';go_simp;try simp only[Act.put,O]
 refine zx (i:=8) (v:=.int .i64 c.nf) rfl (λm hS'=>?_) d ?_;obtain⟨S,T,U,V⟩:=hS';go_simp;try simp only[Act.put,O]
 refine zx (i:=9) (v:=.pointer (some (aD sb 0))) rfl (λm hS'=>?_) d ?_;obtain⟨S,T,U,V⟩:=hS';go_simp;try simp only[Act.put,O]
 refine zx (i:=10) (v:=.pointer (some (aD sb 0))) rfl (λm hS'=>?_) d ?_;obtain⟨S,T,U,V⟩:=hS';go_simp;try simp only[Act.put,O]
 refine zx (i:=11) (v:=.pointer (some (aD sb 3))) rfl (λm hS'=>?_) d ?_;obtain⟨S,T,U,V⟩:=hS';go_simp;try simp only[Act.put,O]
 refine zx (i:=12) (v:=.pointer (some (aD sb 9))) rfl (λm hS'=>?_) d ?_;obtain⟨S,T,U,V⟩:=hS';go_simp;try simp only[Act.put,O]
 refine zx (i:=13) (v:=.int .i64 c.nt) rfl (λm hS'=>?_) d ?_;obtain⟨S,T,U,V⟩:=hS';go_simp;try simp only[Act.put,O]
 refine QY (i:=2) rfl λK hK=>?_;go_simp;refine c1.1.mono ?_;rintro e w5 ⟨za,f4,rfl,f5,f6,h4,r⟩;have f7:=fE Q r;have h5:=I (Sk f3.1 r);have R:=zy (zj d.1 Y r) (zy (zj d.2.1 Y r) (zy (zj d.2.2.1 a7 r) (zj d.2.2.2 a7 r)));have Z:N<w5.heap.size:=As Y r.size;have b3:sb<w5.heap.size:=As a7 r.size;have HN:=I (Nz (zp t l).name (zp t l).off g f c.nf c.nt (zp t l).sh za f4 w5 (by have:=f6;unfold maxLen;omega) (by have:=h3.1;omega) (f5.below f7.1));clear f5 f6 h4 r c1;refine hK.1 _ _ (λ_ _=>R) ?_;clear hK K;try simp only[Act.put,O]
 refine QY (i:=14) rfl λK hK=>?_;go_simp;refine HN.1.mono ?_;rintro e w6 ⟨rfl,z⟩;have a8:=fE f7 z;have a9:=I (Sk h5.1 z);have b0:=zy (zj R.1 Z z) (zy (zj R.2.1 Z z) (zy (zj R.2.2.1 b3 z) (zj R.2.2.2 b3 z)));have f8:N<w6.heap.size:=As Z z.size;clear z HN;refine hK.1 _ _ (λ_ _=>b0) ?_;clear hK K;try simp only[Act.put,O]
 refine zT (i:=15) (v:=.tuple #[.int .i64 (zdh (zp t l).name.data.toList (zp t l).off (zp t l).sh g f c.nf c.nt).1,.int .i64 (zdh (zp t l).name.data.toList (zp t l).off (zp t l).sh g f c.nf c.nt).2]) rfl (λm=>?_) ?_;go_simp;try simp only[Act.put,O]
 refine zT (i:=16) (v:=.int .i64 (zdh (zp t l).name.data.toList (zp t l).off (zp t l).sh g f c.nf c.nt).1) rfl (λm=>?_) ?_;go_simp;try simp only[Act.put,O]
 refine zT (i:=17) (v:=.int .i64 (zdh (zp t l).name.data.toList (zp t l).off (zp t l).sh g f c.nf c.nt).2) rfl (λm=>?_) ?_;go_simp;try simp only[Act.put,O]
 refine QY (i:=18) rfl λK hK=>?_;go_simp;refine hK.1 _ _ (λ_ h=>h) ?_;clear hK K;try simp only[Act.put,O]
 refine zM (by kernel_rfl) ?_;have G:=aI b0.1 b0.2.1;have Y:=f8;have⟨ni,f9⟩:=aT ((zdh (zp t l).name.data.toList (zp t l).off (zp t l).sh g f c.nf c.nt).1);simp only[<-f9]at X ⊢;clear f9 d R b0;by_cases hh:(l.toList==s.toList)=true
 . have h6:=hh;have hj:=I (X.1.trans (by rw[iP hh]):Wh t c s x y D E true=(f-g)::ni::1::(D++E));clear hh;have p0:w6.cell? (aD N 0)=some (.int .i64 g):=G.1;have p1:w6.cell? (aD N 1)=some (.int .i64 f):=G.2;go_wp2_with (at_builtin;refine wpList_append_own _ rfl _ _ 22 rfl w.heap.size 3 i0 (.int .i64 0) 1 8 underlying22 hi H L M rfl (by decide) _ _ _ rfl (a9.1.alloc _) (aD w6.heap.size 0) 3 3 [.int .i64 (f-g),.int .i64 ni,.int .i64 1] rfl ?c0a ?c1a ?c2a ?c3a ?c4a ?c5a ?_)
   case c0a=>rfl
   case c1a=>exact Hh w6 [.int .i64 (f-g),.int .i64 ni,.int .i64 1] 3
   case c2a=>intro u hu;simp at hu;rcases hu with rfl|rfl|rfl <;> rfl
   case c3a=>unfold maxLen;omega
   case c4a=>omega
   case c5a=>have:=a8.1.size;simp;omega
   intro v1 x1 n A _;have B1:=I (Ld (e':=3) a8.1 rfl a9.1 A);have O1:=I n;have c2:=I (d2.1 _ B1.1);clear n A p0 p1;go_wp2_with (at_builtin;refine wpList_append_own _ rfl _ _ 22 rfl w.heap.size 3 i0 (.int .i64 0) 1 8 underlying22 hi H L M rfl (by decide) _ _ _ rfl O1.1 (aD qb b1) 11 qc (D.map (Value.int .i64)) rfl ?c0b ?c1b ?c2b ?c3b ?c4b ?c5b ?_)
   case c0b=>rw[List.length_map,a0.1.1]
   case c1b=>exact kZ c2.1
   case c2b=>exact kY D
   case c3b=>unfold maxLen;omega
   case c4b=>omega
   case c5b=>exact B1.1.size
   intro v2 x2 p B _;have B2:=I (B1.1.grown B B1.1.size (λk hk=>Lt O1.1 k hk));have O2:=I p;have c3:=I (d3.1 _ B2.1);clear p B;go_wp2_with (at_builtin;refine wpList_append_own _ rfl _ _ 22 rfl w.heap.size 3 i0 (.int .i64 0) 1 8 underlying22 hi H L M rfl (by decide) _ _ _ rfl O2.1 (aD rb b2) 11 rc (E.map (Value.int .i64)) rfl ?c0c ?c1c ?c2c ?c3c ?c4c ?c5c ?_)
   case c0c=>rw[List.length_map,a0.1.2]
   case c1c=>exact kZ c3.1
   case c2c=>exact kY E
   case c3c=>unfold maxLen;omega
   case c4c=>omega
   case c5c=>exact B2.1.size
   intro v3 x3 q C _;have B3:=I (B2.1.grown C B2.1.size (λk hk=>Lt O2.1 k hk));have O3:=I q;clear q C;go_wp2;go_ret;exact⟨v3,rfl,by rw[hj.1];simpa using O3.1,B3.1⟩
 have h6:(l.toList==s.toList)=false:=by simpa using hh
 have hj:=I (X.1.trans (by rw[iN hh]):Wh t c s x y D E true=(f-g)::ni::0::(D++E));clear hh;have p0:w6.cell? (aD N 0)=some (.int .i64 g):=G.1;have p1:w6.cell? (aD N 1)=some (.int .i64 f):=G.2;go_wp2_with (at_builtin;refine wpList_append_own _ rfl _ _ 22 rfl w.heap.size 3 i0 (.int .i64 0) 1 8 underlying22 hi H L M rfl (by decide) _ _ _ rfl (a9.1.alloc _) (aD w6.heap.size 0) 3 3 [.int .i64 (f-g),.int .i64 ni,.int .i64 0] rfl ?c0a ?c1a ?c2a ?c3a ?c4a ?c5a ?_)
 case c0a=>rfl
 case c1a=>exact Hh w6 [.int .i64 (f-g),.int .i64 ni,.int .i64 0] 3
 case c2a=>intro u hu;simp at hu;rcases hu with rfl|rfl|rfl <;> rfl
 case c3a=>unfold maxLen;omega
 case c4a=>omega
 case c5a=>have:=a8.1.size;simp;omega
 intro v1 x1 n A _;have B1:=I (Ld (e':=3) a8.1 rfl a9.1 A);have O1:=I n;have c2:=I (d2.1 _ B1.1);clear n A p0 p1;go_wp2_with (at_builtin;refine wpList_append_own _ rfl _ _ 22 rfl w.heap.size 3 i0 (.int .i64 0) 1 8 underlying22 hi H L M rfl (by decide) _ _ _ rfl O1.1 (aD qb b1) 11 qc (D.map (Value.int .i64)) rfl ?c0b ?c1b ?c2b ?c3b ?c4b ?c5b ?_)
 case c0b=>rw[List.length_map,a0.1.1]
 case c1b=>exact kZ c2.1
 case c2b=>exact kY D
 case c3b=>unfold maxLen;omega
 case c4b=>omega
 case c5b=>exact B1.1.size
 intro v2 x2 p B _;have B2:=I (B1.1.grown B B1.1.size (λk hk=>Lt O1.1 k hk));have O2:=I p;have c3:=I (d3.1 _ B2.1);clear p B;go_wp2_with (at_builtin;refine wpList_append_own _ rfl _ _ 22 rfl w.heap.size 3 i0 (.int .i64 0) 1 8 underlying22 hi H L M rfl (by decide) _ _ _ rfl O2.1 (aD rb b2) 11 rc (E.map (Value.int .i64)) rfl ?c0c ?c1c ?c2c ?c3c ?c4c ?c5c ?_)
 case c0c=>rw[List.length_map,a0.1.2]
 case c1c=>exact kZ c3.1
 case c2c=>exact kY E
 case c3c=>unfold maxLen;omega
 case c4c=>omega
 case c5c=>exact B2.1.size
 intro v3 x3 q C _;have B3:=I (B2.1.grown C B2.1.size (λk hk=>Lt O2.1 k hk));have O3:=I q;clear q C;go_wp2;go_ret;exact⟨v3,rfl,by rw[hj.1];simpa using O3.1,B3.1⟩
def Pp(t:At)(c:Ad)(s:BA)(x y:Ai):LI:=Wh t c s x y (Bo t c x) (Bo t c y) true
def WI(w:Wd)(sb:Nat)(t:At)(c:Ad)(P:Dh)(F:Hl w sb t c P)(s:BA)(x y:Ai)(r u:Ae)(z A:Nat)(G:Cc t c x=0)(H:Cc t c y=0)(h:Al Ei w r x)(i:Al Ei w u y):
 Calls prog 48 #[Ua sb 0,B_ s,CU r x.length z,CU u y.length A] w λe w'=>∃a f,e=.returned (CU a 25 f)/\zW w' a (Pp t c s x y)/\Bw w w':=by
 have B:=I F;have K:=I G;have L:=I H;have j:=I h;have k:=I i;go_in;go_wp2_with fail;refine(gE w sb t c P B.1 x r z K.1 j.1).mono ?_;rintro e Q ⟨R,rfl,m,n⟩;have b:=I n;have o:=I m;go_wp2_with fail;refine(gE Q sb t c P (B.1.below b.1) y u A L.1 (k.1.below b.1)).mono ?_;rintro e S ⟨T,rfl,p,g⟩;have d:=fE b g;have C:=I p;have D:=I (o.1.below g);go_wp2_with fail;refine(zuu S sb t c P (B.1.below d.1) s x y r u z A K.1 L.1 (j.1.below d.1) (k.1.below d.1) (Bo t c x) (Bo t c y) (some (aD R 0)) (some (aD T 0)) 11 11 rfl rfl D.1 C.1).mono ?_;rintro e V ⟨v,rfl,M,q⟩;obtain⟨a,f,rfl,N⟩:=zW.of_own (l:=Pp t c s x y) M;have U:=I N;have E:=fE d q;go_wp2;go_ret;exact⟨a,f,rfl,U.1,E.1⟩
def Uy(w:Wd)(t:At)(c:Ad)(a:Ae)(b:Nat)(d:Ae)(ac:Nat)(fa:Ae)(fc:Nat)(p:Bd):Bw w ((w.alloc (Ap t a b d ac fa fc)).alloc (Aj c p))/\((w.alloc (Ap t a b d ac fa fc)).alloc (Aj c p)).heap[w.heap.size]?=some (Ap t a b d ac fa fc)/\((w.alloc (Ap t a b d ac fa fc)).alloc (Aj c p)).heap[w.heap.size+1]?=some (Aj c p):=
 ⟨Ab (J w _) (J _ _),zd (zh w _),by have h:=zh (w.alloc (Ap t a b d ac fa fc)) (Aj c p);rw[zr]at h;exact h⟩
def fT{q:Nat}{a b:Value}(h:w.heap[q]?=some (Obj.cells #[a,b] T)):w.cell? (aD q 0)=some a/\w.cell? (aD q 1)=some b/\w.frozen? (aD q 0)=false/\w.frozen? (aD q 1)=false/\q<w.heap.size:=⟨EE 0 h rfl,EE 1 h rfl,E_ 0 h,E_ 1 h,Ag h⟩
theorem dI{B:Nat}{s:Nat}{n nq:Nat}{xs xq:LV}(h:w.ownsRow B T s v n xs)(a:n=nq)(b:xs=xq):w.ownsRow B T s v nq xq:=by simp_all
theorem rJ{c:Nat}{N:LB}(h:w.ownsRow c 116 2 v q.length (Lv N q q.length))(d:q.length=N.length)(o:0<q.length):∃(g b:Nat) (a:Array Value),v=Kx g 0 q.length b/\w.heap[g]?=some (Obj.cells a 116)/\∀i,i<q.length->a[i*2+1]?=some (Bn (Am q i)):=by
 rcases h.2 with⟨f,p⟩|⟨g,b,a,rfl,f,j,k,l,m,n⟩;omega;refine⟨g,b,a,rfl,j,λi hi=>?_⟩;have⟨r,e⟩:=iB N q d q.length (Bv _) i hi;grind[qL]
theorem zuA{k:Nat}(h:k<q.length):q.take (k+1)=q.take k++ [Am q k]:=by
 simp_all[Am]
def WJ(t:At)(c:Ad)(za:Ae)(zc:Nat)(aa:Ae)(ac:Nat)(fa:Ae)(fc:Nat)(p:Bd)(w:Wd)(hT:zY t=0)(hC:Ax c=0)(hz:Al Nc w za t.zn)(ha:Al Mk w aa t.ai)(hf:Al Hi w fa t.fs)(s:BA)(x y:Ai)(xa ya:Ae)(xc yc:Nat)(M:Cc t c x=0)(a9:Cc t c y=0)(hx:Al Ei w xa x)(hy:Al Ei w ya y):
 Calls prog 213 #[Az t za zc aa ac fa fc,Ay c p,B_ s,CU xa x.length xc,CU ya y.length yc] w (Tu w (zk 2) (Pp t c s x y)):=by
 try delta Ay Az
 have⟨i0,hi,d1,d2,d3⟩:=info_parts bV;have HT:=I hT;have HC:=I hC;have HZ:=I hz;have HA:=I ha;have HF:=I hf;have d4:=I M;have d5:=I a9;have b0:=I hx;have d6:=I hy;obtain⟨d7,d8,k5,k6⟩:(Cm x (x.length-1)).1=(lstN x:Int)/\lstN x<t.fs.length/\1<=x.length/\x.length<=6:=⟨(Jl M).2.2.1,(Jl M).2.2.2,(Ka M).1,(Ka M).2.1⟩;have bx:=Tq hT hC M;have bY:=Tq hT hC a9;have b1:=(On hT).2.2;have HM:=I d7;have⟨r,V⟩:=aT ((Bm t c y).1);have⟨z,X⟩:=aT ((Bm t c x).2);have⟨B,a5⟩:=aT ((Aa t.fs (lstN x)).to);have HK:=I (show Ao (t.ai.map Bh.code) B=true by rw[a5];exact(eO hT d8).2);have hw:IntKind.i64.wrap (r-z)=r-z:=by rw[wI,V,X];omega
 have⟨S,b2⟩:=C_ ((zdh (zp t B).name.data.toList (zp t B).off (zp t B).sh z r c.nf c.nt).1);have⟨P,b3⟩:=C_ (Iw (B.toList==s.toList));have d9:=I b3.symm;have j1:=I b2.symm;have j2:=I (Vz hT B);have HQ:=I (show Pp t c s x y=([r-z,S,P]++Bo t c x)++Bo t c y by
  rw[Pp,Wh,V,X,b2,b3,iP rfl,kV,rK,a5,V,X,Iw];rfl)
 have f0:=I V.symm;have f7:=I X.symm;have j3:=I a5.symm;have FD:=I (aI (λw:Wd=>(by kernel_rfl:(Instr.field 186 (.agg #[Bn (Bm t c x).1,z]) 1).run prog w=.ok (Bn z) w)) (λw:Wd=>(by kernel_rfl:(Instr.field 186 (.agg #[r,Bn (Bm t c y).2]) 0).run prog w=.ok (Bn r) w)));clear hT hC hz ha hf M a9 hx hy d7 bx bY V X a5 b3 b2;go_in;go_wp2_with fail;have⟨hB,T,b4⟩:=Uy w t c za zc aa ac fa fc p;have Q:=I hB;have⟨cb,b5⟩:=aT (w.heap.size+1);rw[<-b5]at b4;simp only[<-b5];clear b5 hB;generalize (w.alloc (Ap t za zc aa ac fa fc)).alloc (Aj c p)=W at*;have QT:=I T;have QC:=I b4;clear T b4;refine' Gf [⟨20, [],.kn _⟩,⟨21, [],.kn _⟩,⟨22, [],.kn _⟩,⟨23, [20,21,22],.kn (.agg #[Bn (Bm t c x).1,z])⟩,⟨24, [23],.kn _⟩,⟨25, [],.kn _⟩,⟨26, [],.kn _⟩,⟨27, [],.kn _⟩,⟨28, [25,26,27],.kn (.agg #[r,Bn (Bm t c y).2])⟩,⟨29, [28],.kn _⟩,⟨30, [24,29],.kn _⟩,⟨11, [],.bx jP⟩,⟨1012, [11,30],.st 11 30 λ_ o=>o=(oQ z r)⟩] [3,4,5,6] [1012] (λ_ h=>aI (Ev (Ac h QT.1)) (Ek (Ac h QC.1))) ?h3 ?c3 ?f3
 case h3=>
  intro u;simp only[Df,↓reduceIte,Nat.reduceEqDiff];intros;have f1:=FD.1.1;have f2:=FD.1.2;and_intros
  all_goals try (first|trivial|(intros;refine Fy (by assumption) ?_;go_simp <;> rfl))
  intro A L e j g f1 f2 f3 K k;go_simp;refine(Vy t c za zc aa ac fa fc p L HT.1 HC.1 (HF.1.below (Ab Q.1 j)) x xa xc d4.1 (b0.1.below (Ab Q.1 j))).mono ?_;rintro e' w2 ⟨rfl,h⟩;exact k.1 _ _ ⟨h,by first|rfl|rw[f0.1]|rw[f7.1]⟩;intro A L e j g f1 f2 f3 K k;go_simp;refine(Vy t c za zc aa ac fa fc p L HT.1 HC.1 (HF.1.below (Ab Q.1 j)) y ya yc d5.1 (d6.1.below (Ab Q.1 j))).mono ?_;rintro e' w2 ⟨rfl,h⟩;exact k.1 _ _ ⟨h,by first|rfl|rw[f0.1]|rw[f7.1]⟩;intro A L e j g K k;go_simp;exact k.1 _ _ ⟨J _ _,rfl,zh _ _⟩;rintro A L e j g ⟨p,U,_,G⟩ h3 K k;have⟨z0,z1,g0,g1,gl⟩:=fT G;go_simp;exact k.1 undef _ ⟨p,_,U,Qz (Qz (dP p L)),zg (i:=1) (zg (i:=0) G),rfl⟩
 case c3=>kernel_rfl
 intro u w3 j;simp only[Df,Hu,Act.put,O,↓reduceIte,Nat.reduceEqDiff];rintro⟨sp,_,e1,_,f8,rfl⟩;rw[e1];have T:=Ac j QT.1;have a6:=fE Q j;have f9:=fO QC j;have QS:=I f8;have g2:=I T;have⟨x0,x1,x2,xl⟩:=Ev T;clear T f8 Q QT QC j e1;have g3:∀w:Wd,(Instr.field 122 (.agg #[B_ (Aa t.fs (lstN x)).num,B_ (Aa t.fs (lstN x)).fq,B_ (Aa t.fs (lstN x)).to,(Aa t.fs (lstN x)).dp,(Aa t.fs (lstN x)).ar,B_ (Aa t.fs (lstN x)).ty,(Aa t.fs (lstN x)).n0,(Aa t.fs (lstN x)).n1,(Aa t.fs (lstN x)).n2]) 2).run prog w=.ok (B_ (Aa t.fs (lstN x)).to) w:=λ_=>by kernel_rfl
 go_wp2_with fail;refine(eW t za zc aa ac fa fc w3 (HF.1.below a6.1) b1 x xa xc ⟨by omega,by omega⟩ (b0.1.below a6.1) (lstN x) HM.1 d8).mono ?_;rintro e w4 ⟨rfl,Y⟩;rw[j3.1]at g3 ⊢;have b6:=fO g2 Y;have b7:=fO f9 Y;have b8:=fO QS Y;have D:=fE a6 Y;clear Y a6 g2 f9 QS x0 x1 x2 xl;go_wp2_with fail;clear g3;refine' Gf [⟨36, [],.kn _⟩,⟨37, [],.kn _⟩,⟨38, [36,37],.pu λv=>∃a k,v=.agg #[B_ (zp t B).name,(zp t B).off,CU a (zp t B).sh.length k]/\Cj w a (zp t B).sh/\(zp t B).name.size<=2^47⟩,⟨39, [],.kn _⟩,⟨40, [],.kn _⟩,⟨41, [40],.kn _⟩,⟨42, [],.kn _⟩,⟨43, [42],.kn _⟩,⟨44, [38,39,41,43],.kn (.tuple #[Bn (zdh (zp t B).name.data.toList (zp t B).off (zp t B).sh z r c.nf c.nt).1,Bn (zdh (zp t B).name.data.toList (zp t B).off (zp t B).sh z r c.nf c.nt).2])⟩,⟨35, [44],.kn _⟩,⟨45, [35],.kn _⟩,⟨46, [35],.kn _⟩,⟨13, [45],.kn _⟩,⟨14, [46],.kn _⟩] [5,6,11,12] [13,14] (λ_ h=>aI (Ev (Ac h b6.1)) (aI (Ek (Ac h b7.1)) (Kk (Ac h b8.1)))) ?h4 ?c4 ?f4
 case h4=>
  intro u;simp only[Df,↓reduceIte,Nat.reduceEqDiff];intros;and_intros
  all_goals try (first|trivial|(intros;refine Fy (by assumption) ?_;go_simp <;> rfl))
  intro A L e j g f1 f2 K k;go_simp;refine(fV t za zc aa ac fa fc L HT.1 w (Ab D.1 j) HZ.1 HA.1 B HK.1).mono ?_;rintro e' w2 ⟨a,q,rfl,G,h3,_,h4⟩;exact k.1 _ _ ⟨h4,a,q,rfl,G,h3⟩;rintro A L e j g ⟨a,q,U,G,h3⟩ f2 f3 f4 K k;go_simp;refine(US (zp t B).name (zp t B).off z r c.nf c.nt (zp t B).sh a q L (by unfold maxLen;omega) (by have:=j2.1;omega) (G.below (Ab D.1 j))).mono ?_;rintro e' w2 ⟨rfl,h⟩;exact k.1 _ _ ⟨h,rfl⟩
 case c4=>kernel_rfl
 intro u1 w6 j;simp only[Df,Hu,Act.put,O,↓reduceIte,Nat.reduceEqDiff];intro U G;rw[U,G,j1.1];have g4:=fO b8 j;have g5:=fO b6 j;have g6:=fO b7 j;have b9:=fE D j;clear j U G D b8 b6 b7;go_wp2_with fail;refine' Gf [⟨47, [],.kn _⟩,⟨48, [47],.kn _⟩,⟨49, [],.kn _⟩,⟨50, [49],.kn _⟩,⟨51, [48,50],.kn _⟩,⟨52, [],.kn _⟩,⟨53, [],.kn _⟩,⟨54, [],.kn _⟩,⟨55, [53,54],.kn _⟩,⟨56, [55],.kn (Bn P)⟩,⟨57, [51,52,56],.bs 3 3 (.cells [Bn (r-z),Bn S,Bn P].toArray 3)⟩,⟨15, [57],.cp 57⟩] [2,11,12,13] [57,15] (λ_ h=>Kk (Ac h g4.1)) ?h5 ?c5 ?f5
 case h5=>
  intro u;simp only[Df,↓reduceIte,Nat.reduceEqDiff];intros;and_intros
  all_goals try (first|trivial|(intros;refine Fy (by assumption) ?_;go_simp <;> rfl))
  intro A L e j g f1 K k;go_simp;refine(bG _ _).mono ?_;rintro e' w2 ⟨rfl,rfl⟩;exact k.1 _ _ ⟨An _ _,by rw[d9.1]⟩;intro A L e j g f1 f2 f3 K k;go_simp;exact k.1 _ (L.alloc (.cells [Bn (r-z),Bn S,Bn P].toArray 3)) ⟨J _ _,rfl,zh _ _⟩
 case c5=>kernel_rfl
 intro u2 w8 j;simp only[Df,Hu,Act.put,O,↓reduceIte,Nat.reduceEqDiff];rintro⟨vb,U,G,h3⟩ h4;rw[h4,U];have g7:w.heap.size<=vb:=Bf b9.1.size G;have g8:=fO g5 j;have g9:=fO g6 j;have E:=fE b9 j;have h0:=I h3;have h7:=I g7;clear j U G h3 h4 b9 g5 g6 g4 hw d9 g7;go_wp2_with fail;refine' Gf [⟨58, [],.kn _⟩,⟨59, [],.kn _⟩,⟨60, [],.kn _⟩,⟨61, [58,59,60],.ow (λv w'=>∃g N H,v=Kx g 0 11 N/\w'.heap[g]?=some (Obj.cells H 116)/\∀i,i<11->H[i*2+1]?=some (Bn (Am (Bo t c x) i))) (λ_ _ _ ⟨a,b,d,e,f,g⟩ h=>⟨a,b,d,e,Ac h f,g⟩)⟩,⟨62, [],.kn _⟩,⟨63, [],.kn _⟩,⟨64, [],.kn _⟩,⟨65, [62,63,64],.ow (λv w'=>∃g N H,v=Kx g 0 11 N/\w'.heap[g]?=some (Obj.cells H 116)/\∀i,i<11->H[i*2+1]?=some (Bn (Am (Bo t c y) i))) (λ_ _ _ ⟨a,b,d,e,f,g⟩ h=>⟨a,b,d,e,Ac h f,g⟩)⟩,⟨16, [61],.cp 61⟩,⟨17, [65],.cp 65⟩] [3,4,5,6] [61,65,16,17] (λ_ h=>aI (Ev (Ac h g8.1)) (Ek (Ac h g9.1))) ?h6 ?c6 ?f6
 case h6=>
  intro u;simp only[Df,↓reduceIte,Nat.reduceEqDiff];intros;and_intros
  all_goals try (first|trivial|(intros;refine Fy (by assumption) ?_;go_simp <;> rfl))
  intro A L e j g f1 f2 f3 K k;go_simp;refine(iV t c za zc aa ac fa fc p L HT.1 HC.1 (HZ.1.below (Ab E.1 j)) (HA.1.below (Ab E.1 j)) (HF.1.below (Ab E.1 j)) x xa xc d4.1 (b0.1.below (Ab E.1 j))).mono ?_;rintro e' w2 ⟨v,Z,rfl,U,G,h3⟩;obtain⟨g1,N,H,rfl,h4,h5⟩:=rJ G rfl (by rw[Rd];decide);rw[Rd]at h5;exact k.1 _ _ ⟨h3,g1,N,H,rfl,h4,h5⟩;intro A L e j g f1 f2 f3 K k;go_simp;refine(iV t c za zc aa ac fa fc p L HT.1 HC.1 (HZ.1.below (Ab E.1 j)) (HA.1.below (Ab E.1 j)) (HF.1.below (Ab E.1 j)) y ya yc d5.1 (d6.1.below (Ab E.1 j))).mono ?_;rintro e' w2 ⟨v,Z,rfl,U,G,h3⟩;obtain⟨g1,N,H,rfl,h4,h5⟩:=rJ G rfl (by rw[Rd];decide);rw[Rd]at h5;exact k.1 _ _ ⟨h3,g1,N,H,rfl,h4,h5⟩
 case c6=>kernel_rfl
 intro u3 c7 j;simp only[Df,Hu,Act.put,O,↓reduceIte,Nat.reduceEqDiff];rintro⟨gx,k1,k2,h8,h9,i1⟩ ⟨gy,k3,k4,i2,i3,i4⟩ U G;rw[U,G,h8,i2];have i5:=I h9;have i6:=I i1;have j4:=I i3;have i7:=I i4;have a0:=fE E j;have R:=fO h0 j;have i8:Af (c7.ownsRow w.heap.size 3 1 (Kx vb 0 3 3) (3+0) (([r-z,S,P]++(Bo t c x).take 0).map (Value.int .i64))):=I ⟨rfl,.inr ⟨vb,3,_,rfl,h7.1,R.1,by omega,by unfold maxLen;omega,rfl,rfl⟩⟩;clear h8 h9 i1 i2 i3 i4 U G j E h0 R h7 g8 g9;go_wp2_with fail;go_loopw [18,15] (λi v wr=>∃(k:Nat),k<=11/\i=Bn k/\Af (wr.ownsRow w.heap.size 3 1 v (3+k) (([r-z,S,P]++(Bo t c x).take k).map (Value.int .i64)))/\Af (Tn 3 c7 wr)/\Af (Bw w wr)) (λi _ _=>11-(intOf i).toNat);exact⟨0,by omega,rfl,i8,I (Tn.refl _ _),a0⟩;obtain⟨k,hk,rfl,hO,F,m⟩:=hrel;by_cases a1:k<11
 . have QA:=F.1.2 _ _ (λ_ _ h=>by cases h) i5.1;have c0:wr.cell? (aD gx (k*2+1))=some (Bn (Am (Bo t c x) k)):=zm QA (i6.1 k a1);have c8:=Ag QA;have HO:=I hO.1;have Q:=I m.1;have c9:=I (show([r-z,S,P]++(Bo t c x).take (k+1)).map (Value.int .i64)=([r-z,S,P]++(Bo t c x).take k).map (Value.int .i64)++ [Bn (Am (Bo t c x) k)] by rw[zuA (by rw[Rd];exact a1),<-List.append_assoc,Ii];rfl);clear m hO QA;go_wp2_with (at_builtin;refine wpList_append_own _ rfl _ _ 22 rfl w.heap.size 3 i0 (Bn 0) 1 8 underlying22 hi d1 d2 d3 rfl (by decide) _ _ _ rfl (HO.1.alloc _) (aD wr.heap.size 0) 1 1 [Bn (Am (Bo t c x) k)] rfl rfl ?c1 ?c2 ?c3 ?c4 ?c5 ?_)
   case c1=>exact Hh wr [Bn (Am (Bo t c x) k)] 3
   case c2=>intro u hu;simp at hu;subst hu;rfl
   case c3=>unfold maxLen;omega
   case c4=>omega
   case c5=>have:=Q.1.size;simp;omega
   intro v' d0 C l _;have a2:=I (Tn.append F.1 HO.1 l);have D:=I (Ld (e':=3) Q.1 rfl HO.1 l);have a3:=I (show d0.ownsRow w.heap.size 3 1 v' (3+(k+1)) (([r-z,S,P]++(Bo t c x).take (k+1)).map (Value.int .i64)) by
    rw[c9.1];simpa[Nat.add_assoc] using C)
   clear C l HO Q F c0 c8;go_wp2;go_roundw;(try((repeat apply eX);refine⟨?_,rfl⟩));exact⟨k+1,by omega,by go_num,a3,a2,D⟩;simp[intOf];omega
 obtain rfl:k=11:=by omega
 have j5:=I (dI (nq:=14+0) (xq:=(([r-z,S,P]++Bo t c x++(Bo t c y).take 0).map (Value.int .i64))) hO.1 rfl (by rw[List.take_zero,List.append_nil];rfl));have j6:=I F.1;have j7:=I m.1;clear hO F m i8 a0;go_wp2_with fail;go_loopw [19,15] (λi v wr=>∃(k:Nat),k<=11/\i=Bn k/\Af (wr.ownsRow w.heap.size 3 1 v (14+k) ((([r-z,S,P]++Bo t c x)++(Bo t c y).take k).map (Value.int .i64)))/\Af (Tn 3 c7 wr)/\Af (Bw w wr)) (λi _ _=>11-(intOf i).toNat);exact⟨0,by omega,rfl,j5,j6,j7⟩;obtain⟨k,hk,rfl,hO,F,m⟩:=hrel;by_cases a1:k<11
 . have QA:=F.1.2 _ _ (λ_ _ h=>by cases h) j4.1;have c0:wr.cell? (aD gy (k*2+1))=some (Bn (Am (Bo t c y) k)):=zm QA (i7.1 k a1);have c8:=Ag QA;have HO:=I hO.1;have Q:=I m.1;have c9:=I (show(([r-z,S,P]++Bo t c x)++(Bo t c y).take (k+1)).map (Value.int .i64)=(([r-z,S,P]++Bo t c x)++(Bo t c y).take k).map (Value.int .i64)++ [Bn (Am (Bo t c y) k)] by rw[zuA (by rw[Rd];exact a1),<-List.append_assoc,Ii];rfl);clear m hO QA;go_wp2_with (at_builtin;refine wpList_append_own _ rfl _ _ 22 rfl w.heap.size 3 i0 (Bn 0) 1 8 underlying22 hi d1 d2 d3 rfl (by decide) _ _ _ rfl (HO.1.alloc _) (aD wr.heap.size 0) 1 1 [Bn (Am (Bo t c y) k)] rfl rfl ?c1 ?c2 ?c3 ?c4 ?c5 ?_)
   case c1=>exact Hh wr [Bn (Am (Bo t c y) k)] 3
   case c2=>intro u hu;simp at hu;subst hu;rfl
   case c3=>unfold maxLen;omega
   case c4=>omega
   case c5=>have:=Q.1.size;simp;omega
   intro v' d0 C l _;have a2:=I (Tn.append F.1 HO.1 l);have D:=I (Ld (e':=3) Q.1 rfl HO.1 l);have a3:=I (show d0.ownsRow w.heap.size 3 1 v' (14+(k+1)) ((([r-z,S,P]++Bo t c x)++(Bo t c y).take (k+1)).map (Value.int .i64)) by
    rw[c9.1];simpa[Nat.add_assoc] using C)
   clear C l HO Q F c0 c8;go_wp2;go_roundw;(try((repeat apply eX);refine⟨?_,rfl⟩));exact⟨k+1,by omega,by go_num,a3,a2,D⟩;simp[intOf];omega
 obtain rfl:k=11:=by omega
 have i9:=I (dI (nq:=(Pp t c s x y).length) (xq:=((Pp t c s x y).map (Value.int .i64))) hO.1 rfl (by rw[HQ.1];rfl));obtain⟨va,vc,rfl,hI⟩:=zW.of_own i9.1;have HI:=I hI;have j0:=I m.1;clear hI i9 hO F m;go_wp2_with fail;refine(qO 2 (by decide) (by decide) (Pp t c s x y) va vc wr rfl HI.1).mono ?_;rintro e k7 ⟨vr,Z,rfl,a4,a7,a8⟩;have j8:=fE j0 a8;have j9:=I a7;have k0:=Bf j0.1.size a4;clear a7 a8 a4;go_wp2;go_ret;exact⟨vr,Z,rfl,k0,j9.1,j8.1⟩
def Kc(t:At)(c:Ad)(s:BA)(x y:Ai):Int:=Sb t c (if Mo t s=true then Gw t c x y else 6)
def Pq(t:At)(c:Ad)(s:BA)(x y:Ai):List (BA×Int):=if Kc t c s x y=0 then(zk 2).zip (Pp t c s x y) else []
def CF{t:At}{c:Ad}{x y:Ai}(h:Kc t c s x y=0):Pq t c s x y=(zk 2).zip (Pp t c s x y):=iP h
def Zv{t:At}{c:Ad}{x y:Ai}(h:Kc t c s x y≠0):Pq t c s x y= []:=iN h
theorem zuC{t:At}{c:Ad}{x y:Ai}(h:Gw t c x y=0):Cc t c x=0/\Cc t c y=0:=by
 grind[Gw]
def Su{w':Wd}{L:List (BA×Int)}{a r:Int}(b:L= [])(c:r=a)(d:Bw w w'):Zu w L a (.returned (.tuple #[Ls,r])) w':=⟨none,0,by rw[b,c];rfl,.inl b,d⟩
def WH(t:At)(c:Ad)(q:Ae)(D:Nat)(r:Ae)(ac:Nat)(fa:Ae)(fc:Nat)(p:Bd)(Z:Rn t c q D r ac fa fc p)(w:Wd)(hT:Ea w t c q r fa p)(s:BA)(x y:Ai)(E F:Ae)(K L:Nat)(M:x.length<=2^47)(N:y.length<=2^47)(hx:Al Ei w E x)(hy:Al Ei w F y):Calls prog 16 #[Az t q D r ac fa fc,Ay c p,B_ s,CU E x.length K,CU F y.length L] w (Zu w (Pq t c s x y) (Kc t c s x y)):=by
 try delta Ay Az
 have HT:=I hT;have HX:=I hx;have HY:=I hy;have HN:=I Z;go_in;go_wp2_with fail;have j:=I (Ab (J w (Ap t q D r ac fa fc)) (J _ (Aj c p)));generalize (w.alloc (Ap t q D r ac fa fc)).alloc (Aj c p)=W0 at*;refine(HN.1 W0 (HT.1.below j.1)).mono ?_;rintro e w1 ⟨u,v⟩;have f:=fE j v;rcases u with⟨h,rfl⟩|⟨h,G,rfl⟩|⟨Q,P,rfl,H,_,hn⟩
 . have h':=CN h
   have b:=I (show zY t=Kc t c s x y from(Se h).symm);have R:=I h;go_wp2;go_ret2;exact Su (Zv (by rw[<-b.1];exact R.1)) b.1 f.1
 . have h':=CN G
   have b:=I (show Ax c=Kc t c s x y from(Sc h G).symm);have R:=I G;go_wp2;go_ret2;exact Su (Zv (by rw[<-b.1];exact R.1)) b.1 f.1
 have S:=I H;have b:Af (Kc t c s x y=if Mo t s=true then Gw t c x y else 6):=I (Pd H.okT H.okC);go_wp2_with fail;refine ca (zut w1 Q t c P S.1 s) λw2 k=>?_;have d:=fE f k;have l:=I (S.1.below k);by_cases n:Mo t s=true
 . rw[iP n]at b;rw[n];go_wp2_with fail;refine ca (WF w2 Q t c P l.1 x y E F K L M N (HX.1.below d.1) (HY.1.below d.1)) λw3 m=>?_;have g:=fE d m;have T:=I (l.1.below m);by_cases i:Gw t c x y=0
   . have HR:=I (zuC i);have o:=I (CF (b.1.trans i));have HZ:=I (b.1.trans i);rw[i];go_wp2_with fail;refine(WI w3 Q t c P T.1 s x y E F K L HR.1.1 HR.1.2 (HX.1.below g.1) (HY.1.below g.1)).mono ?_;rintro e w4 ⟨a,U,rfl,hI,z⟩;have HI:=I hI;have V:=fE g z;go_wp2_with fail;refine(qW 2 (by decide) (by decide) (Pp t c s x y) a U w4 rfl HI.1).mono ?_;rintro e w5 ⟨C,rfl,hC,W,A,B⟩;have X:=fE V B;have Y:=I (We.at (show We w5 w4.heap.size (zk 2) (Pp t c s x y) from⟨C,hC,A⟩) rfl);go_wp2;go_ret2;exact⟨_,_,Wa (by rw[o.1,Rf rfl] <;> rfl) HZ.1.symm,by rw[o.1];exact Y.1,X.1⟩
   have h':=CN i
   have o:=I (Zv (show Kc t c s x y≠0 by rw[b.1];exact i));go_wp2;go_ret2;exact Su o.1 b.1.symm g.1
 rw[iN n]at b;rw[show Mo t s=false by simpa using n];have o:=I (Zv (show Kc t c s x y≠0 by rw[b.1];decide));go_wp2;go_ret2;exact Su o.1 b.1.symm d.1
theorem CJ(l:List Bh)(s:BA):(Fq l s).isSome=Ao (l.map Bh.code) s:=by
 grind[Fq,Ao]
theorem rL(t:At)(s:BA):decide (Nd t.ai s<0)=!(Mo t s):=by
 have h:=bN Bh.code s 0 t.ai;grind[Mo,CJ,Nd]
def WG(t:At)(c:Ad)(r:Ae)(l:Nat)(m:Ae)(ac:Nat)(fa:Ae)(fc:Nat)(p:Bd)(w:Wd)(d:(t.zn.length<=l/\l<=2^47/\t.ai.length<=ac/\ac<=2^47))(Y:c.cs.length<=p.cc/\p.cc<=9223372036854775807)(G:Ea w t c r m fa p)(s:BA)(x y:Ai)(T U:Ae)(Z yc:Nat)(a0:x.length<=2^47)(a1:y.length<=2^47)(hx:Al Ei w T x)(hy:Al Ei w U y):
 Calls prog 135 #[Az t r l m ac fa fc,Ay c p,B_ s,CU T x.length Z,CU U y.length yc] w (Zu w (Pq t c s x y) (Kc t c s x y)):=by
 try delta Ay Az
 have V:=I G;have HX:=I hx;have HY:=I hy;have a9:=d.2.2.2;have a7:=d.2.2.1;clear G hx hy;go_in;go_wp2_with fail;have⟨hB,H,u⟩:=Uy w t c r l m ac fa fc p;have HB:=I hB;have⟨cb,A⟩:=aT (w.heap.size+1);rw[<-A]at u;simp only[<-A];have QT:=I H;have QC:=I u;clear A hB H u;generalize (w.alloc (Ap t r l m ac fa fc)).alloc (Aj c p)=W at*;have K:=I (V.1.below HB.1);refine(kJ t c r l m ac fa fc p W W.heap.size (Bv _) d Y K.1.z K.1.a K.1.f K.1.c).mono ?_;rintro e w1 ⟨rfl,i⟩;have b:=fE HB i;have B:=fO QT i;have C:=fO QC i;clear i HB QT QC K d;by_cases D:Jn t c=0
 . have⟨hT,hC⟩:=kT D;have g:Af (Kc t c s x y=if Mo t s=true then Gw t c x y else 6):=I (Pd hT hC);have j:=I (aI hT hC);clear hT hC;have⟨x0,x1,x2,xl⟩:=Ev B.1;have⟨y0,y1,y2,y3,y4,y5,y6,y7,y8,y9,L,M,N,P,yl⟩:=Ek C.1;rw[D];clear D;go_wp2_with fail;refine(Pf t.ai s m ac w1 (V.1.below b.1).a (by omega)).mono ?_;rintro e w' ⟨rfl,rfl⟩;by_cases F:Mo t s=true
   . rw[iP F]at g;have Q:decide (Nd t.ai s<0)=false:=by rw[rL];simp[F]
     clear F;go_wp2_with fail;refine(CK t c r l m ac fa fc p w1 j.1.1 j.1.2 (V.1.below b.1).f x y T U Z yc a0 a1 (HX.1.below b.1) (HY.1.below b.1)).mono ?_;rintro e w2 ⟨rfl,k⟩;have h:=fE b k;have a3:=fO B k;have a4:=fO C k;clear k Q x0 x1 x2 xl y0 y1 y2 y3 y4 y5 y6 y7 y8 y9 L M N P yl b B C;by_cases n:Gw t c x y=0
     . have HR:=I (zuC n);have o:=I (CF (g.1.trans n));have HZ:=I (g.1.trans n);have⟨x0,x1,x2,xl⟩:=Ev a3.1;have⟨y0,y1,y2,y3,y4,y5,y6,y7,y8,y9,L,M,N,P,yl⟩:=Ek a4.1;rw[n];clear n g;go_wp2_with fail;have X:=V.1.below h.1;refine(WJ t c r l m ac fa fc p w2 j.1.1 j.1.2 X.z X.a X.f s x y T U Z yc HR.1.1 HR.1.2 (HX.1.below h.1) (HY.1.below h.1)).mono ?_;rintro e w3 ⟨v,a8,rfl,E,q,R⟩;have a5:=fE h R;obtain⟨a2,c2,rfl,S⟩:=Jk.of_own q rfl;have a6:=I S;clear R q E S X;go_wp2;go_ret2;exact⟨a2,c2,Wa (by rw[o.1,Rf rfl] <;> rfl) HZ.1.symm,by rw[o.1];exact a6.1,a5.1⟩
     have h':=CN n
     have o:=I (Zv (show Kc t c s x y≠0 by rw[g.1];exact n));clear n;go_wp2;go_ret2;exact Su o.1 g.1.symm h.1
   rw[iN F]at g;have Q:decide (Nd t.ai s<0)=true:=by rw[rL];simpa using F
   have o:=I (Zv (show Kc t c s x y≠0 by rw[g.1];decide));clear F;go_wp2;go_ret2;exact Su o.1 g.1.symm b.1
 have g:=I (show Jn t c=Kc t c s x y from(zuG D).symm);have h':=CN D
 have o:=I (Zv (show Kc t c s x y≠0 by rw[<-g.1];exact D));clear D;go_wp2;go_ret2;exact Su o.1 g.1 b.1
