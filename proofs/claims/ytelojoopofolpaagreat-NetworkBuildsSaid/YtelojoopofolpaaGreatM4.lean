/- a part of the proof -/
import Derived.Test.YtelojoopofolpaaGreatM2
set_option linter.all false
set_option maxRecDepth 100000
set_option maxHeartbeats 3000000
namespace Go.Proofs.YtelojoopofolpaaGreat
open Go.RowKit Go.Sort Go.Proofs.Tryz
theorem mkLegs(n:Nat)(g:n<=1000):∃cs:LV,cs.length=n*7/\∀w:Wd,(Instr.makeSlice 39 (Bn (n:Int)) (Bn (n:Int))).run prog w=.ok (Hy w.heap.size 0 n n) (w.alloc (.cells cs.toArray 50)):=by
 obtain⟨e,f,a,b,c⟩:=info_parts Xh.info;refine⟨(madeCells (Value.agg #[Hn,Bn 0,Bn 0,.string ByteArray.empty,.string ByteArray.empty,Bn 0,Bn 0]).cells (n*7)).toList,by simp[size_madeCells],λw=>?_⟩;have d:=run_make (P:=prog) w 39 50 e _ Xh.ht f a .i64 .i64 n n (by omega) (Int.le_refl _) (by rw[c];omega) (by omega);simp only[Int.toNat_natCast,b]at d;simpa using d
theorem zBg(t:At)(c:Ad):NetS t c:=by
 intro w sb P hS q2 f L a ca hL hA q4 q5;have HS:=I hS;have HA:=I hA;have v8:=I q2;have q6:=I (mT hS.okC);have j7:=I q4;have D5:=I q5;clear hS q2 hA q4 q5;obtain⟨j8,j2,v9⟩:=mkLegs L.length (by omega);have w0:∀Y,(Instr.makeSlice 81 (.int .i64 (L.length:Int)) (.int .i64 (L.length:Int))).run prog Y=.ok (.slice (some ⟨Y.heap.size,0,none⟩) L.length L.length) (Y.alloc (.cells (List.replicate L.length (Value.slice none 0 0)).toArray 22)):=λY=>by
  rw[<-sA];exact run_make_row' (P:=prog) 81 22 (.slice none 0 0) 24 underlying81 (by kernel_rfl) rfl .i64 .i64 L.length (by omega) (by omega) Y
 have x0:=mkMapL;have x5:=I j2;clear j2;go_enter func137,ntmps137
 go_wp2_with fail;have g5:=I (N1.start w t c f L j8 x5.1);obtain⟨nb,j9⟩:∃n,n=w.heap.size:=⟨_,rfl⟩;obtain⟨r,d1⟩:∃n,n=w.heap.size+1:=⟨_,rfl⟩;obtain⟨mb,k0⟩:∃n,n=w.heap.size+1+1:=⟨_,rfl⟩;obtain⟨vb,k1⟩:∃n,n=w.heap.size+1+1+1:=⟨_,rfl⟩;obtain⟨D,k3⟩:∃n,n=w.heap.size+1+1+1+1:=⟨_,rfl⟩;obtain⟨lo,q7⟩:∃n,n=w.heap.size+1+1+1+1+1:=⟨_,rfl⟩;rw[<-q7,<-k3,<-k1,<-k0,<-d1]at g5;simp only[<-k3];simp only[<-k1];simp only[<-k0];simp only[<-d1];simp only[<-j9];rw[<-j9]at g5;clear v9 w0 x0 j9 d1 k0 k1 k3 q7;generalize ((((w.alloc jC).alloc (.cells j8.toArray 50)).alloc (Obj.cells #[.string f,.slice (some ⟨r,0,none⟩) L.length L.length,.slice none 0 0,.slice none 0 0,.slice none 0 0] 65)).alloc (.cells (Array.replicate L.length (Value.slice none 0 0)) 22)).alloc (.map #[] 0)=W at*;go_loopw [30] (λi wr=>∃(k:Nat) (M:List (Value×Value)) (U:Nat->Value) (Q:Nat->List Int) (G C:List Value),k<=L.length/\i=.int .i64 k/\Af (MInv L f k M U Q)/\Af (N1 w lo nb r mb vb D t c f L k k M (U 0) (U 1) U Q G C wr)) (λi _=>L.length-(intOf i).toNat)
 case atStart=>exact⟨0, [],λ_=>.slice none 0 0,λ_=> [],j8,_,Bg _,rfl,I (MInv.start L f),g5⟩
 obtain⟨k,M,U,Q,G,C,hk,rfl,MI,N⟩:=hrel;obtain⟨Z,x6⟩:∃v:World,v=wr:=⟨_,rfl⟩;subst x6;by_cases b0:k<L.length
 rotate_left
 . obtain rfl:k=L.length:=by omega
   obtain⟨oh,k4⟩:∃o,Z.heap[D]?=some o:=⟨_,Array.getElem?_eq_getElem N.1.mp.lt⟩;have x7:=I k4;have K0:=I (KSt.start N.1 k4);have m1:=zm (j:=1) K0.1.qm rfl;have ml:=Ag K0.1.qm;clear k4 g5 hk;go_wp2_with fail;clear m1 ml;go_loopw [85] (λi wr=>∃(i':Nat) (kv:Value),i'<=L.length/\i=.int .i64 i'/\Af (KSt w Z lo mb [(nb,PF (.string ⟨#[]⟩) (.slice none 0 0) (.slice none 0 0) (.slice none 0 0) (.slice none 0 0)),(r,.cells G.toArray 50),(vb,.cells C.toArray 22),(D,oh)] (.string f) (.slice (some ⟨r,0,none⟩) L.length L.length) (U 0) (U 1) kv (qP t c f L i') wr)) (λi _=>L.length-(intOf i).toNat)
   case atStart=>exact⟨0,.slice none 0 0,Bg _,rfl,K0⟩
   obtain⟨i,kv,hi,rfl,S1⟩:=hrel;obtain⟨w1,x8⟩:∃v:World,v=wr:=⟨_,rfl⟩;subst x8;clear K0;by_cases k5:i<L.length
   rotate_left
   . obtain rfl:i=L.length:=by omega
     obtain⟨o1,o2,o3,o4,o5,o6⟩:=N.1.ord;obtain⟨a3,a4,rfl,N2⟩:=zBt S1.1.lk;obtain⟨a5,a6,k6,N3⟩:=N.1.iv.form 0;obtain⟨a7,a8,k7,N4⟩:=N.1.iv.form 1;rw[show Q 0=PX f L from MI.1.q0]at k6 N3;rw[show Q 1=TE f L from MI.1.q1]at k7 N4;have b3:=S1.1.qm;rw[k6,k7]at b3;have m0:=zm (j:=0) b3 rfl;have m1:=zm (j:=1) b3 rfl;have m2:=zm (j:=2) b3 rfl;have m3:=zm (j:=3) b3 rfl;have m4:=zm (j:=4) b3 rfl;have ml:=Ag b3;have E:=S1.1.at 0 rfl;have s0:=zm (j:=0) E rfl;have s1:=zm (j:=1) E rfl;have s2:=zm (j:=2) E rfl;have s3:=zm (j:=3) E rfl;have s4:=zm (j:=4) E rfl;have y0:=zQ (j:=0) E;have y1:=zQ (j:=1) E;have y2:=zQ (j:=2) E;have y3:=zQ (j:=3) E;have y4:=zQ (j:=4) E;have sl:=Ag E;have QW:=I (Pr (T:=65) [.string f,.slice (some ⟨r,0,none⟩) L.length L.length,.slice a3 (qP t c f L L.length).length a4,.slice a5 (PX f L).length a6,.slice a7 (TE f L).length a8] [] [.string ⟨#[]⟩,.slice none 0 0,.slice none 0 0,.slice none 0 0,.slice none 0 0] _ rfl E);have HR:=I (Tt o1 [.string f,.slice (some ⟨r,0,none⟩) L.length L.length,.slice a3 (qP t c f L L.length).length a4,.slice a5 (PX f L).length a6,.slice a7 (TE f L).length a8] 0 _ S1.1.bel);have j3:nb<lo:=by omega
     have AG:=I (jR.stN j3 [.string f,.slice (some ⟨r,0,none⟩) L.length L.length,.slice a3 (qP t c f L L.length).length a4,.slice a5 (PX f L).length a6,.slice a7 (TE f L).length a8] 0 w1);have q8:=I (jR.stN (lo:=Z.heap.size) (show nb<Z.heap.size by have:=N.1.sz;omega) [.string f,.slice (some ⟨r,0,none⟩) L.length L.length,.slice a3 (qP t c f L L.length).length a4,.slice a5 (PX f L).length a6,.slice a7 (TE f L).length a8] 0 w1);have q9:=I ((lG (show r≠nb by omega) [.string f,.slice (some ⟨r,0,none⟩) L.length L.length,.slice a3 (qP t c f L L.length).length a4,.slice a5 (PX f L).length a6,.slice a7 (TE f L).length a8] 0 w1).trans (S1.1.at 1 rfl));have k8:=I S1.1.ag;have x9:=I N2;have y5:=I N3;have y6:=I N4;have d2:=I (show w.heap.size<=r/\w.heap.size<=lo/\w.heap.size<=Z.heap.size by have:=N.1.sz;omega);clear E b3 k6 k7 N2 N3 N4 S1 o1 o2 o3 o4 o5 o6 j3;simp only[stN,Nat.zero_add,Nat.reduceAdd,List.length_nil]at QW HR AG q8 q9;go_wp2_with fail;refine bodyPost_ret (resN rfl rfl rfl QW.1) rfl ⟨_,_,rfl,rfl,λ_=>⟨some ⟨r,0,none⟩,a3,a5,a7,L.length,a4,a6,a8,rfl,zCW d2.1.1 d2.1.2.1 (λi hi=>(N.1.lg i hi).agr (k8.1.trans AG.1)) q9.1,(x9.1.to q8.1).le d2.1.2.2,((y5.1.to k8.1).to AG.1).le d2.1.2.1,((y6.1.to k8.1).to AG.1).le d2.1.2.1⟩,(λh=>absurd rfl h),HR.1⟩
   have D1:(i:Int)<(L.length:Int):=by omega
   obtain⟨x,hx⟩:∃x,x=Hx L i:=⟨_,rfl⟩;have s:=j7.1 i k5;obtain⟨da,dc,a0,y7,k9,l0⟩:=N.1.lg i k5;rw[<-hx]at a0 y7 k9 l0 s;have X:=I hx;have b7:=I s;have y8:=I k9;have y9:=I l0;obtain⟨D6,D7,_,_⟩:=Ka s.d;have p0:=zm (j:=i*7) (v:=(.slice da x.duty.length dc)) (S1.1.at 1 rfl) (by simpa using a0 0 (by omega));have p1:=zm (j:=i*7+1) (v:=(.int .i64 x.rep)) (S1.1.at 1 rfl) (by simpa using a0 1 (by omega));have p2:=zm (j:=i*7+2) (v:=(.int .i64 x.rel)) (S1.1.at 1 rfl) (by simpa using a0 2 (by omega));have p3:=zm (j:=i*7+3) (v:=(.string x.src)) (S1.1.at 1 rfl) (by simpa using a0 3 (by omega));have p4:=zm (j:=i*7+4) (v:=(.string x.dst)) (S1.1.at 1 rfl) (by simpa using a0 4 (by omega));have p5:=zm (j:=i*7+5) (v:=(.int .i64 x.cost)) (S1.1.at 1 rfl) (by simpa using a0 5 (by omega));have p6:=zm (j:=i*7+6) (v:=(.int .i64 x.cred)) (S1.1.at 1 rfl) (by simpa using a0 6 (by omega));have pl:=Ag (S1.1.at 1 rfl);clear a0 k9 l0 hx s;go_upto_region 19 with fail
   have S2:=I (S1.1.add (J w1 (Obj.cells #[.slice da x.duty.length dc,x.rep,x.rel,.string x.src,.string x.dst,x.cost,x.cred] 50)) (Bv _) (zh w1 (Obj.cells #[.slice da x.duty.length dc,x.rep,x.rel,.string x.src,.string x.dst,x.cost,x.cred] 50)));obtain⟨z,b5⟩:∃z,z=w1.heap.size:=⟨_,rfl⟩;rw[<-b5]at S2;simp only[<-b5];clear b5 p0 p1 p2 p3 p4 p5 p6 pl S1;generalize w1.alloc (Obj.cells #[.slice da x.duty.length dc,x.rep,x.rel,.string x.src,.string x.dst,x.cost,x.cred] 50)=w2 at*;obtain⟨va,vc,j4,r7⟩:=MI.1.row N.1.iv x.dst;have r8:=I r7;have b6:=lookL (N.1.mp.blk ((S2.1.at 4 rfl).trans x7.1.symm)) x.dst;rw[j4]at b6;obtain⟨q,hq⟩:∃q,q=FT L x.dst L.length:=⟨_,rfl⟩;rw[<-hq]at b6 r8;have HQ:=I hq;have D8:q.length<=60:=by
    have:=zCD L x.dst L.length;rw[hq];omega
   have c4:=zm (j:=4) (S2.1.at 0 rfl) rfl;have cl:=Ag (S2.1.at 0 rfl);clear j4 r7 hq;go_wp2_with fail;go_loopw [95] (λjv wr=>∃(m:Nat) (kv:Value),m<=q.length/\jv=.int .i64 m/\Af (KSt w Z lo mb ((z,Obj.cells #[.slice da x.duty.length dc,x.rep,x.rel,.string x.src,.string x.dst,x.cost,x.cred] 50):: [(nb,PF (.string ⟨#[]⟩) (.slice none 0 0) (.slice none 0 0) (.slice none 0 0) (.slice none 0 0)),(r,.cells G.toArray 50),(vb,.cells C.toArray 22),(D,oh)]) (.string f) (.slice (some ⟨r,0,none⟩) L.length L.length) (U 0) (U 1) kv (qP t c f L i++(q.take m).flatMap (zAb t c f L i)) wr)) (λjv _=>q.length-(intOf jv).toNat)
   case atStart=>exact⟨0,kv,Bg _,rfl,I (by rw[List.take_zero];show KSt _ _ _ _ _ _ _ _ _ _ (qP t c f L i++ []) _;rw[List.append_nil];exact S2.1)⟩
   obtain⟨m,kv,hm,rfl,S3⟩:=hrel;obtain⟨w3,A1⟩:∃v:World,v=wr:=⟨_,rfl⟩;subst A1;clear S2 c4 cl b6;by_cases a1:m<q.length
   rotate_left
   . obtain rfl:m=q.length:=by omega
     have S4:=I (show KSt w Z lo mb [(nb,PF (.string ⟨#[]⟩) (.slice none 0 0) (.slice none 0 0) (.slice none 0 0) (.slice none 0 0)),(r,.cells G.toArray 50),(vb,.cells C.toArray 22),(D,oh)] (.string f) (.slice (some ⟨r,0,none⟩) L.length L.length) (U 0) (U 1) kv (qP t c f L (i+1)) w3 from by
      have h:=S3.1.drop rfl;rw[List.take_length,HQ.1,X.1,zAu]at h;exact h)
     go_wp2;go_roundw
     case rel=>exact⟨i+1,kv,by omega,by go_num,S4⟩
     case measure=>simp[intOf];omega
   have D2:(m:Int)<(q.length:Int):=by omega
   have j5:q[m]∈FT L x.dst L.length:=(show ∀l:List Int,q=l->q[m]∈l from λl e=>by subst e;exact List.getElem_mem a1) _ HQ.1;obtain⟨jn,l1,l2,l3⟩:=zBj j5;obtain⟨y,hy⟩:∃y,y=Hx L jn:=⟨_,rfl⟩;have s:=j7.1 jn l2;obtain⟨r9,s5,g6,A2,l4,l5⟩:=N.1.lg jn l2;obtain⟨v1,s6,g7,s7,l6,_⟩:=N.1.vl i k5;obtain⟨v2,s8,s9,j6,l7,_⟩:=N.1.vl jn l2;rw[<-hy]at g6 A2 l4 l5 s l3 l7;rw[<-X.1]at l6;have HY:=I hy;have l8:=I s;have HJ:=I l1;have A3:=I l3;obtain⟨x1,x2,x3,x4⟩:=b7.1.bd HS.1.okT HS.1.okC;obtain⟨y1,y2,y3,y4⟩:=s.bd HS.1.okT HS.1.okC;obtain⟨gb,D9,rfl,A4,t0⟩:=(r8.1 _ S3.1.ag).resolve_left (λh=>by rw[h]at a1;exact absurd a1 (Nat.not_lt_zero m));have c0:=t0 m a1;rw[zAX a1,l1]at c0;have n0:=zm (j:=jn*7) (v:=(.slice r9 y.duty.length s5)) (S3.1.at 2 rfl) (by simpa using g6 0 (by omega));have n1:=zm (j:=jn*7+1) (v:=(.int .i64 y.rep)) (S3.1.at 2 rfl) (by simpa using g6 1 (by omega));have nl:=Ag (S3.1.at 2 rfl);have c2:=zm (j:=2) (S3.1.at 0 rfl) rfl;have cl:=Ag (S3.1.at 0 rfl);have m1:=zm (j:=1) S3.1.qm rfl;have ml:=Ag S3.1.qm;have A5:=I s6;have A6:=I s8;have h5:=I (And.intro g7 (And.intro s7 l6));have h7:=I (And.intro s9 (And.intro j6 l7));have t1:=I n0;have A7:=I l4;have A8:=I l5;have D3:(jn:Int)<(L.length:Int):=by omega
   have ew:IntKind.i64.wrap (y.rep-x.rel)=y.rep-x.rel:=by rw[IntKind.wrap_i64];omega
   clear t0 g6 l4 l5 hy s l1 l3 j5 s6 s8 l6 l7 n0 g7 s7 s9 j6;go_wp2;go_quiet (fail)
   have S4:=I (S3.1.call (dr w3 nq));have N0:=I (zD t1.1 nl (dr w3 nq));clear c0 n1 nl c2 cl m1 ml A4 S3 t1;generalize w3.drewN nq=w4 at*;have d7:w4.cell? ⟨sb,7,none⟩=some (.int .i64 c.lv):=zm (j:=7) (HS.1.below S4.1.bel).box rfl;have d3:=(HS.1.below S4.1.bel).lt;by_cases h0:0<=y.rep-x.rel
   rotate_left
   . have HL:=I (show zAc t c f x y=false by
      unfold zAc
      rw[decide_eq_false h0];simp)
     have A9:y.rep-x.rel<0:=by omega
     clear h0
     have S9:=I (show KSt w Z lo mb ((z,Obj.cells #[.slice da x.duty.length dc,x.rep,x.rel,.string x.src,.string x.dst,x.cost,x.cred] 50):: [(nb,PF (.string ⟨#[]⟩) (.slice none 0 0) (.slice none 0 0) (.slice none 0 0) (.slice none 0 0)),(r,.cells G.toArray 50),(vb,.cells C.toArray 22),(D,oh)]) (.string f) (.slice (some ⟨r,0,none⟩) L.length L.length) (U 0) (U 1) kv (qP t c f L i++(q.take (m+1)).flatMap (zAb t c f L i)) w4 from by
      rw[zAj q _ a1,HJ.1,show zAb t c f L i (jn:Int)= [] from by
       unfold zAb
       rw[Int.toNat_natCast,<-X.1,<-HY.1,if_neg (by rw[HL.1];decide)],List.append_nil]
      exact S4.1)
     go_wp2;go_roundw
     case rel=>exact⟨m+1,kv,by omega,by go_num,S9⟩
     case measure=>simp[intOf];omega
   have A9:¬ y.rep-x.rel<0:=by omega
   by_cases h1:y.rep-x.rel<=c.lv
   rotate_left
   . have HL:=I (show zAc t c f x y=false by
      unfold zAc
      rw[decide_eq_false h1];simp)
     have B0:c.lv<y.rep-x.rel:=by omega
     clear h1 h0
     have S9:=I (show KSt w Z lo mb ((z,Obj.cells #[.slice da x.duty.length dc,x.rep,x.rel,.string x.src,.string x.dst,x.cost,x.cred] 50):: [(nb,PF (.string ⟨#[]⟩) (.slice none 0 0) (.slice none 0 0) (.slice none 0 0) (.slice none 0 0)),(r,.cells G.toArray 50),(vb,.cells C.toArray 22),(D,oh)]) (.string f) (.slice (some ⟨r,0,none⟩) L.length L.length) (U 0) (U 1) kv (qP t c f L i++(q.take (m+1)).flatMap (zAb t c f L i)) w4 from by
      rw[zAj q _ a1,HJ.1,show zAb t c f L i (jn:Int)= [] from by
       unfold zAb
       rw[Int.toNat_natCast,<-X.1,<-HY.1,if_neg (by rw[HL.1];decide)],List.append_nil]
      exact S4.1)
     go_wp2;go_roundw
     case rel=>exact⟨m+1,kv,by omega,by go_num,S9⟩
     case measure=>simp[intOf];omega
   have B0:¬ c.lv<y.rep-x.rel:=by omega
   have B3:=I (show zAc t c f x y=(Wy c 2 (ZZ t c f x.duty y.duty)).isEmpty by
    unfold zAc
    rw[decide_eq_true h0,decide_eq_true h1,A3.1,zV,decide_eq_true rfl];simp)
   clear h0 h1;go_upto_region 24 with fail
   clear d7 d3;have R:=S4;obtain⟨B4,B6,l9,-,d4⟩:=Hj.at (zz3 y9.1 R.1.ag) y8.1;cases l9;have TX:=I d4;obtain⟨B4,B6,l9,-,t2⟩:=Hj.at (zz3 A8.1 R.1.ag) A7.1;cases l9;have TY:=I t2;have t3:=I (h5.1.2.2.blk (R.1.ag.2 v1 h5.1.1 h5.1.2.1) (As h5.1.2.1 R.1.ag.1));have t4:=I (h7.1.2.2.blk (R.1.ag.2 v2 h7.1.1 h7.1.2.1) (As h7.1.2.1 R.1.ag.1));clear d4 t2;have n0:=N0.1;have nl:=Ag (R.1.at 2 rfl);have b1:=zm (j:=i) (v:=(.slice (some ⟨v1,0,none⟩) 11 11)) (R.1.at 3 rfl) (by simpa using A5.1);have b2:=zm (j:=jn) (v:=(.slice (some ⟨v2,0,none⟩) 11 11)) (R.1.at 3 rfl) (by simpa using A6.1);have vl:=Ag (R.1.at 3 rfl);have t5:w4.cell? ⟨sb,27,none⟩=some (.bool P.nights):=zm (j:=27) (HS.1.below R.1.bel).box rfl;have d3:=(HS.1.below R.1.bel).lt;refine' Wi [⟨119, [],.kn _⟩,⟨120, [],.kn _⟩,⟨121, [],.kn _⟩,⟨122, [121],.kn _⟩,⟨123, [],.kn _⟩,⟨124, [123],.kn _⟩,⟨125, [],.kn _⟩,⟨126, [124,125],.kn _⟩,⟨127, [126],.kn _⟩,⟨128, [127],.kn _⟩,⟨129, [],.kn _⟩,⟨130, [],.kn _⟩,⟨131, [129,130],.kn _⟩,⟨132, [131],.kn _⟩,⟨133, [],.kn _⟩,⟨134, [],.kn _⟩,⟨135, [133,134],.kn _⟩,⟨136, [135],.kn _⟩,⟨137, [],.kn _⟩,⟨138, [137],.kn _⟩,⟨139, [138],.kn _⟩,⟨140, [139],.kn _⟩,⟨141, [119,120,122,128,132,136,140],.ow (JnT t c f x.duty y.duty) (λ_ _ _=>JnT.call)⟩] [0,1,8,9,13,14,16] [141] (λ_ h=>And.intro (zD (zm (j:=0) (R.1.at 0 rfl) rfl) (Ag (R.1.at 0 rfl)) h) (And.intro (zD (zm (j:=1) R.1.qm rfl) (Ag R.1.qm) h) (And.intro (zD n0 nl h) (And.intro (zD b1 vl h) (And.intro (zD b2 vl h) (And.intro (zD t5 d3 h) (And.intro (As (Ag (R.1.at 0 rfl)) h.size) (And.intro (As (Ag R.1.qm) h.size) (And.intro (As nl h.size) (And.intro (As vl h.size) (As d3 h.size))))))))))) ?h2 ?c2 ?f2
   case h2=>
    intro u;simp only[Df,Jm,↓reduceIte,Nat.reduceEqDiff];intros
    refine⟨?_,?_,?_,?_,?_,?_,?_,?_,?_,?_,?_,?_,?_,?_,?_,?_,?_,?_,?_,?_,?_,?_,?_,trivial⟩
    all_goals try (intros;refine Fy (by assumption) ?_;go_simp <;> rfl)
    intro A w9 e D g f1 f2 f3 f4 f5 f6 f7 K k2;clear g;go_simp;refine(zwO w9 sb t c P (HS.1.below (Ab R.1.bel D)) v8.1 f x.duty y.duty da r9 dc s5 b7.1.d l8.1.d (TX.1.below D) (TY.1.below D) (some ⟨v1,0,none⟩) (some ⟨v2,0,none⟩) 11 11 (t3.1.below D) (t4.1.below D)).mono ?_;rintro e' h8 ⟨ja,jc,rfl,hI,h⟩;exact k2.1 _ _ ⟨h,ja,jc,rfl,hI⟩
   case c2=>kernel_rfl
   intro u w9 D;simp only[Df,Hu,Jm,Act.put,O,↓reduceIte,Nat.reduceEqDiff];rintro⟨ja,jc,e1,hI⟩;rw[e1];have S5:=I (R.1.call D);have m5:=I hI;clear e1 hI D n0 nl b1 b2 vl t5 d3 S4 R N0 TX TY t3 t4;go_simp;go_wp2_with fail;have CH:=I (zBx 2 2 rfl (by decide) w9 sb t c P (HS.1.below S5.1.bel) (ZZ t c f x.duty y.duty) ja jc (λh=>absurd h (by decide)) (by rw[u_];decide) m5.1 (by have:=a_ c 2;have:=q6.1;omega) (by rw[I_];exact j_ HS.1.okC (by decide) (zwZ HS.1.okT HS.1.okC ⟨b7.1.d,l8.1.d⟩)));rw[u_]at CH;refine CH.1.mono ?_;rintro e h8 ⟨rfl,m6⟩;have S6:=I (S5.1.call m6);have t6:=I (m5.1.below m6);rw[<-B3.1];clear m6 S5 m5 CH;cases hz:zAc t c f x y
   . have HL:=I hz;clear hz
     have S9:=I (show KSt w Z lo mb ((z,Obj.cells #[.slice da x.duty.length dc,x.rep,x.rel,.string x.src,.string x.dst,x.cost,x.cred] 50):: [(nb,PF (.string ⟨#[]⟩) (.slice none 0 0) (.slice none 0 0) (.slice none 0 0) (.slice none 0 0)),(r,.cells G.toArray 50),(vb,.cells C.toArray 22),(D,oh)]) (.string f) (.slice (some ⟨r,0,none⟩) L.length L.length) (U 0) (U 1) kv (qP t c f L i++(q.take (m+1)).flatMap (zAb t c f L i)) h8 from by
      rw[zAj q _ a1,HJ.1,show zAb t c f L i (jn:Int)= [] from by
       unfold zAb
       rw[Int.toNat_natCast,<-X.1,<-HY.1,if_neg (by rw[HL.1];decide)],List.append_nil]
      exact S6.1)
     go_wp2;go_roundw
     case rel=>exact⟨m+1,kv,by omega,by go_num,S9⟩
     case measure=>simp[intOf];omega
   have HL:=I hz;clear hz;obtain⟨kn,h9⟩:∃n,n=(qP t c f L i++(q.take m).flatMap (zAb t c f L i)).length:=⟨_,rfl⟩;have h6:=Js S6.1.lk;rw[<-h9]at h6;obtain⟨ka,kc,rfl⟩:=h6;have B7:kn<=4000:=by
    have h1:=zz7 t c f L i;have h2:=zBZ t c f L i (q.take m);have h3:=Nat.mul_le_mul (show i<=60 by omega) hL;have h4:(q.take m).length<=60:=by rw[List.length_take];omega
    rw[h9,Gh];omega
   have t7:=I h9.symm
   have B8:=I (show(qP t c f L i++(q.take m).flatMap (zAb t c f L i))++ [(⟨i,jn,qQ c 2 (ZZ t c f x.duty y.duty)⟩:DW)]=qP t c f L i++(q.take (m+1)).flatMap (zAb t c f L i) by
    rw[zAj q _ a1,HJ.1,show zAb t c f L i (jn:Int)= [(⟨i,jn,qQ c 2 (ZZ t c f x.duty y.duty)⟩:DW)] from by
     unfold zAb
     rw[Int.toNat_natCast,<-X.1,<-HY.1,if_pos HL.1];rfl,List.append_assoc])
   have B9:((kn:Int)==20000)=false:=by simp;omega
   have m2:=zm (j:=2) S6.1.qm rfl;have ml:=Ag S6.1.qm;have CC:=I (λY (D:Bw h8 Y)=>zzP 2 2 rfl (by decide) Y sb t c P (HS.1.below (Ab S6.1.bel D)) (ZZ t c f x.duty y.duty) ja jc (λh=>absurd h (by decide)) (by rw[u_];decide) (t6.1.below D) (by have:=b_ c 2;have:=q6.1;omega) (by rw[I_];exact c_ HS.1.okC (by decide) (zwZ HS.1.okT HS.1.okC ⟨b7.1.d,l8.1.d⟩)));rw[u_]at CC;obtain⟨i0,m7,m8,m9,n2⟩:=info_parts zAZ.info;clear h9;go_upto_region 28 with fail
   refine' relyN2 [⟨151, [],.kn _⟩,⟨152, [151],.kn _⟩,⟨153, [],.kn _⟩,⟨154, [],.kn _⟩,⟨155, [],.kn _⟩,⟨156, [],.kn _⟩,⟨157, [155,156],.kn (.int .i64 (qQ c 2 (ZZ t c f x.duty y.duty)))⟩,⟨158, [153,154,157],.kn _⟩,⟨159, [158],.bs 1 1 (.cells #[.int .i64 (i:Nat),.int .i64 (jn:Nat),(qQ c 2 (ZZ t c f x.duty y.duty))] 144)⟩] [0,8,13,16,18] [152,159] (λ_ h=>And.intro (zD m2 ml h) (As ml h.size)) ?h1 ?c1 ?f1
   case h1=>
    intro u;simp only[Df,Jm,↓reduceIte,Nat.reduceEqDiff];intros
    refine⟨?_,?_,?_,?_,?_,?_,?_,?_,?_,trivial⟩
    all_goals try (intros;refine Fy (by assumption) ?_;go_simp <;> rfl)
    . intro A i1 e D g f1 f2 K k2;clear g;go_simp;refine(CC.1 i1 D).mono ?_;rintro e' C0 ⟨rfl,h⟩;exact k2.1 _ _ ⟨h,rfl⟩
    intro A i1 e D g f1 K k2;go_simp;exact k2.1 _ _ ⟨J _ _,rfl,zh _ _⟩
   case c1=>kernel_rfl
   intro u i1 D;simp only[Df,Hu,Jm,Act.put,O,↓reduceIte,Nat.reduceEqDiff];rintro e1 ⟨p,e2,hp,hq⟩;have S7:=I (S6.1.call D);have ow:=S7.1.lk;rw[t7.1,<-e1]at ow;refine wp_append_lies _ (.tmp 152) (.tmp 159) 63 rfl Z.heap.size 144 i0 (.agg #[.int .i64 0,.int .i64 0,.int .i64 0]) 3 24 zAZ.ht m7 m8 m9 n2 zAZ.zs zAZ.pos (u 152) kn (((qP t c f L i++(q.take m).flatMap (zAb t c f L i)).map QV).flatten) rfl ow ⟨p,0,none⟩ 1 1 [.int .i64 (i:Nat),.int .i64 (jn:Nat),.int .i64 (qQ c 2 (ZZ t c f x.duty y.duty))] e2 rfl (World.news_of_block hq) (by intro u hu;simp at hu;rcases hu with rfl|rfl|rfl <;> rfl) (by decide) (by unfold maxLen;omega) (by omega) S7.1.ag.1 i1.heap.size rfl ?_;intro g3 c3 C0 hO hG hA _;rw[e1]at hG hA;have SY:=(S7.1.stay hG).2.2.1;have s2:=zm (j:=2) SY rfl;have E1:=zQ (j:=2) SY;have sl:=Ag SY;have S8:=I (S7.1.linkK t7.1 B8.1 hG hO hA);clear e1 e2 hp hq hO hG hA ow SY D m2 ml CC B9 B7 S7 S6 t6;go_simp;go_wp2;go_roundw
   case rel=>exact⟨m+1,.slice (some ⟨g3,0,none⟩) (kn+1) c3,by omega,by go_num,S8⟩
   case measure=>simp[intOf];omega
 have D4:(k:Int)<(L.length:Int):=by omega
 obtain⟨g,o,rfl,hg,hc⟩:=(HA.1.below N.1.bel).cells (by omega);obtain⟨da,dc,z0,z1,z2,z3,z4,z5,z6,g7,n3⟩:=hc k b0;obtain⟨x,hx⟩:∃x,x=Hx L k:=⟨_,rfl⟩;have s:=j7.1 k b0;rw[<-hx]at z0 z1 z2 z3 z4 z5 z6 g7 n3 s;obtain⟨E2,E3,_,_⟩:=Ka s.d;have X:=I hx;have b7:=I s;have T1:=I n3;clear hc hx n3 s;go_upto_region 7 with fail
 have B1:=J Z (Obj.cells #[.slice da x.duty.length dc,x.rep,x.rel,.string x.src,.string x.dst,x.cost,x.cred] 50);have q1:=zh Z (Obj.cells #[.slice da x.duty.length dc,x.rep,x.rel,.string x.src,.string x.dst,x.cost,x.cred] 50);have s1:=zr Z (Obj.cells #[.slice da x.duty.length dc,x.rep,x.rel,.string x.src,.string x.dst,x.cost,x.cred] 50);obtain⟨z,b5⟩:∃z,z=Z.heap.size:=⟨_,rfl⟩;rw[<-b5]at q1 s1;simp only[<-b5];generalize Z.alloc (Obj.cells #[.slice da x.duty.length dc,x.rep,x.rel,.string x.src,.string x.dst,x.cost,x.cred] 50)=w1 at*;have t8:=I B1;have b8:=I (show Z.heap.size<=z/\z<w1.heap.size by omega);have QX:=I q1;clear B1 q1 s1 b5 z0 z1 z2 z3 z4 z5 z6;have c0:=zm (j:=0) QX.1 rfl;have cl:=Ag QX.1;go_wp2_with fail;refine(zCb x.duty da dc w1 (by omega) (by omega) (T1.1.below t8.1)).mono ?_;rintro e w2 ⟨v',rfl,b4,B2⟩;obtain⟨sa,sc,rfl⟩:=Js b4;have b4:=I b4;have d5:=I (Ac B2 QX.1);have t9:=I (Ab t8.1 B2);have u0:=I B2;clear c0 cl B2;have c0:=zm (j:=0) d5.1 rfl;have y0:=zQ (j:=0) d5.1;have cl:=Ag d5.1;go_upto_region 8 with fail
 have u1:=I (t9.1.setCell (p:=⟨z,0,none⟩) (show Z.heap.size<=z from b8.1.1) (.slice sa x.duty.length sc));have S:=I (show(w2.setCell ⟨z,0,none⟩ (.slice sa x.duty.length sc)).heap[z]?=some (Obj.cells #[.slice sa x.duty.length sc,x.rep,x.rel,.string x.src,.string x.dst,x.cost,x.cred] 50) from(zg d5.1).trans rfl);have n4:=I (show Hj lo (.slice sa x.duty.length sc) x.duty (w2.setCell ⟨z,0,none⟩ (.slice sa x.duty.length sc)) from(Hj.sets (w:=Z) (lo:=w1.heap.size) (b:=z) b8.1.2 [.slice sa x.duty.length sc] 0 b4.1).base (by have:=b8.1;have:=N.1.sz;omega));clear c0 y0 cl b4 d5 t9 u0;generalize w2.setCell ⟨z,0,none⟩ (.slice sa x.duty.length sc)=w3 at*;have B:=I (N.1.call u1.1);have u2:=I N.1.sz;have n5:=I (show ∀j,(U j).ownBlock≠some z from λj e=>by have h1:=(N.1.iv.lt e).2;have h2:=b8.1;omega);have lk:k*7+7<=G.length:=by have:=N.1.lcs;omega
 clear N;have r0:=zm (j:=0) S.1 rfl;have r1:=zm (j:=1) S.1 rfl;have r2:=zm (j:=2) S.1 rfl;have r3:=zm (j:=3) S.1 rfl;have r4:=zm (j:=4) S.1 rfl;have r5:=zm (j:=5) S.1 rfl;have r6:=zm (j:=6) S.1 rfl;have rl:=Ag S.1;have m1:=zm (j:=1) B.1.qm rfl;have ml:=Ag B.1.qm;have e0:=zm (j:=k*7) B.1.ql (show G.toArray[k*7]?=some (G[k*7]'(by omega)) by simp);have f0:=zQ (j:=k*7) B.1.ql;have e1:=zm (j:=k*7+1) B.1.ql (show G.toArray[k*7+1]?=some (G[k*7+1]'(by omega)) by simp);have f1:=zQ (j:=k*7+1) B.1.ql;have e2:=zm (j:=k*7+2) B.1.ql (show G.toArray[k*7+2]?=some (G[k*7+2]'(by omega)) by simp);have f2:=zQ (j:=k*7+2) B.1.ql;have e3:=zm (j:=k*7+3) B.1.ql (show G.toArray[k*7+3]?=some (G[k*7+3]'(by omega)) by simp);have f3:=zQ (j:=k*7+3) B.1.ql;have e4:=zm (j:=k*7+4) B.1.ql (show G.toArray[k*7+4]?=some (G[k*7+4]'(by omega)) by simp);have f4:=zQ (j:=k*7+4) B.1.ql;have e5:=zm (j:=k*7+5) B.1.ql (show G.toArray[k*7+5]?=some (G[k*7+5]'(by omega)) by simp);have f5:=zQ (j:=k*7+5) B.1.ql;have e6:=zm (j:=k*7+6) B.1.ql (show G.toArray[k*7+6]?=some (G[k*7+6]'(by omega)) by simp);have f6:=zQ (j:=k*7+6) B.1.ql;have sl:=Ag B.1.ql;go_upto_region 9 with fail
 have i2:z≠r/\z≠vb/\z≠D/\lo<=z/\r<lo:=by have:=B.1.ord;have:=b8.1;have:=u2.1;omega
 have u3:=I i2;have C1:=I (show z≠mb by have:=B.1.ord;have:=b8.1;have:=u2.1;omega);have b9:=I (show N1 w lo nb r mb vb D t c f L (k+1) k M (U 0) (U 1) U Q (setN G (k*7) [.slice sa x.duty.length sc,.int .i64 x.rep,.int .i64 x.rel,.string x.src,.string x.dst,.int .i64 x.cost,.int .i64 x.cred]) C (stN r (k*7) [.slice sa x.duty.length sc,.int .i64 x.rep,.int .i64 x.rel,.string x.src,.string x.dst,.int .i64 x.cost,.int .i64 x.cred] w3) from B.1.legs b0 (da:=sa) (dc:=sc) (by rw[<-X.1];omega) (by rw[<-X.1];exact zAP T1.1) (by rw[<-X.1];exact n4.1) (by rw[<-X.1]));have d6:=I ((lG i2.1 [.slice sa x.duty.length sc,.int .i64 x.rep,.int .i64 x.rel,.string x.src,.string x.dst,.int .i64 x.cost,.int .i64 x.cred] (k*7) w3).trans S.1);have n6:=I (zz3 n4.1 (jR.stN i2.2.2.2.2 [.slice sa x.duty.length sc,.int .i64 x.rep,.int .i64 x.rel,.string x.src,.string x.dst,.int .i64 x.cost,.int .i64 x.cred] (k*7) w3));simp only[stN,Nat.add_assoc,Nat.reduceAdd]at b9 d6 n6;clear i2 r0 r1 r2 r3 r4 r5 r6 rl m1 ml e0 e1 e2 e3 e4 e5 e6 f0 f1 f2 f3 f4 f5 f6 sl lk B S n4 u1;generalize ((((((w3.setCell ⟨r,k*7,none⟩ (.slice sa x.duty.length sc)).setCell ⟨r,k*7+1,none⟩ (.int .i64 x.rep)).setCell ⟨r,k*7+2,none⟩ (.int .i64 x.rel)).setCell ⟨r,k*7+3,none⟩ (.string x.src)).setCell ⟨r,k*7+4,none⟩ (.string x.dst)).setCell ⟨r,k*7+5,none⟩ (.int .i64 x.cost)).setCell ⟨r,k*7+6,none⟩ (.int .i64 x.cred)=w4 at*;obtain⟨E4,E5,i3,-,d4⟩:=Hj.at n6.1 (zAP T1.1);cases i3;have CV:=I (zAa w4 sb t c P (HS.1.below b9.1.bel) x.duty sa sc b7.1.d d4);have r0:=zm (j:=0) d6.1 rfl;have rl:=Ag d6.1;clear d4 n6;go_wp2_with fail;refine CV.1.mono ?_;rintro e w5 ⟨b,C2,rfl,hI,B5⟩;have c5:=I (b9.1.call B5);have u4:=I (Ac B5 d6.1);have HB:=I (And.intro (show lo<=b by have:=b9.1.sz;omega) (And.intro (hI.lt (by simp[Bo])) (And.intro (show zW w5 (some ⟨b,0,none⟩) (Bo t c (Hx L k).duty) by rw[<-X.1];exact hI) (show ∀j,(U j).ownBlock≠some b from λj e=>by have:=(b9.1.iv.lt e).2;omega))));clear r0 rl C2 hI B5 b9 d6 CV;have lv:k<C.length:=by have:=c5.1.lvs;omega
 have v1:=zm (j:=k) c5.1.qv (show C.toArray[k]?=some (C[k]'lv) by simp);have v2:=zQ (j:=k) c5.1.qv;have v3:=Ag c5.1.qv;go_upto_region 10 with fail
 have n7:=I (c5.1.val b0 HB.1.1 HB.1.2.1 HB.1.2.2.1 HB.1.2.2.2);have i4:=I ((Below.heap_setCell w5 ⟨vb,k,none⟩ (.slice (some ⟨b,0,none⟩) 11 11) _ u3.1.2.1).trans u4.1);clear v1 v2 v3 lv c5 u4 HB;generalize w5.setCell ⟨vb,k,none⟩ (.slice (some ⟨b,0,none⟩) 11 11)=w6 at*;obtain⟨fx,n8⟩:∃n,n=2+fIx L x.src:=⟨_,rfl⟩;have n9:=MI.1.look b0;rw[<-X.1,<-n8]at n9;have C3:=I n9;have o0:=I n8;have E6:2<=fx:=by omega
 clear n9 n8;have E7:(Q fx).length<=60:=by
  have h:=MI.1.q k b0;rw[<-X.1,<-o0.1]at h;rw[h];have:=zzX (λj=>decide ((Hx L j).src=x.src)) k;show(jQ _ k).length<=60
  omega
 have i5:=I (show(λY:World=>Y.cell? ⟨z,3,none⟩=some (.string x.src)/\z<Y.heap.size/\Dl prog Y D .string M) w6.drew from⟨zm (j:=3) (Ac (dr w6 1) i4.1) rfl,Ag (Ac (dr w6 1) i4.1),(n7.1.call (dr w6 1)).mp⟩);have i6:=I (n7.1.call (dr w6 1));have i7:=I (Ac (dr w6 1) i4.1);obtain⟨i0,m7,m8,m9,n2⟩:=info_parts cF.info;refine aE λA0 hA0=>?_
 have F:A0.tmps.size=165:=by rw[hA0];rfl
 refine zCP (λY=>Y.cell? ⟨z,3,none⟩=some (.string x.src)/\z<Y.heap.size/\Dl prog Y D .string M) [10] [(10,.map (some D)),(12,.pointer (some ⟨z,0,none⟩)),(11,.int .i64 k)] F (by rw[hA0];rfl) ?_;refine rxQ 0 51 (.map (some D)) rfl F ?_;refine rxQ 1 52 (.pointer (some ⟨z,3,none⟩)) rfl F ?_;refine rxT 2 53 (.string x.src) [[]] rfl F i5.1 ?_ ?_
 . intro A Y e hS;obtain⟨c6,c7,d0⟩:=e.at (t:=52) (V:=.pointer (some ⟨z,3,none⟩)) rfl;obtain⟨c0,cl,-⟩:=hS;go_simp
 refine rxQ 3 54 (.map (some D)) rfl F ?_;refine rxQ 4 55 (.pointer (some ⟨z,3,none⟩)) rfl F ?_;refine rxT 5 56 (.string x.src) [[]] rfl F i5.1 ?_ ?_
 . intro A Y e hS;obtain⟨c6,c7,d0⟩:=e.at (t:=55) (V:=.pointer (some ⟨z,3,none⟩)) rfl;obtain⟨c0,cl,-⟩:=hS;go_simp
 refine rxT 6 57 (U fx) [[]] rfl F i5.1 ?_ ?_
 . intro A Y e hS;obtain⟨c6,c7,d0⟩:=e.at (t:=54) (V:=.map (some D)) rfl;obtain⟨u5,u6,u7⟩:=e.at (t:=56) (V:=.string x.src) rfl;have hl:=lookL hS.2.2 x.src;rw[C3.1]at hl;go_simp
 refine rxQ 7 58 (.int .i64 k) rfl F ?_;refine rxO 8 59 rfl F (λA e K hK=>?_);obtain⟨c6,c7,d0⟩:=e.at (t:=58) (V:=.int .i64 k) rfl;go_simp;refine hK.1 _ _ (λ_ h=>⟨zD h.1 h.2.1 (J _ _),As h.2.1 (J _ _).size,h.2.2.below (J _ _)⟩) ?_;clear hK e A K c6 c7 d0;refine rxO 9 60 rfl F (λA e K hK=>?_);refine wp_append_lies _ (.tmp 57) (.tmp 59) 22 rfl lo 3 i0 (.int .i64 0) 1 8 cF.ht m7 m8 m9 n2 cF.zs cF.pos (U fx) (Q fx).length ((Q fx).map (Value.int .i64)) ((e.1 57).trans rfl) ((i6.1.iv.own fx).alloc _) ⟨w6.drew.heap.size,0,none⟩ 1 1 [.int .i64 k] ((e.1 59).trans rfl) rfl (Hh w6.drew [.int .i64 k] 3) (by intro u hu;simp at hu;subst hu;rfl) (by decide) (by unfold maxLen;omega) (by omega) (Bf i6.1.sz (J _ _).size) (w6.drew.heap.size+1) (by simp) ?_;intro g1 i8 w7 hO hG o7 _;have i9:=I (i6.1.app hG hO o7)
 have u8:=I (show(Value.slice (some ⟨g1,0,none⟩) ((Q fx).length+1) i8).ownBlock≠some z from λh=>by
  have h2:g1=z:=by simpa[Value.ownBlock] using h
  have h3:=(show z<w6.drew.heap.size from Ag i7.1);rcases o7 with h1|h1
  . exact n5.1 fx (by rw[h1,h2])
  omega)
 have d8:=I (show w7.heap[z]?=some (Obj.cells #[.slice sa x.duty.length sc,x.rep,x.rel,.string x.src,.string x.dst,x.cost,x.cred] 50) from(hG.block z (As (Ag i7.1) (J _ _).size) (λh=>n5.1 fx h.symm)).trans (Ac (J _ _) i7.1));refine hK.1 _ _ (λ_ _=>⟨zm (j:=3) d8.1 rfl,Ag d8.1,i9.1.mp⟩) ?_;clear hK e A K hO hG o7;refine rxS 10 rfl F (λA e K hK=>?_);obtain⟨c6,c7,d0⟩:=e.at (t:=51) (V:=.map (some D)) rfl;obtain⟨u5,u6,u7⟩:=e.at (t:=53) (V:=.string x.src) rfl;obtain⟨C4,C5,C6⟩:=e.at (t:=60) (V:=.slice (some ⟨g1,0,none⟩) ((Q fx).length+1) i8) rfl;obtain⟨w8,P1,M2,g2⟩:=putL i9.1.mp x.src (.slice (some ⟨g1,0,none⟩) ((Q fx).length+1) i8);have a2:=I (i9.1.map g2 M2);have d9:=I ((g2.block z (Ag d8.1) (λh=>u3.1.2.2.1 (by simpa using h))).trans d8.1);go_simp;refine hK.1 _ (λh=>absurd (by decide) h) ?_;clear hK e A K c6 c7 d0 u5 u6 u7 C4 C5 C6 P1 M2 g2 i9 d8 i6 i7 i5;refine zCQ ?_;rw[hA0];simp only[Dj,Act.put,O];clear hA0 F n7 i4;have C7:(Q 0).length<=60:=by
  rw[MI.1.q0];have:=zzX (λj=>(Hx L j).src.toList==f.toList) k;omega
 have i3:(Q 1).length<=60:=by
  rw[MI.1.q1];have:=zzX (λj=>(Hx L j).dst.toList==f.toList) k;omega
 obtain⟨vf,o8⟩:∃v,v=Value.slice (some ⟨g1,0,none⟩) ((Q fx).length+1) i8:=⟨_,rfl⟩;obtain⟨U1,f8⟩:∃U1,U1=BW U fx vf:=⟨_,rfl⟩;obtain⟨Q1,j0⟩:∃Q1,Q1=SX Q fx (Q fx++ [(k:Int)]):=⟨_,rfl⟩;have E0:U 0=U1 0/\U 1=U1 1/\Q 0=Q1 0/\Q 1=Q1 1:=by
  rw[f8,j0];unfold BW SX
  rw[if_neg (by omega),if_neg (by omega),if_neg (by omega),if_neg (by omega)];exact⟨rfl,rfl,rfl,rfl⟩
 rw[<-o8,<-f8,<-j0,E0.1,E0.2.1]at a2;rw[E0.2.2.1]at C7;rw[E0.2.2.2]at i3;obtain⟨M1,o9⟩:∃M1,M1=Dd M (.string x.src) vf:=⟨_,rfl⟩;rw[<-o9]at a2
 have f9:=I (show ∀j,(U1 j).ownBlock≠some z from λj=>by
  rw[f8];unfold BW
  by_cases e:j=fx
  . rw[if_pos e,o8];exact u8.1
  rw[if_neg e];exact n5.1 j)
 have E0:=I E0;have u9:=I f8;have v0:=I j0;have v4:=I o9;clear f8 j0 o9 o8 u8;generalize setN G (k*7) [.slice sa x.duty.length sc,.int .i64 x.rep,.int .i64 x.rel,.string x.src,.string x.dst,.int .i64 x.cost,.int .i64 x.cred]=j1 at*;generalize C.set k (.slice (some ⟨b,0,none⟩) 11 11)=a9 at*;go_upto_region 11 with fail
 have r3:=zm (j:=3) d9.1 rfl;have rl:=Ag d9.1;go_upto_if 64 with(fail)
 go_cut [] (λwx=>∃(Ua:Nat->Value) (Qa:Nat->List Int),Af (N1 w lo nb r mb vb D t c f L (k+1) (k+1) M1 (Ua 0) (U1 1) Ua Qa j1 a9 wx)/\Af (wx.heap[z]?=some (Obj.cells #[.slice sa x.duty.length sc,x.rep,x.rel,.string x.src,.string x.dst,x.cost,x.cred] 50))/\Af (∀i,1<=i->Ua i=U1 i/\Qa i=Q1 i)/\Af (Qa 0= []->Ua 0=.slice none 0 0)/\Af (Qa 0=jQ (λj=>(Hx L j).src.toList==f.toList) (k+1))/\Af ((Ua 1).ownBlock≠some z))
 case first=>
  cases hs:(x.src.toList==f.toList)
  . have HP:=I (show Q1 0=jQ (λj=>(Hx L j).src.toList==f.toList) (k+1) by rw[zBY (by rw[<-X.1];exact hs),<-E0.1.2.2.1];exact MI.1.q0);have HN:=I (show Q1 0= []->U1 0=.slice none 0 0 by rw[<-E0.1.1,<-E0.1.2.2.1];exact MI.1.nil 0);clear hs;go_wp2;go_meet
    case rel=>exact⟨U1,Q1,a2,d9,I (λ_ _=>⟨rfl,rfl⟩),HN,HP,I (f9.1 1)⟩
  have HP:=I (show Q1 0++ [(k:Int)]=jQ (λj=>(Hx L j).src.toList==f.toList) (k+1) by rw[zBw (by rw[<-X.1];exact hs),<-E0.1.2.2.1,MI.1.q0]);have m3:=zm (j:=3) a2.1.qm rfl;have ml:=Ag a2.1.qm;have p7:=a2.1.sz;have ow:=a2.1.iv.own 0;have g0:=d9;have p8:=I (f9.1 0);clear hs r3 rl;go_wp2_with (at_builtin;refine Zw cF p7 ow [.int .i64 (k:Nat)] rfl rfl rfl rfl rfl (by simp[Value.oneCell']) (by omega) ?_;intro g8 c8 wA hO hG hA;have SA:=a2.1.app hG hO hA;have q3:=zm (j:=3) SA.qm rfl;have C8:=zQ (j:=3) SA.qm;have sl:=Ag SA.qm;have v5:=I (show wA.heap[z]?=some (Obj.cells #[.slice sa x.duty.length sc,x.rep,x.rel,.string x.src,.string x.dst,x.cost,x.cred] 50) from(hG.block z (by have:=Ag g0.1;simp;omega) (λh=>p8.1 h.symm)).trans (Ac (J _ _) g0.1));have SB:=I (SA.set0 (.slice (some ⟨g8,0,none⟩) ((Q1 0).length+1) c8));clear hO hG hA SA)
  go_meet
  case rel=>exact⟨BW U1 0 (.slice (some ⟨g8,0,none⟩) ((Q1 0).length+1) c8),SX Q1 0 (Q1 0++ [(k:Int)]),SB,I ((Below.heap_setCell _ ⟨mb,3,none⟩ _ _ C1.1).trans v5.1),I (λi hi=>⟨if_neg (by omega),if_neg (by omega)⟩),I (λh=>by simp[SX]at h),HP,I (f9.1 1)⟩
 obtain⟨Ua,Qa,SA,p9,H,v6,v7,C9⟩:=hcut;obtain⟨wz,D0⟩:∃v:World,v=wc:=⟨_,rfl⟩;subst D0;clear a2 d9 r3 rl;rw[<-(H.1 1 (by omega)).2]at i3;have r4:=zm (j:=4) p9.1 rfl;have rl:=Ag p9.1;go_upto_if 74 with(fail)
 cases hs:(x.dst.toList==f.toList)
 . have HP:=I (show Qa 1=jQ (λj=>(Hx L j).dst.toList==f.toList) (k+1) by rw[(H.1 1 (by omega)).2,zBY (by rw[<-X.1];exact hs),<-E0.1.2.2.2];exact MI.1.q1);have HN:=I (show Qa 1= []->Ua 1=.slice none 0 0 by rw[(H.1 1 (by omega)).1,(H.1 1 (by omega)).2,<-E0.1.2.1,<-E0.1.2.2.2];exact MI.1.nil 1);have HE:=I (H.1 1 (by omega)).1;clear hs;go_wp2;go_roundw
   case rel=>
    refine⟨k+1,M1,Ua,Qa,j1,a9,by omega,by go_num,I ?_,I (by rw[HE.1];exact SA.1)⟩;rw[v4.1]
    exact MI.1.step b0 X.1 o0.1 (λi hi=>by rw[(H.1 i (by omega)).1,u9.1]) (λi hi=>by rw[(H.1 i (by omega)).2,v0.1]) (λi hi h=>by
     obtain rfl|rfl:i=0\/i=1:=by omega
     . exact v6.1 h
     exact HN.1 h) v7.1 HP.1
   case measure=>simp[intOf];omega
 have HP:=I (show Qa 1++ [(k:Int)]=jQ (λj=>(Hx L j).dst.toList==f.toList) (k+1) by rw[(H.1 1 (by omega)).2,zBw (by rw[<-X.1];exact hs),<-E0.1.2.2.2,MI.1.q1]);have g4:=I (show N1 w lo nb r mb vb D t c f L (k+1) (k+1) M1 (Ua 0) (Ua 1) Ua Qa j1 a9 wz from by rw[(H.1 1 (by omega)).1];exact SA.1);have m4:=zm (j:=4) g4.1.qm rfl;have ml:=Ag g4.1.qm;have p7:=g4.1.sz;have ow:=g4.1.iv.own 1;have g0:=p9;have p8:=C9;clear hs r4 rl SA;go_wp2_with (at_builtin;refine Zw cF p7 ow [.int .i64 (k:Nat)] rfl rfl rfl rfl rfl (by simp[Value.oneCell']) (by omega) ?_;intro g9 c9 wB hO hG hA;have SA:=g4.1.app hG hO hA;have q3:=zm (j:=4) SA.qm rfl;have C8:=zQ (j:=4) SA.qm;have sl:=Ag SA.qm;have v5:=I (show wB.heap[z]?=some (Obj.cells #[.slice sa x.duty.length sc,x.rep,x.rel,.string x.src,.string x.dst,x.cost,x.cred] 50) from(hG.block z (by have:=Ag g0.1;simp;omega) (λh=>p8.1 h.symm)).trans (Ac (J _ _) g0.1));have SC:=I (SA.set1 (.slice (some ⟨g9,0,none⟩) ((Qa 1).length+1) c9));clear hO hG hA SA)
 go_roundw
 case rel=>
  refine⟨k+1,M1,BW Ua 1 (.slice (some ⟨g9,0,none⟩) ((Qa 1).length+1) c9),SX Qa 1 (Qa 1++ [(k:Int)]),j1,a9,by omega,by go_num,I ?_,SC⟩;rw[v4.1]
  exact MI.1.step b0 X.1 o0.1 (λi hi=>by rw[BW,if_neg (by omega),(H.1 i (by omega)).1,u9.1]) (λi hi=>by rw[SX,if_neg (by omega),(H.1 i (by omega)).2,v0.1]) (λi hi h=>by
   obtain rfl|rfl:i=0\/i=1:=by omega
   . exact v6.1 h
   simp[SX]at h) v7.1 HP.1
 case measure=>simp[intOf];omega
end Go.Proofs.YtelojoopofolpaaGreat
