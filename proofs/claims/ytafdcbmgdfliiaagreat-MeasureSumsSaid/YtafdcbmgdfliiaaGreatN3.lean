/- a part of the proof -/
import Derived.Test.YtafdcbmgdfliiaaGreatM3
set_option linter.all false
set_option maxRecDepth 100000
set_option maxHeartbeats 3000000
namespace Go.Proofs.YtafdcbmgdfliiaaGreat
open Go.RowKit Go.Sort Go.Proofs.Tryz
def bldM(t:At)(c:Ad)(base:BA)(L:List gF):Int:=if bldE t c base L≠0 then bldE t c base L else if(SB t c base L L.length).length<=20000 then 0 else 10
section
variable {t:At} {c:Ad} {base:BA} {L:List gF}
theorem zDk{e:Int}(h:e=Sb t c (bldE t c base L))(b:e≠0):e=Sb t c (bldM t c base L):=by
 grind[zBR,bldM]
theorem zD7(h:0=Sb t c (bldE t c base L))(b:¬ (SB t c base L L.length).length<=20000):10=Sb t c (bldM t c base L):=by
 grind[zBR,bldM]
theorem zEg(h:0=Sb t c (bldE t c base L))(b:(SB t c base L L.length).length<=20000):0=Sb t c (bldM t c base L):=by
 grind[bldM]
end
theorem zDF(t:At)(c:Ad)(za:Ae)(zc:Nat)(aa:Ae)(ac:Nat)(fa:Ae)(fc:Nat)(p:Bd)(w:World)(k3:t.zn.length<=zc/\zc<=140737488355328/\t.ai.length<=ac/\ac<=140737488355328)(p7:c.cs.length<=p.cc/\p.cc<=9223372036854775807)(hT:Ea w t c za aa fa p)(l:ByteArray)(L:List gF)(a:Ae)(ca:Nat)(hL:L.length<=2000)(hA:zzU w a L):Calls prog 35 #[Az t za zc aa ac fa fc,Ay c p,.string l,.slice a L.length ca] w (NetR t c l L (Sb t c (bldM t c l L)) w):=by
 try delta Ay Az
 have f8:=I hT;have HA:=I hA;have d0:=I k3;have h6:=I p7;have x5:t.ai.length<=140737488355328:=by omega
 clear hT hA k3 p7;go_enter func35,ntmps35
 go_wp2_with fail;obtain⟨hB,k8,k9,l0⟩:=cB w t c za zc aa ac fa fc p jD;obtain⟨tb,l4⟩:∃tb,tb=w.heap.size:=⟨_,rfl⟩;obtain⟨cb,l5⟩:∃cb,cb=w.heap.size+1:=⟨_,rfl⟩;obtain⟨nb,l6⟩:∃nb,nb=w.heap.size+1+1:=⟨_,rfl⟩;rw[<-l6]at l0;rw[<-l5]at k9;rw[<-l4]at k8;simp only[<-l6];simp only[<-l5];simp only[<-l4];have d8:=I (show w.heap.size<=nb by omega);have HB:=I hB;have QT:=I k8;have QC:=I k9;have QN:=I l0;clear l6 l5 l4 hB k8 k9 l0;generalize ((w.alloc (Ap t za zc aa ac fa fc)).alloc (Aj c p)).alloc jD=W0 at*;have h7:=I (f8.1.below HB.1);obtain⟨x0,x1,x2,xl⟩:=Ev QT.1;obtain⟨y0,y1,y2,y3,y4,y5,y6,y7,y8,y9,b6,b7,b8,b9,B⟩:=Ek QC.1;go_wp2_with fail;refine(kJ t c za zc aa ac fa fc p W0 W0.heap.size (Bv _) d0.1 h6.1 h7.1.z h7.1.a h7.1.f h7.1.c).mono ?_;rintro e w1 ⟨rfl,B1⟩;have f9:=I (Ab HB.1 B1);have i9:=I (Ac B1 QT.1);have l7:=I (Ac B1 QC.1);have h8:=I (Ac B1 QN.1);clear x0 x1 x2 xl y0 y1 y2 y3 y4 y5 y6 y7 y8 y9 b6 b7 b8 b9 B B1 QT QC QN HB h7;by_cases e0:Jn t c=0
 rotate_left
 . have HE:=I (show Jn t c=Sb t c (bldM t c l L) by rw[zBR,if_pos e0]);have e1:(Jn t c !=0)=true:=by simpa using e0
   have l8:=I e0;clear e0;have r:=h8.1;have s0:=zm (j:=0) r rfl;have s1:=zm (j:=1) r rfl;have s2:=zm (j:=2) r rfl;have s3:=zm (j:=3) r rfl;have s4:=zm (j:=4) r rfl;have y0:=zQ (j:=0) r;have y1:=zQ (j:=1) r;have y2:=zQ (j:=2) r;have y3:=zQ (j:=3) r;have y4:=zQ (j:=4) r;have sl:=Ag r;have QW:=I (Pr [.string ⟨#[]⟩,.slice none 0 0,.slice none 0 0,.slice none 0 0,.slice none 0 0] [] [.string ⟨#[]⟩,.slice none 0 0,.slice none 0 0,.slice none 0 0,.slice none 0 0] _ rfl r);have HR:=I (Tt (show w.heap.size<=nb from d8.1) [.string ⟨#[]⟩,.slice none 0 0,.slice none 0 0,.slice none 0 0,.slice none 0 0] 0 _ f9.1);clear r;simp only[stN,Nat.zero_add,Nat.reduceAdd,List.length_nil]at QW HR;go_wp2_with fail;refine bodyPost_ret (zA4 rfl rfl rfl QW.1) rfl ⟨_,_,rfl,HE.1,(λh=>absurd h l8.1),(λ_=>rfl),HR.1⟩
 have l9:=I (show Sb t c (bldE t c l L)=bldE t c l L by rw[zBR,if_neg (not_not_intro e0)]);have m5:=I e0;rw[e0];clear e0;obtain⟨x0,x1,x2,xl⟩:=Ev i9.1;go_wp2_with fail;refine(Pf t.ai l aa ac w1 ((f8.1.below f9.1).a) x5).mono ?_;rintro e w2 ⟨rfl,rfl⟩;have j0:=rL t l;clear x0 x1 x2 xl;cases hb:Mo t l
 . have hx:decide (Nd t.ai l<0)=true:=by rw[j0,hb];rfl
   have HE:=I (show(6:Int)=Sb t c (bldM t c l L) from zDk (l9.1.trans (if_pos hb)).symm (by decide));have x6:Nd t.ai l<0:=of_decide_eq_true hx;clear hb j0 hx;have r:=h8.1;have s0:=zm (j:=0) r rfl;have s1:=zm (j:=1) r rfl;have s2:=zm (j:=2) r rfl;have s3:=zm (j:=3) r rfl;have s4:=zm (j:=4) r rfl;have y0:=zQ (j:=0) r;have y1:=zQ (j:=1) r;have y2:=zQ (j:=2) r;have y3:=zQ (j:=3) r;have y4:=zQ (j:=4) r;have sl:=Ag r;have QW:=I (Pr [.string ⟨#[]⟩,.slice none 0 0,.slice none 0 0,.slice none 0 0,.slice none 0 0] [] [.string ⟨#[]⟩,.slice none 0 0,.slice none 0 0,.slice none 0 0,.slice none 0 0] _ rfl r);have HR:=I (Tt (show w.heap.size<=nb from d8.1) [.string ⟨#[]⟩,.slice none 0 0,.slice none 0 0,.slice none 0 0,.slice none 0 0] 0 _ f9.1);clear r;simp only[stN,Nat.zero_add,Nat.reduceAdd,List.length_nil]at QW HR;go_wp2_with fail;refine bodyPost_ret (zA4 rfl rfl rfl QW.1) rfl ⟨_,_,rfl,HE.1,(λh=>absurd h (by decide)),(λ_=>rfl),HR.1⟩
 have hx:decide (Nd t.ai l<0)=false:=by rw[j0,hb];rfl
 have x6:¬ Nd t.ai l<0:=of_decide_eq_false hx;have x7:=I hb;have HE:=I (show Sb t c (bldE t c l L)=Av (lgE t c L) 0 (L.length-0) from l9.1.trans (if_neg (by rw[hb];decide)));have x8:¬ (2000:Int)<(L.length:Int):=by omega
 clear hb j0 hx l9;go_upto_region 9 with fail
 have B2:=J w1 (Obj.cells #[.string l,.slice none 0 0,.slice none 0 0,.slice none 0 0,.slice none 0 0] 42);have q2:=zh w1 (Obj.cells #[.string l,.slice none 0 0,.slice none 0 0,.slice none 0 0,.slice none 0 0] 42);obtain⟨mb,m6⟩:∃mb,mb=w1.heap.size:=⟨_,rfl⟩;rw[<-m6]at q2;simp only[<-m6];have p8:=I (show w.heap.size<=mb by have:=f9.1.size;omega)
 have j1:=I (show nb≠mb/\tb≠mb/\cb≠mb by
  have h1:=Ag h8.1;have h2:=Ag i9.1;have h3:=Ag l7.1;omega)
 clear m6;generalize w1.alloc (Obj.cells #[.string l,.slice none 0 0,.slice none 0 0,.slice none 0 0,.slice none 0 0] 42)=W at*;have p9:=I (Ab f9.1 B2);have q5:=I (Ac B2 i9.1);have q6:=I (Ac B2 l7.1);have m7:=I (Ac B2 h8.1);have QM:=I q2;have q7:=I (Ag q2);clear B2 q2 i9 l7 h8 f9;go_wp2_with fail;go_loopw [12] (λi wr=>∃(k:Nat) (lv:Value) (U:Nat->Value) (Q:Nat->List Int),k<=L.length/\i=.int .i64 k/\Af (Av (lgE t c L) 0 (L.length-0)=Av (lgE t c L) k (L.length-k))/\Af (∀i,i<k->lgE t c L i=0)/\Af (Q 0=JB (λj=>(Qa L j).src.toList==l.toList) k/\Q 1=JB (λj=>(Qa L j).dst.toList==l.toList) k)/\Af (NSt w W.heap.size mb l [(nb,jD),(tb,Ap t za zc aa ac fa fc),(cb,Aj c p)] lv (.slice none 0 0) U (L.take k) [] Q wr)) (λi _=>L.length-(intOf i).toNat)
 case atStart=>exact⟨0,.slice none 0 0,λ_=>.slice none 0 0,λ_=> [],Bg _,rfl,I rfl,I (λi h=>absurd h (Nat.not_lt_zero i)),I ⟨rfl,rfl⟩,I (NSt.nil p9.1 p8.1 q7.1 (Bv _) (keep3 j1.1.1 m7.1 j1.1.2.1 q5.1 j1.1.2.2 q6.1) QM.1)⟩
 obtain⟨k,lv,U,Q,hk,rfl,b3,f6,HQ,ST⟩:=hrel;have BR:=I ST.1.br;have m8:=I ST.1.qm;have m9:=I (ST.1.at 0 rfl);have h9:=I (ST.1.at 1 rfl);have i0:=I (ST.1.at 2 rfl);have i1:=I ST.1.bel;have q8:=I ST.1.sz;by_cases c0:k<L.length
 rotate_left
 . obtain rfl:k=L.length:=by omega
   have r8:=I (show(0:Int)=Sb t c (bldE t c l L) from((HE.1.trans b3.1).trans (Nq (lgE t c L) L.length)).symm);have r9:=I (λi hi=>zBh (f6.1 i hi));have x9:=I (Ag m7.1);have s7:=I (show NSt w W.heap.size mb l [(nb,jD),(tb,Ap t za zc aa ac fa fc),(cb,Aj c p)] lv (.slice none 0 0) U L (SB t c l L 0) Q wr from by have h:=ST.1;rw[List.take_length]at h;exact h);clear b3 f6 BR m8 m9 h9 i0 i1 q8 ST HE q5 q6 m7 QM p9 j1 hk;go_wp2_with fail;go_loopw [15] (λiv wr=>∃(i:Nat) (kv:Value),i<=L.length/\iv=.int .i64 i/\Af (NSt w W.heap.size mb l [(nb,jD),(tb,Ap t za zc aa ac fa fc),(cb,Aj c p)] lv kv U L (SB t c l L i) Q wr)) (λiv _=>L.length-(intOf iv).toNat)
   case atStart=>exact⟨0,.slice none 0 0,Bg _,rfl,s7⟩
   obtain⟨i,kv,hi,rfl,S1⟩:=hrel;clear s7;by_cases t0:i<L.length
   rotate_left
   . obtain rfl:i=L.length:=by omega
     by_cases j2:(SB t c l L L.length).length<=20000
     rotate_left
     . have n0:¬ ((SB t c l L L.length).length:Int)<=20000:=by omega
       have D4:(20000:Int)<(SB t c l L L.length).length:=by omega
       have D5:(SB t c l L L.length).length<=4010000:=by
        have h1:=zz7 t c l L L.length;have h3:=Nat.mul_le_mul hL hL;omega
       have A1:=I (show(10:Int)=Sb t c (bldM t c l L) from zD7 r8.1 j2);obtain⟨a1,a3,a5,a7,a2,a4,a6,a8,rfl,rfl,g0,g7,-⟩:=S1.1.net;have a9:=S1.1.qm;rw[g0,g7]at a9;have m2:=zm (j:=2) a9 rfl;have ml:=Ag a9;clear g0 g7 a9 j2;have r:=(S1.1.at 0 rfl);have s0:=zm (j:=0) r rfl;have s1:=zm (j:=1) r rfl;have s2:=zm (j:=2) r rfl;have s3:=zm (j:=3) r rfl;have s4:=zm (j:=4) r rfl;have y0:=zQ (j:=0) r;have y1:=zQ (j:=1) r;have y2:=zQ (j:=2) r;have y3:=zQ (j:=3) r;have y4:=zQ (j:=4) r;have sl:=Ag r;have QW:=I (Pr [.string ⟨#[]⟩,.slice none 0 0,.slice none 0 0,.slice none 0 0,.slice none 0 0] [] [.string ⟨#[]⟩,.slice none 0 0,.slice none 0 0,.slice none 0 0,.slice none 0 0] _ rfl r);have HR:=I (Tt (show w.heap.size<=nb from d8.1) [.string ⟨#[]⟩,.slice none 0 0,.slice none 0 0,.slice none 0 0,.slice none 0 0] 0 _ S1.1.bel);clear r;simp only[stN,Nat.zero_add,Nat.reduceAdd,List.length_nil]at QW HR;go_wp2_with fail;refine bodyPost_ret (zA4 rfl rfl rfl QW.1) rfl ⟨_,_,rfl,A1.1,(λh=>absurd h (by decide)),(λ_=>rfl),HR.1⟩
     have A2:=I (show(0:Int)=Sb t c (bldM t c l L) from zEg r8.1 j2);have n0:((SB t c l L L.length).length:Int)<=20000:=by omega
     clear j2;obtain⟨a1,a3,a5,a7,a2,a4,a6,a8,rfl,rfl,g0,g7,N1,N2,N3,N4⟩:=S1.1.net;rw[show Q 0=zzW l L from HQ.1.1]at g0 N3;rw[show Q 1=zzZ l L from HQ.1.2]at g7 N4;have a9:=S1.1.qm;rw[g0,g7]at a9;have A3:=I N1;have A4:=I N2;have A5:=I N3;have A6:=I N4;have m0:=zm (j:=0) a9 rfl;have m1:=zm (j:=1) a9 rfl;have m2:=zm (j:=2) a9 rfl;have m3:=zm (j:=3) a9 rfl;have m4:=zm (j:=4) a9 rfl;have ml:=Ag a9;have r:=S1.1.at 0 rfl;have s0:=zm (j:=0) r rfl;have s1:=zm (j:=1) r rfl;have s2:=zm (j:=2) r rfl;have s3:=zm (j:=3) r rfl;have s4:=zm (j:=4) r rfl;have y0:=zQ (j:=0) r;have y1:=zQ (j:=1) r;have y2:=zQ (j:=2) r;have y3:=zQ (j:=3) r;have y4:=zQ (j:=4) r;have sl:=Ag r;have QW:=I (Pr [.string l,.slice a1 L.length a2,.slice a3 (SB t c l L L.length).length a4,.slice a5 (zzW l L).length a6,.slice a7 (zzZ l L).length a8] [] [.string ⟨#[]⟩,.slice none 0 0,.slice none 0 0,.slice none 0 0,.slice none 0 0] _ rfl r);have HR:=I (Tt d8.1 [.string l,.slice a1 L.length a2,.slice a3 (SB t c l L L.length).length a4,.slice a5 (zzW l L).length a6,.slice a7 (zzZ l L).length a8] 0 _ S1.1.bel);have AG:=Agr.stN (lo:=W.heap.size) x9.1 [.string l,.slice a1 L.length a2,.slice a3 (SB t c l L L.length).length a4,.slice a5 (zzW l L).length a6,.slice a7 (zzZ l L).length a8] 0 wr;have d1:w.heap.size<=W.heap.size:=by have:=p8.1;have:=q7.1;omega
     clear r a9 g0 g7 N1 N2 N3 N4 S1;simp only[stN,Nat.zero_add,Nat.reduceAdd,List.length_nil]at QW HR AG;have j3:=I AG;clear AG;go_wp2_with fail;refine bodyPost_ret (zA4 rfl rfl rfl QW.1) rfl ⟨_,_,rfl,A2.1,λ_=>⟨a1,a3,a5,a7,a2,a4,a6,a8,rfl,(A3.1.to j3.1).le d1,(A4.1.to j3.1).le d1,(A5.1.to j3.1).le d1,(A6.1.to j3.1).le d1⟩,(λh=>absurd rfl h),HR.1⟩
   have D2:(i:Int)<(L.length:Int):=by omega
   have t3:=I (show NSt w W.heap.size mb l [(nb,jD),(tb,Ap t za zc aa ac fa fc),(cb,Aj c p)] lv kv U L (SB t c l L i++zz1 t c l L i 0) Q wr from by have h:=S1.1;rw[zz1,List.append_nil];exact h);clear S1;go_wp2_with fail;go_loopw [16] (λjv wr=>∃(k:Nat) (kv:Value),k<=L.length/\jv=.int .i64 k/\Af (NSt w W.heap.size mb l [(nb,jD),(tb,Ap t za zc aa ac fa fc),(cb,Aj c p)] lv kv U L (SB t c l L i++zz1 t c l L i k) Q wr)) (λjv _=>L.length-(intOf jv).toNat)
   case atStart=>exact⟨0,kv,Bg _,rfl,t3⟩
   obtain⟨k,kv,hk,rfl,S2⟩:=hrel;clear t3;by_cases t4:k<L.length
   rotate_left
   . obtain rfl:k=L.length:=by omega
     go_wp2;go_roundw
     case rel=>exact⟨i+1,kv,by omega,by go_num,S2⟩
     case measure=>simp[intOf];omega
   have D3:(k:Int)<(L.length:Int):=by omega
   obtain⟨g,o,rfl,hg,hc⟩:=(HA.1.below S2.1.bel).cells (by omega);have HC:=I hc;clear hc;obtain⟨wk,A7⟩:∃v:World,v=wr:=⟨_,rfl⟩;subst A7;obtain⟨x,hx⟩:∃x,x=Qa L i:=⟨_,rfl⟩;obtain⟨y,hy⟩:∃y,y=Qa L k:=⟨_,rfl⟩;have h4:=I (show _/\_ from zCy (zCe m5.1).1 (zCe m5.1).2 x7.1 (r9.1 i t0) (r9.1 k t4));obtain⟨t5,t6,p0,p1,p2,p3,p4,-,-,c4,d9⟩:=HC.1 i t0;obtain⟨t7,t8,q0,q1,q2,q3,q4,-,-,d3,b4⟩:=HC.1 k t4;rw[<-hx]at p0 p1 p2 p3 p4 c4 d9;rw[<-hy]at q0 q1 q2 q3 q4 d3 b4;have HX:=I hx;have HY:=I hy;rw[<-hx,<-hy]at h4;have T1:=I d9;have T2:=I b4;clear hx hy d9 b4 HC;go_upto_region 30 with fail
   go_cut [148] (λcv wx=>∃z:Bool,cv=.bool z/\Af (z=false ↔ (x.dst.toList==y.src.toList)=true/\decide (x.rel<=y.rep)=true)/\Af (Bw wk wx))
   case first=>
    cases hs:(x.dst.toList==y.src.toList)
    . have hn:(x.dst.toList !=y.src.toList)=true:=by rw[bne,hs];rfl
      have HS:=I hs;go_wp2;go_quiet (fail)
      go_wp2;go_meet
      case rel=>exact⟨true,rfl,I (by rw[HS.1];simp),I (dr _ _)⟩
    have hn:(x.dst.toList !=y.src.toList)=false:=by rw[bne,hs];rfl
    have HS:=I hs;go_wp2;go_quiet (fail)
    go_wp2;go_meet
    case rel=>exact⟨decide (y.rep<x.rel),rfl,I (by rw[HS.1];simp),I (dr _ _)⟩
   obtain⟨z,rfl,HZ,b5⟩:=hcut;obtain⟨w3,A8⟩:∃v:World,v=wc:=⟨_,rfl⟩;subst A8;have S3:=I (S2.1.call b5.1);have P0:=zD p0 hg b5.1;have Q0:=zD q0 hg b5.1;have T3:=I (T1.1.below b5.1);have T4:=I (T2.1.below b5.1);have F:=As hg b5.1.size;clear p0 p1 p2 p3 p4 q0 q1 q2 q3 q4 S2 b5 hg T1 T2;cases z;rotate_left
   . have HL:=I (show zAc t c l x y=false by
      rw[<-h4.1.1];cases hA:(x.dst.toList==y.src.toList)
      . rfl
      cases hB:decide (x.rel<=y.rep)
      . rfl
      have:=HZ.1.2 ⟨hA,hB⟩;cases this)
     clear P0 Q0 HZ;have S9:=I (show NSt w W.heap.size mb l [(nb,jD),(tb,Ap t za zc aa ac fa fc),(cb,Aj c p)] lv kv U L (SB t c l L i++zz1 t c l L i (k+1)) Q w3 from by rw[zBu (by rw[<-HX.1,<-HY.1];exact HL.1)];exact S3.1);go_wp2;go_roundw
     case rel=>exact⟨k+1,kv,by omega,by go_num,S9⟩
     case measure=>simp[intOf];omega
   have f7:=I (HZ.1.1 rfl);clear HZ;go_upto_region 31 with fail
   go_cut [17,18] (λvv ev wx=>∃(va:Ae) (vc:Nat),vv=.slice va (V_ t c l x.duty y.duty).length vc/\ev=.int .i64 (Kc t c l x.duty y.duty)/\Af (Bw w3 wx))
   case first=>
    obtain⟨x0,x1,x2,xl⟩:=Ev (S3.1.at 1 rfl);obtain⟨y0,y1,y2,y3,y4,y5,y6,y7,y8,y9,b6,b7,b8,b9,B⟩:=Ek (S3.1.at 2 rfl);go_wp2_with fail;refine' Wi [⟨150, [],.kn _⟩,⟨151, [],.kn _⟩,⟨152, [],.kn _⟩,⟨153, [],.kn _⟩,⟨154, [],.kn _⟩,⟨155, [153,154],.kn _⟩,⟨156, [155],.kn _⟩,⟨157, [156],.kn _⟩,⟨158, [],.kn _⟩,⟨159, [],.kn _⟩,⟨160, [158,159],.kn _⟩,⟨161, [160],.kn _⟩,⟨162, [161],.kn _⟩,⟨163, [150,151,152,157,162],.pu (VioT t c l x.duty y.duty)⟩,⟨149, [163],.pu (VioT t c l x.duty y.duty)⟩,⟨164, [149],.pu (VioS t c l x.duty y.duty)⟩,⟨165, [149],.kn (.int .i64 (Kc t c l x.duty y.duty))⟩,⟨17, [164],.pu (VioS t c l x.duty y.duty)⟩] [2,3,4,5,15,16] [17,165] (λ_ h=>And.intro (zD x0 xl h) (And.intro (zD x1 xl h) (And.intro (zD x2 xl h) (And.intro (zD y0 B h) (And.intro (zD y1 B h) (And.intro (zD y2 B h) (And.intro (zD y3 B h) (And.intro (zD y4 B h) (And.intro (zD y5 B h) (And.intro (zD y6 B h) (And.intro (zD y7 B h) (And.intro (zD y8 B h) (And.intro (zD y9 B h) (And.intro (zD b6 B h) (And.intro (zD b7 B h) (And.intro (zD b8 B h) (And.intro (zD b9 B h) (And.intro (zD P0 F h) (And.intro (zD Q0 F h) (And.intro (As xl h.size) (And.intro (As B h.size) (As F h.size)))))))))))))))))))))) ?h2 ?c2 ?f2
    case h2=>
     intro u;simp only[Df,Jm,↓reduceIte,Nat.reduceEqDiff];intros
     refine⟨?_,?_,?_,?_,?_,?_,?_,?_,?_,?_,?_,?_,?_,?_,?_,?_,?_,?_,trivial⟩
     all_goals try (intros;refine Fy (by assumption) ?_;go_simp <;> rfl)
     . intro A G e hb g f1 f2 f3 f4 f5 K k2;go_simp;refine(zvg t c za zc aa ac fa fc p G d0.1 h6.1 (f8.1.below (Ab S3.1.bel hb)) l x.duty y.duty t5 t7 t6 t8 c4 d3 (T3.1.below hb) (T4.1.below hb)).mono ?_;rintro e' w5 ⟨va,vc,rfl,-,h⟩;exact k2.1 _ _ ⟨h,va,vc,rfl⟩
     . intro A G e hb g f1 K k2;obtain⟨va,vc,f1⟩:=f1;go_simp;exact k2.1 _ _ ⟨An _ _,va,vc,rfl⟩
     . intro A G e hb g f1 K k2;obtain⟨va,vc,f1⟩:=f1;go_simp;exact k2.1 _ _ ⟨An _ _,va,vc,rfl⟩
     . intro A G e hb g f1 K k2;obtain⟨va,vc,f1⟩:=f1;go_simp;exact k2.1 _ _ ⟨An _ _,rfl⟩
     intro A G e hb g f1 K k2;obtain⟨va,vc,f1⟩:=f1;go_simp;exact k2.1 _ _ ⟨An _ _,va,vc,rfl⟩
    case c2=>kernel_rfl
    intro u w9 hb;simp only[Df,Hu,Jm,Act.put,O,↓reduceIte,Nat.reduceEqDiff];rintro⟨va,vc,e1⟩ e2;rw[e1,e2];have A9:=I hb;clear e1 e2 hb x0 x1 x2 xl y0 y1 y2 y3 y4 y5 y6 y7 y8 y9 b6 b7 b8 b9 B P0 Q0;go_wp2;go_meet
    case rel=>exact⟨va,vc,rfl,rfl,A9⟩
   obtain⟨va,vc,rfl,rfl,C⟩:=hcut;obtain⟨G,n1⟩:∃v:World,v=wc:=⟨_,rfl⟩;subst n1;have S4:=I (S3.1.call C.1);have P4:=I (zD P0 F C.1);have Q4:=I (zD Q0 F C.1);have t9:=I (T3.1.below C.1);have u0:=I (T4.1.below C.1);have j4:=As F C.1.size;clear P0 Q0 S3 C F T3 T4;obtain⟨er,n2⟩:∃er,er=Kc t c l x.duty y.duty:=⟨_,rfl⟩;obtain⟨vn,n3⟩:∃n,n=(V_ t c l x.duty y.duty).length:=⟨_,rfl⟩;rw[<-n2,<-n3];have n4:=I n2;have n5:=I n3;clear n2 n3;go_upto_region 32 with fail
   go_cut [172] (λcv wx=>∃z:Bool,cv=.bool z/\Af (z=false ↔ er=0/\vn=0)/\Af (Bw G wx))
   case first=>
    by_cases e0:er=0
    . have hn:(er !=0)=false:=by simp[e0]
      have HS:=I e0;clear e0;go_wp2;go_meet
      case rel=>exact⟨_,rfl,I (by have:=HS.1;simp;omega),I (An _ _)⟩
    have hn:(er !=0)=true:=by simp[e0]
    have HS:=I e0;clear e0;go_wp2;go_meet
    case rel=>exact⟨true,rfl,I (by have:=HS.1;simp;omega),I (An _ _)⟩
   obtain⟨z,rfl,HZ,H⟩:=hcut;obtain⟨w5,i2⟩:∃v:World,v=wc:=⟨_,rfl⟩;subst i2;have S5:=I (S4.1.call H.1);have P0:=zD P4.1 j4 H.1;have Q0:=zD Q4.1 j4 H.1;have T5:=I (t9.1.below H.1);have T6:=I (u0.1.below H.1);have F:=As j4 H.1.size;clear P4 Q4 S4 H j4 t9 u0;cases z;rotate_left
   . have HL:=I (show zAc t c l x y=false by
      rw[<-h4.1.1,f7.1.1,f7.1.2];cases hC:decide (Kc t c l x.duty y.duty=0)
      . rfl
      cases hD:(V_ t c l x.duty y.duty).isEmpty
      . rfl
      have:=HZ.1.2 ⟨n4.1.trans (of_decide_eq_true hC),by rw[n5.1,List.isEmpty_iff.1 hD];rfl⟩;cases this)
     clear P0 Q0 HZ;have S9:=I (show NSt w W.heap.size mb l [(nb,jD),(tb,Ap t za zc aa ac fa fc),(cb,Aj c p)] lv kv U L (SB t c l L i++zz1 t c l L i (k+1)) Q w5 from by rw[zBu (by rw[<-HX.1,<-HY.1];exact HL.1)];exact S5.1);go_wp2;go_roundw
     case rel=>exact⟨k+1,kv,by omega,by go_num,S9⟩
     case measure=>simp[intOf];omega
   have HL:=I (show zAc t c l x y=true by
    obtain⟨h1,h2⟩:=HZ.1.1 rfl;rw[<-h4.1.1,f7.1.1,f7.1.2,decide_eq_true (n4.1.symm.trans h1),List.isEmpty_iff.2 (List.eq_nil_of_length_eq_zero (n5.1.symm.trans h2))];rfl)
   have B0:=I (show(SB t c l L i++zz1 t c l L i k)++ [(⟨i,k,d_ t c l x.duty y.duty⟩:CP)]=SB t c l L i++zz1 t c l L i (k+1) by
    rw[zB5 (by rw[<-HX.1,<-HY.1];exact HL.1),h4.1.2 HL.1,List.append_assoc,HX.1,HY.1])
   have n0:(SB t c l L i++zz1 t c l L i k).length<=4010000:=by
    have h1:=zz7 t c l L i;have h2:=zAv t c l L i k;have h3:=Nat.mul_le_mul (show i<=2000 by omega) hL;rw[Gh];omega
   clear HZ h4 n4 n5;go_upto_region 33 with fail
   obtain⟨x0,x1,x2,xl⟩:=Ev (S5.1.at 1 rfl);obtain⟨y0,y1,y2,y3,y4,y5,y6,y7,y8,y9,b6,b7,b8,b9,B⟩:=Ek (S5.1.at 2 rfl);go_wp2_with fail;refine' Wi [⟨174, [],.kn _⟩,⟨175, [],.kn _⟩,⟨176, [],.kn _⟩,⟨177, [],.kn _⟩,⟨178, [],.kn _⟩,⟨179, [177,178],.kn _⟩,⟨180, [179],.kn _⟩,⟨181, [180],.kn _⟩,⟨182, [],.kn _⟩,⟨183, [],.kn _⟩,⟨184, [182,183],.kn _⟩,⟨185, [184],.kn _⟩,⟨186, [185],.kn _⟩,⟨187, [174,175,176,181,186],.kn (.tuple #[(d_ t c l x.duty y.duty),(Kc t c l x.duty y.duty)])⟩,⟨173, [187],.kn _⟩,⟨188, [173],.kn _⟩,⟨189, [173],.kn _⟩,⟨19, [188],.kn _⟩] [2,3,4,5,15,16] [19,189] (λ_ h=>And.intro (zD x0 xl h) (And.intro (zD x1 xl h) (And.intro (zD x2 xl h) (And.intro (zD y0 B h) (And.intro (zD y1 B h) (And.intro (zD y2 B h) (And.intro (zD y3 B h) (And.intro (zD y4 B h) (And.intro (zD y5 B h) (And.intro (zD y6 B h) (And.intro (zD y7 B h) (And.intro (zD y8 B h) (And.intro (zD y9 B h) (And.intro (zD b6 B h) (And.intro (zD b7 B h) (And.intro (zD b8 B h) (And.intro (zD b9 B h) (And.intro (zD P0 F h) (And.intro (zD Q0 F h) (And.intro (As xl h.size) (And.intro (As B h.size) (As F h.size)))))))))))))))))))))) ?h3 ?c3 ?f3
   case h3=>
    intro u;simp only[Df,Jm,↓reduceIte,Nat.reduceEqDiff];intros
    refine⟨?_,?_,?_,?_,?_,?_,?_,?_,?_,?_,?_,?_,?_,?_,?_,?_,?_,?_,trivial⟩
    all_goals try (intros;refine Fy (by assumption) ?_;go_simp <;> rfl)
    intro A G e hb g f1 f2 f3 f4 f5 K k2;go_simp;refine(zvo t c za zc aa ac fa fc p G d0.1 h6.1 (f8.1.below (Ab S5.1.bel hb)) l x.duty y.duty t5 t7 t6 t8 c4 d3 (T5.1.below hb) (T6.1.below hb)).mono ?_;rintro e' w5 ⟨rfl,h⟩;exact k2.1 _ _ ⟨h,rfl⟩
   case c3=>kernel_rfl
   intro u w9 hb;simp only[Df,Hu,Jm,Act.put,O,↓reduceIte,Nat.reduceEqDiff];rintro e1 e2;rw[e1,e2];have S9:=I (S5.1.call hb);clear e1 e2 hb x0 x1 x2 xl y0 y1 y2 y3 y4 y5 y6 y7 y8 y9 b6 b7 b8 b9 B P0 Q0 S5 T5 T6;have m2:=zm (j:=2) S9.1.qm rfl;have ml:=Ag S9.1.qm;have b1:=S9.1.sz;have ow:=S9.1.br.lk;obtain⟨kn,n6⟩:∃n,n=(SB t c l L i++zz1 t c l L i k).length:=⟨_,rfl⟩;rw[<-n6]at ow n0;have B6:=I n6.symm;clear n6;go_wp2_with (at_builtin;refine Zw zAZ b1 ow [.int .i64 (i:Nat),.int .i64 (k:Nat),.int .i64 (d_ t c l x.duty y.duty)] rfl rfl rfl rfl rfl (by simp[Value.oneCell']) (by omega) ?_;intro g1 c1 D6 hO hG hA;have M:=S9.1.staym S9.1.br.lk hG;have q3:=zm (j:=2) M rfl;have u1:=zQ (j:=2) M;have sl:=Ag M;have SA:=I (S9.1.linkK B6.1 B0.1 hG hO hA);clear hO hG hA M)
   go_roundw
   case rel=>exact⟨k+1,.slice (some ⟨g1,0,none⟩) (kn+1) c1,by omega,by go_num,SA⟩
   case measure=>simp[intOf];omega
 obtain⟨g,o,ea,hg,hc⟩:=(HA.1.below i1.1).cells (by omega);have n7:a=some ⟨g,o,none⟩:=ea;clear ea;subst n7;obtain⟨da,dc,z0,z1,z2,z3,z4,z5,z6,c4,d9⟩:=hc k c0;obtain⟨d,hd⟩:∃d,d=(Qa L k).duty:=⟨_,rfl⟩;rw[<-hd]at z0 c4 d9;have HD:=I hd;have T1:=I d9;have HC:=I hc;clear hc hd d9;obtain⟨x0,x1,x2,xl⟩:=Ev h9.1;obtain⟨y0,y1,y2,y3,y4,y5,y6,y7,y8,y9,b6,b7,b8,b9,B⟩:=Ek i0.1;have D7:(k:Int)<(L.length:Int):=by omega
 go_wp2_with fail;refine aE λA0 hA0=>?_
 have s:A0.tmps.size=205:=by rw[hA0];rfl
 have d4:=I (dr wr 1);obtain⟨lw,u2⟩:∃lw,lw=wr.heap.size:=⟨_,rfl⟩;have c5:=I u2;clear u2;refine rgCut (λa' w'=>∃(xb:Nat) (V:Value) (N:Ae) (sn P:Nat) (R S:Int) (D E:ByteArray) (T X:Int),V=.agg #[.slice N sn P,R,S,.string D,.string E,T,X]/\a'=Dj A0 [(14,.int .i64 (RB t c d)),(13,.pointer (some ⟨xb,0,none⟩)),(56,.int .i64 (RB t c d)),(55,V),(46,.tuple #[V,(RB t c d)]),(54,.tuple #[V,(RB t c d)]),(53,.slice da d.length dc),(52,.pointer (some ⟨g,o+k*7,none⟩)),(51,.pointer (some ⟨g,o+k*7,none⟩)),(50,.int .i64 k),(49,.slice (some ⟨g,o,none⟩) L.length ca),(48,.agg #[c.rp,c.rl,c.cn,c.sit,c.lv,c.nf,c.nt,.slice p.ca c.cs.length p.cc,.slice p.ra c.rs.length p.rc,.slice p.ka c.ks.length p.kc,.slice p.xa c.xs.length p.xc,.slice p.la c.ls.length p.lc,.slice p.oa c.oz.length p.oc,c.gu]),(47,.agg #[.slice za t.zn.length zc,.slice aa t.ai.length ac,.slice fa t.fs.length fc]),(4,.pointer (some ⟨tb,0,none⟩)),(5,.pointer (some ⟨cb,0,none⟩)),(3,.slice (some ⟨g,o,none⟩) L.length ca),(12,.int .i64 k)]/\w'.heap[xb]?=some (Obj.cells #[.slice N sn P,R,S,.string D,.string E,T,X] 92)/\(RB t c d=0->cK t c d R S D E T X/\sn=d.length/\Hj lw (.slice N sn P) d w')/\lw<=xb/\Below lw wr w') [] [(4,.pointer (some ⟨tb,0,none⟩)),(5,.pointer (some ⟨cb,0,none⟩)),(3,.slice (some ⟨g,o,none⟩) L.length ca),(12,.int .i64 k)] s (by rw[hA0];rfl) ?_ ?_
 . refine Vk 0 47 (.agg #[.slice za t.zn.length zc,.slice aa t.ai.length ac,.slice fa t.fs.length fc]) [] rfl s d4.1 ?_ ?_
   . intro A w' e hS;obtain⟨Y,Z,a0⟩:=e.at (t:=4) (V:=(.pointer (some ⟨tb,0,none⟩))) rfl;obtain⟨x0,x1,x2,xl⟩:=Ev (Ac hS h9.1);go_simp
   refine Vk 1 48 (.agg #[c.rp,c.rl,c.cn,c.sit,c.lv,c.nf,c.nt,.slice p.ca c.cs.length p.cc,.slice p.ra c.rs.length p.rc,.slice p.ka c.ks.length p.kc,.slice p.xa c.xs.length p.xc,.slice p.la c.ls.length p.lc,.slice p.oa c.oz.length p.oc,c.gu]) [] rfl s d4.1 ?_ ?_
   . intro A w' e hS;obtain⟨Y,Z,a0⟩:=e.at (t:=5) (V:=(.pointer (some ⟨cb,0,none⟩))) rfl;obtain⟨y0,y1,y2,y3,y4,y5,y6,y7,y8,y9,b6,b7,b8,b9,B⟩:=Ek (Ac hS i0.1);go_simp
   refine De 2 49 (.slice (some ⟨g,o,none⟩) L.length ca) rfl s ?_;refine De 3 50 (.int .i64 k) rfl s ?_;refine Kr 4 51 (.pointer (some ⟨g,o+k*7,none⟩)) rfl s ?_ ?_
   . intro A w' e;obtain⟨Y,Z,a0⟩:=e.at (t:=49) (V:=(.slice (some ⟨g,o,none⟩) L.length ca)) rfl;obtain⟨d5,d6,d7⟩:=e.at (t:=50) (V:=(.int .i64 k)) rfl;go_simp
   refine De 5 52 (.pointer (some ⟨g,o+k*7,none⟩)) rfl s ?_;refine Nk 6 53 52 (.slice da d.length dc) [] rfl s d4.1 z0 hg ?_;refine rgDuo 7 11 54 13 rfl rfl s (λA e K hK=>?_) (λA e K hK=>?_)
   . obtain⟨Y,Z,a0⟩:=e.at (t:=47) (V:=(.agg #[.slice za t.zn.length zc,.slice aa t.ai.length ac,.slice fa t.fs.length fc])) rfl;obtain⟨d5,d6,d7⟩:=e.at (t:=48) (V:=(.agg #[c.rp,c.rl,c.cn,c.sit,c.lv,c.nf,c.nt,.slice p.ca c.cs.length p.cc,.slice p.ra c.rs.length p.rc,.slice p.ka c.ks.length p.kc,.slice p.xa c.xs.length p.xc,.slice p.la c.ls.length p.lc,.slice p.oa c.oz.length p.oc,c.gu])) rfl;obtain⟨n8,n9,o0⟩:=e.at (t:=53) (V:=(.slice da d.length dc)) rfl;go_simp;refine(zAg t c za zc aa ac fa fc p _ d0.1 h6.1 (f8.1.below (Ab i1.1 d4.1)) d da dc c4 (T1.1.below d4.1)).mono ?_;rintro e' G ⟨N,sn,P,R,S,D,E,T,X,er,rfl,rfl,b2,h⟩;refine hK.1 _ _ (λ_ h0=>Ab h0 h) ?_;have C:=I (Ab d4.1 h);have H:=I h;have b1:=d4.1.size;have b0:=I (λh0=>And.intro (b2 h0).1 (And.intro (b2 h0).2.1 ((b2 h0).2.2.base (show lw<=_ by have:=c5.1;omega))));clear hK Y Z a0 d5 d6 d7 n8 n9 o0 e A K b2 h b1;refine De 8 46 (.tuple #[.agg #[.slice N sn P,R,S,.string D,.string E,T,X],(RB t c d)]) rfl s ?_;refine Kr 9 55 (.agg #[.slice N sn P,R,S,.string D,.string E,T,X]) rfl s ?_ ?_
     . intro A w' e;obtain⟨Y,Z,a0⟩:=e.at (t:=46) (V:=(.tuple #[.agg #[.slice N sn P,R,S,.string D,.string E,T,X],(RB t c d)])) rfl;go_simp
     refine Kr 10 56 (.int .i64 (RB t c d)) rfl s ?_ ?_
     . intro A w' e;obtain⟨Y,Z,a0⟩:=e.at (t:=46) (V:=(.tuple #[.agg #[.slice N sn P,R,S,.string D,.string E,T,X],(RB t c d)])) rfl;go_simp
     refine Rz 11 13 rfl s (λA e K hK=>?_);go_simp;refine hK.1 _ _ (λ_ h=>Ab h (J _ _)) ?_;clear hK e A K;have q9:=zh G jH;obtain⟨xb,f0⟩:∃xb,xb=G.heap.size:=⟨_,rfl⟩;rw[<-f0]at q9;simp only[<-f0];have o1:=I (show lw<=xb by have:=c5.1;have:=C.1.size;omega);have o2:=I (Ab C.1 (J G jH));have QB:=I q9;have u3:=I (λh0=>(b0.1 h0).2.2.call (J G jH));have h5:=I (show wr.heap.size<=xb by have:=C.1.size;omega);clear f0 q9;generalize G.alloc jH=w5 at*;refine Ub 12 rfl s (λA e K hK=>?_);obtain⟨Y,Z,a0⟩:=e.at (t:=13) (V:=(.pointer (some ⟨xb,0,none⟩))) rfl;obtain⟨d5,d6,d7⟩:=e.at (t:=55) (V:=(.agg #[.slice N sn P,R,S,.string D,.string E,T,X])) rfl;have r:=QB.1;have s0:=zm (j:=0) r rfl;have s1:=zm (j:=1) r rfl;have s2:=zm (j:=2) r rfl;have s3:=zm (j:=3) r rfl;have s4:=zm (j:=4) r rfl;have s5:=zm (j:=5) r rfl;have s6:=zm (j:=6) r rfl;have y0:=zQ (j:=0) r;have y1:=zQ (j:=1) r;have y2:=zQ (j:=2) r;have y3:=zQ (j:=3) r;have y4:=zQ (j:=4) r;have y5:=zQ (j:=5) r;have y6:=zQ (j:=6) r;have sl:=Ag r;have QW:=I (Pr [.slice N sn P,.int .i64 R,.int .i64 S,.string D,.string E,.int .i64 T,.int .i64 X] [] [.slice none 0 0,.int .i64 0,.int .i64 0,.string ⟨#[]⟩,.string ⟨#[]⟩,.int .i64 0,.int .i64 0] _ rfl r);have HR:=I (Tt h5.1 [.slice N sn P,.int .i64 R,.int .i64 S,.string D,.string E,.int .i64 T,.int .i64 X] 0 _ o2.1);have AG:=I (λh0=>And.intro (b0.1 h0).1 (And.intro (b0.1 h0).2.1 (zBV (u3.1 h0) (Ma (u3.1 h0) QB.1 (by decide)) [.slice N sn P,.int .i64 R,.int .i64 S,.string D,.string E,.int .i64 T,.int .i64 X] 0)));clear r;simp only[stN,Nat.zero_add,Nat.reduceAdd,List.length_nil]at QW HR AG;go_simp;refine hK.1 _ (λ_ _=>HR.1) ?_;clear hK Y Z a0 d5 d6 d7 e A K s0 s1 s2 s3 s4 s5 s6 y0 y1 y2 y3 y4 y5 y6 sl;refine De 13 14 (.int .i64 (RB t c d)) rfl s ?_;refine Wn ?_;exact⟨xb,_,N,sn,P,R,S,D,E,T,X,rfl,rfl,QW.1,AG.1,o1.1,(by rw[c5.1];exact HR.1)⟩
   go_simp;refine hK.1 _ _ (λ_ h=>Ab h (J _ _)) ?_;clear hK e A K;have q9:=zh wr.drew jH;have B9:=Ab d4.1 (J wr.drew jH);obtain⟨xb,f0⟩:∃xb,xb=wr.heap.size:=⟨_,rfl⟩;rw[show wr.drew.heap.size=xb from f0.symm]at q9;simp only[<-f0];have o1:=I (show lw<=xb by have:=c5.1;omega);have h5:=I (show wr.heap.size<=xb by omega);clear f0;try simp only[show(wr.alloc jH).drew=wr.drew.alloc jH from rfl]
   generalize wr.drew.alloc jH=w3 at*;have j5:=I B9;have B7:=I q9;clear q9 B9;refine Rz 7 54 rfl s (λA e K hK=>?_);obtain⟨Y,Z,a0⟩:=e.at (t:=47) (V:=(.agg #[.slice za t.zn.length zc,.slice aa t.ai.length ac,.slice fa t.fs.length fc])) rfl;obtain⟨d5,d6,d7⟩:=e.at (t:=48) (V:=(.agg #[c.rp,c.rl,c.cn,c.sit,c.lv,c.nf,c.nt,.slice p.ca c.cs.length p.cc,.slice p.ra c.rs.length p.rc,.slice p.ka c.ks.length p.kc,.slice p.xa c.xs.length p.xc,.slice p.la c.ls.length p.lc,.slice p.oa c.oz.length p.oc,c.gu])) rfl;obtain⟨n8,n9,o0⟩:=e.at (t:=53) (V:=(.slice da d.length dc)) rfl;go_simp;refine(zAg t c za zc aa ac fa fc p _ d0.1 h6.1 (f8.1.below (Ab i1.1 j5.1)) d da dc c4 (T1.1.below j5.1)).mono ?_;rintro e' G ⟨N,sn,P,R,S,D,E,T,X,er,rfl,rfl,b2,h⟩;refine hK.1 _ _ (λ_ h0=>Ab h0 h) ?_;have C:=I (Ab j5.1 h);have H:=I h;have b1:=j5.1.size;have b0:=I (λh0=>And.intro (b2 h0).1 (And.intro (b2 h0).2.1 ((b2 h0).2.2.base (show lw<=_ by have:=c5.1;omega))));clear hK Y Z a0 d5 d6 d7 n8 n9 o0 e A K b2 h b1;refine De 8 46 (.tuple #[.agg #[.slice N sn P,R,S,.string D,.string E,T,X],(RB t c d)]) rfl s ?_;refine Kr 9 55 (.agg #[.slice N sn P,R,S,.string D,.string E,T,X]) rfl s ?_ ?_
   . intro A w' e;obtain⟨Y,Z,a0⟩:=e.at (t:=46) (V:=(.tuple #[.agg #[.slice N sn P,R,S,.string D,.string E,T,X],(RB t c d)])) rfl;go_simp
   refine Kr 10 56 (.int .i64 (RB t c d)) rfl s ?_ ?_
   . intro A w' e;obtain⟨Y,Z,a0⟩:=e.at (t:=46) (V:=(.tuple #[.agg #[.slice N sn P,R,S,.string D,.string E,T,X],(RB t c d)])) rfl;go_simp
   have QB:=I (Ac H.1 B7.1);have o2:=C;refine Ub 12 rfl s (λA e K hK=>?_);obtain⟨Y,Z,a0⟩:=e.at (t:=13) (V:=(.pointer (some ⟨xb,0,none⟩))) rfl;obtain⟨d5,d6,d7⟩:=e.at (t:=55) (V:=(.agg #[.slice N sn P,R,S,.string D,.string E,T,X])) rfl;have r:=QB.1;have s0:=zm (j:=0) r rfl;have s1:=zm (j:=1) r rfl;have s2:=zm (j:=2) r rfl;have s3:=zm (j:=3) r rfl;have s4:=zm (j:=4) r rfl;have s5:=zm (j:=5) r rfl;have s6:=zm (j:=6) r rfl;have y0:=zQ (j:=0) r;have y1:=zQ (j:=1) r;have y2:=zQ (j:=2) r;have y3:=zQ (j:=3) r;have y4:=zQ (j:=4) r;have y5:=zQ (j:=5) r;have y6:=zQ (j:=6) r;have sl:=Ag r;have QW:=I (Pr [.slice N sn P,.int .i64 R,.int .i64 S,.string D,.string E,.int .i64 T,.int .i64 X] [] [.slice none 0 0,.int .i64 0,.int .i64 0,.string ⟨#[]⟩,.string ⟨#[]⟩,.int .i64 0,.int .i64 0] _ rfl r);have HR:=I (Tt h5.1 [.slice N sn P,.int .i64 R,.int .i64 S,.string D,.string E,.int .i64 T,.int .i64 X] 0 _ o2.1);have AG:=I (λh0=>And.intro (b0.1 h0).1 (And.intro (b0.1 h0).2.1 (zBV ((b0.1 h0).2.2) (Ma ((b0.1 h0).2.2) QB.1 (by decide)) [.slice N sn P,.int .i64 R,.int .i64 S,.string D,.string E,.int .i64 T,.int .i64 X] 0)));clear r;simp only[stN,Nat.zero_add,Nat.reduceAdd,List.length_nil]at QW HR AG;go_simp;refine hK.1 _ (λ_ _=>HR.1) ?_;clear hK Y Z a0 d5 d6 d7 e A K s0 s1 s2 s3 s4 s5 s6 y0 y1 y2 y3 y4 y5 y6 sl;refine De 13 14 (.int .i64 (RB t c d)) rfl s ?_;refine Wn ?_;exact⟨xb,_,N,sn,P,R,S,D,E,T,X,rfl,congrArg (λz:Act=>z.put (some 14) (.int .i64 (RB t c d))) (zCg _ [_,_,_,_] rfl),QW.1,AG.1,o1.1,(by rw[c5.1];exact HR.1)⟩
 rintro a' w3 ⟨xb,V,N,sn,P,R,S,D,E,T,X,rfl,rfl,QB,b2,hx,B3⟩;rw[hA0];simp only[Dj,Act.put,O];rw[c5.1]at B3;have b5:=I (Ab i1.1 B3);have o3:=I (Ac B3 m9.1);have u4:=I (Ac B3 h9.1);have u5:=I (Ac B3 i0.1);have u6:=I (Ac B3 m8.1);have u7:=I (BR.1.agr (Agr.of B3));have j6:=I B3;have QX:=I QB;have b0:=I b2;have B8:=I hx;have u8:=I (zCt m5.1 d);clear B3 m9 h9 i0 m8 BR QB b2 hx hA0 s;have o4:=I (show lgE t c L k=if FW t c d≠0 then FW t c d else if legB (legO t c d) (Qa L k)=false then 2 else if 0<k/\CD d (Qa L (k-1)).duty<=0 then 8 else 0 by rw[HD.1];rfl);rw[u8.1]at b0;rw[u8.1];by_cases e0:FW t c d=0
 rotate_left
 . have i3:=I (show FW t c d=Sb t c (bldM t c l L) from zDk (by
    have q:=o4.1;rw[if_pos e0]at q;rw[HE.1,b3.1,Mc c0 (by rw[q];exact e0),q]) e0)
   have l8:=I e0;have e1:(FW t c d !=0)=true:=by simpa using e0
   clear e0 b0;have r:=o3.1;have s0:=zm (j:=0) r rfl;have s1:=zm (j:=1) r rfl;have s2:=zm (j:=2) r rfl;have s3:=zm (j:=3) r rfl;have s4:=zm (j:=4) r rfl;have y0:=zQ (j:=0) r;have y1:=zQ (j:=1) r;have y2:=zQ (j:=2) r;have y3:=zQ (j:=3) r;have y4:=zQ (j:=4) r;have sl:=Ag r;have QW:=I (Pr [.string ⟨#[]⟩,.slice none 0 0,.slice none 0 0,.slice none 0 0,.slice none 0 0] [] [.string ⟨#[]⟩,.slice none 0 0,.slice none 0 0,.slice none 0 0,.slice none 0 0] _ rfl r);have HR:=I (Tt (show w.heap.size<=nb from d8.1) [.string ⟨#[]⟩,.slice none 0 0,.slice none 0 0,.slice none 0 0,.slice none 0 0] 0 _ b5.1);clear r;simp only[stN,Nat.zero_add,Nat.reduceAdd,List.length_nil]at QW HR;go_wp2_with fail;refine bodyPost_ret (zA4 rfl rfl rfl QW.1) rfl ⟨_,_,rfl,i3.1,(λh=>absurd h l8.1),(λ_=>rfl),HR.1⟩
 obtain⟨d1,C0,i4⟩:=b0.1 e0;subst C0;have k4:(⟨d,R,S,D,E,T,X⟩:gF)=legO t c d:=by
  have k5:=d1.1;obtain⟨_,_,g1,g2,g3,g4,g5,g6⟩:=d1;rw[g1,g2,g3,g4,g5,g6,IQ k5,show Xc t c d=Nw c (Bo t c d) from if_pos k5];rfl
 have i5:=I k4;have i6:=I (show lgE t c L k=if legB (legO t c d) (Qa L k)=false then 2 else if 0<k/\CD d (Qa L (k-1)).duty<=0 then 8 else 0 by rw[o4.1,if_neg (not_not_intro e0)]);have u9:=I i4;obtain⟨D8,D9,j7,-,v0⟩:=(i4).at (zAP (T1.1));cases j7;have TY:=I v0;rw[e0];clear b0 o4 e0 d1 i4 k4 v0;obtain⟨ea,ec,z0,z1,z2,z3,z4,z5,z6,d3,b4⟩:=(HC.1 k c0).below hg j6.1;rw[<-HD.1]at z0 d3 b4;have T2:=I b4;clear b4;have F:=As hg j6.1.size;have r:=QX.1;have s0:=zm (j:=0) r rfl;have s1:=zm (j:=1) r rfl;have s2:=zm (j:=2) r rfl;have s3:=zm (j:=3) r rfl;have s4:=zm (j:=4) r rfl;have s5:=zm (j:=5) r rfl;have s6:=zm (j:=6) r rfl;have y0:=zQ (j:=0) r;have y1:=zQ (j:=1) r;have y2:=zQ (j:=2) r;have y3:=zQ (j:=3) r;have y4:=zQ (j:=4) r;have y5:=zQ (j:=5) r;have y6:=zQ (j:=6) r;have sl:=Ag r;clear y0 y1 y2 y3 y4 y5 y6;have r0:=rQa r;have r1:=cell_regrown z0;have r2:=cell_regrown z1;have r3:=cell_regrown z2;have r4:=cell_regrown z3;have r5:=cell_regrown z4;have r6:=cell_regrown z5;have r7:=cell_regrown z6;have s8:∀d os,xb<(grow (redrawn w3 d) os).heap.size:=λd os=>As sl (below_regrown w3 d os).size
 have s9:∀d os,g<(grow (redrawn w3 d) os).heap.size:=λd os=>As F (below_regrown w3 d os).size
 have CL:=I (λ(q:Nat) (os:Array Obj)=>Fa (zB2 R S D E T X (Qa L k) HD.1.symm _ (congrArg (λz=>legB z (Qa L k)) i5.1) N P ea ec (grow (redrawn w3 q) os) c4 (TY.1.below (below_regrown w3 q os)) (T2.1.below (below_regrown w3 q os))));clear z0 z1 z2 z3 z4 z5 z6 s0 s1 s2 s3 s4 s5 s6 r;go_wp2_with fail;refine wp_region_quiet_below (by kernel_rfl) (by kernel_rfl) ?_;repeat (first|go_big_quiet_step (first|exact CL.1 _ _)|quiet_step (first|exact CL.1 _ _))
 refine wpQuiet_nil ?_;intro G n1;obtain⟨⟨dq,os⟩,rfl⟩:=n1;have B4:=below_regrown w3 dq os;have C:=I (Ab b5.1 B4);have i7:=I (Ab j6.1 B4);have v3:=I (Ac B4 o3.1);have C1:=I (Ac B4 u4.1);have C2:=I (Ac B4 u5.1);have C3:=I (Ac B4 u6.1);have v4:=I (Ac B4 QX.1);have C4:=I (u7.1.agr (Agr.of B4));have k6:=I (Hj.call u9.1 B4);clear r0 r1 r2 r3 r4 r5 r6 r7 s8 s9 CL B4 sl F b5 j6 o3 u4 u5 u6 QX u7 u9 TY T2;generalize grow (redrawn w3 dq) os=G at*;cases hz:legB (legO t c d) (Qa L k)
 . have i3:=I (show(2:Int)=Sb t c (bldM t c l L) from zDk (by
    have q:=i6.1;rw[if_pos hz]at q;rw[HE.1,b3.1,Mc c0 (by rw[q];decide),q]) (by decide))
   clear hz;have r:=v3.1;have s0:=zm (j:=0) r rfl;have s1:=zm (j:=1) r rfl;have s2:=zm (j:=2) r rfl;have s3:=zm (j:=3) r rfl;have s4:=zm (j:=4) r rfl;have y0:=zQ (j:=0) r;have y1:=zQ (j:=1) r;have y2:=zQ (j:=2) r;have y3:=zQ (j:=3) r;have y4:=zQ (j:=4) r;have sl:=Ag r;have QW:=I (Pr [.string ⟨#[]⟩,.slice none 0 0,.slice none 0 0,.slice none 0 0,.slice none 0 0] [] [.string ⟨#[]⟩,.slice none 0 0,.slice none 0 0,.slice none 0 0,.slice none 0 0] _ rfl r);have HR:=I (Tt (show w.heap.size<=nb from d8.1) [.string ⟨#[]⟩,.slice none 0 0,.slice none 0 0,.slice none 0 0,.slice none 0 0] 0 _ C.1);clear r;simp only[stN,Nat.zero_add,Nat.reduceAdd,List.length_nil]at QW HR;go_wp2_with fail;refine bodyPost_ret (zA4 rfl rfl rfl QW.1) rfl ⟨_,_,rfl,i3.1,(λh=>absurd h (by decide)),(λ_=>rfl),HR.1⟩
 have j8:=I (zBO.1 hz);have i8:=I (show lgE t c L k=if 0<k/\CD d (Qa L (k-1)).duty<=0 then 8 else 0 by rw[i6.1,if_neg (by rw[hz];decide)]);clear hz i6;have S4:=I (ST.1.add i7.1 (b:=xb) (by have:=c5.1;have:=B8.1;omega) v4.1)
 have h5:=I (show LgC W.heap.size G (Qa L k) [.slice N d.length P,.int .i64 R,.int .i64 S,.string D,.string E,.int .i64 T,.int .i64 X] by
  rw[<-i5.1.trans j8.1];exact⟨N,P,rfl,c4,zAP T1.1,k6.1.base (by have:=c5.1;have:=q8.1;omega)⟩)
 clear C v3 C1 C2 C3 v4 C4 k6 ST;go_upto_region 17 with fail
 go_cut [85] (λcv wx=>∃z:Bool,cv=.bool z/\Af (z=true ↔ 0<k/\CD d (Qa L (k-1)).duty<=0)/\Af (Bw G wx))
 case first=>
  by_cases j9:k=0
  . have E0:decide (0<k)=false:=by simp[j9]
    have HZ:=I (show false=true ↔ 0<k/\CD d (Qa L (k-1)).duty<=0 by simp[j9]);clear j9;go_wp2;go_quiet (fail)
    go_wp2;go_meet
    case rel=>exact⟨false,rfl,HZ,I (dr _ _)⟩
  obtain⟨m,rfl⟩:∃m,k=m+1:=⟨k-1,by omega⟩;obtain⟨n7,C5,z0,-,-,-,-,-,-,d3,b4⟩:=(HC.1 m (by omega)).below hg i7.1;obtain⟨ea,ec,z1,-,-,-,-,-,-,v7,o5⟩:=(HC.1 (m+1) c0).below hg i7.1;obtain⟨d2,o6⟩:∃d2,d2=(Qa L m).duty:=⟨_,rfl⟩;rw[<-o6]at z0 d3 b4;rw[<-HD.1]at z1 v7 o5;have C6:=I o6;have T2:=I b4;have T3:=I o5;have C7:=As hg i7.1.size;have hm:(m:Int)<(L.length:Int):=by omega
  clear o6 b4 o5 j9;have r0:=cell_regrown z0;have C8:=cell_regrown z1;have s1:∀d os,g<(grow (redrawn G d) os).heap.size:=λd os=>As C7 (below_regrown G d os).size
  have CL:=I (λ(q:Nat) (os:Array Obj)=>Fa (zAd d2 d n7 ea C5 ec (grow (redrawn G q) os) d3 v7 (T2.1.below (below_regrown G q os)) (T3.1.below (below_regrown G q os))));go_wp2_with fail;refine wp_region_quiet_below (by kernel_rfl) (by kernel_rfl) ?_;repeat (first|go_big_quiet_step (first|exact CL.1 _ _)|quiet_step (first|exact CL.1 _ _))
  refine wpQuiet_nil ?_;intro w5 i2;obtain⟨⟨dq,os⟩,rfl⟩:=i2;have B5:=I (below_regrown G dq os)
  have HZ:=I (show decide (0<=CD d2 d)=true ↔ 0<m+1/\CD d (Qa L (m+1-1)).duty<=0 by
   have h:=zAG d2 d;rw[show m+1-1=m from rfl,<-C6.1];simp only[decide_eq_true_eq];omega)
  clear r0 C8 s1 CL z0 z1 T2 T3;generalize grow (redrawn G dq) os=w5 at*;go_wp2;go_meet
  case rel=>exact⟨_,rfl,HZ,B5⟩
 obtain⟨z,rfl,HZ,H⟩:=hcut;obtain⟨w5,i2⟩:∃v:World,v=wc:=⟨_,rfl⟩;subst i2;have S5:=I (S4.1.call H.1);have k7:=I (h5.1.agr (Agr.of H.1));clear S4 h5 H i7;cases z;rotate_left
 . have i3:=I (show(8:Int)=Sb t c (bldM t c l L) from zDk (by
    have q:=i8.1;rw[if_pos (HZ.1.1 rfl)]at q;rw[HE.1,b3.1,Mc c0 (by rw[q];decide),q]) (by decide))
   have r:=(S5.1.at 1 rfl);have s0:=zm (j:=0) r rfl;have s1:=zm (j:=1) r rfl;have s2:=zm (j:=2) r rfl;have s3:=zm (j:=3) r rfl;have s4:=zm (j:=4) r rfl;have y0:=zQ (j:=0) r;have y1:=zQ (j:=1) r;have y2:=zQ (j:=2) r;have y3:=zQ (j:=3) r;have y4:=zQ (j:=4) r;have sl:=Ag r;have QW:=I (Pr [.string ⟨#[]⟩,.slice none 0 0,.slice none 0 0,.slice none 0 0,.slice none 0 0] [] [.string ⟨#[]⟩,.slice none 0 0,.slice none 0 0,.slice none 0 0,.slice none 0 0] _ rfl r);have HR:=I (Tt (show w.heap.size<=nb from d8.1) [.string ⟨#[]⟩,.slice none 0 0,.slice none 0 0,.slice none 0 0,.slice none 0 0] 0 _ S5.1.bel);clear r;simp only[stN,Nat.zero_add,Nat.reduceAdd,List.length_nil]at QW HR;go_wp2_with fail;refine bodyPost_ret (zA4 rfl rfl rfl QW.1) rfl ⟨_,_,rfl,i3.1,(λh=>absurd h (by decide)),(λ_=>rfl),HR.1⟩
 have k0:=I (show lgE t c L k=0 by rw[i8.1,if_neg (λh=>by simpa using HZ.1.2 h)]);have v8:=I (show D=(Qa L k).src from congrArg gF.src (i5.1.trans j8.1));have v9:=I (show E=(Qa L k).dst from congrArg gF.dst (i5.1.trans j8.1));have o7:=I (show(L.take k).length=k by rw[List.length_take];omega);obtain⟨LL,l1,l2,l3⟩:=S5.1.br.lg;have w0:=I l1;have o8:=I l2;have x3:=I l3;have o9:=l2;rw[o7.1]at o9;have c7:=S5.1.at 0 rfl;have p5:=S5.1.qm;have r0:=zm (j:=0) c7 rfl;have r1:=zm (j:=1) c7 rfl;have r2:=zm (j:=2) c7 rfl;have r3:=zm (j:=3) c7 rfl;have r4:=zm (j:=4) c7 rfl;have r5:=zm (j:=5) c7 rfl;have r6:=zm (j:=6) c7 rfl;have m1:=zm (j:=1) p5 rfl;have ml:=Ag p5;have rl:=Ag c7;have b1:=S5.1.sz;have C9:=zzX (λj=>(Qa L j).src.toList==l.toList) k;have j7:=zzX (λj=>(Qa L j).dst.toList==l.toList) k;rw[<-HQ.1.1]at C9;rw[<-HQ.1.2]at j7;clear l1 l2 l3 c7 p5 HZ i8 i5 j8;go_upto_region 20 with(at_builtin;refine Zw Xh b1 o9 [.slice N d.length P,.int .i64 R,.int .i64 S,.string D,.string E,.int .i64 T,.int .i64 X] rfl rfl rfl rfl rfl (by simp[Value.oneCell']) (by omega) ?_;intro g6 c6 w6 hO hG hA;have k1:=S5.1.staym o8.1 hG;have q1:=zm (j:=1) k1 rfl;have D0:=zQ (j:=1) k1;have sl:=Ag k1;have S6:=I (S5.1.legK o7.1 (zCO c0) w0.1 o8.1 x3.1 hG k7.1 hO hA);clear hO hG hA k1)
 clear m1 ml rl b1 r0 r1 r2 r3 r4 r5 r6 q1 D0 sl o9 S5 k7 w0 o8 x3 o7;generalize w6.setCell ⟨mb,1,none⟩ (.slice (some ⟨g6,0,none⟩) (k+1) c6)=w7 at*;have r3:=zm (j:=3) (S6.1.at 0 rfl) rfl;have rl:=Ag (S6.1.at 0 rfl);go_upto_if 96 with(fail)
 go_cut [] (λwx=>∃(U1:Nat->Value) (Q1:Nat->List Int),Af (NSt w W.heap.size mb l [(xb,Obj.cells #[.slice N d.length P,R,S,.string D,.string E,T,X] 92),(nb,jD),(tb,Ap t za zc aa ac fa fc),(cb,Aj c p)] (.slice (some ⟨g6,0,none⟩) (k+1) c6) (.slice none 0 0) U1 (L.take (k+1)) [] Q1 wx)/\Af (Q1 0=JB (λj=>(Qa L j).src.toList==l.toList) (k+1))/\Af (Q1 1=Q 1))
 case first=>
  cases hs:(D.toList==l.toList)
  . have HP:=I (show Q 0=JB (λj=>(Qa L j).src.toList==l.toList) (k+1) by rw[zCp (by rw[<-v8.1];exact hs)];exact HQ.1.1);clear hs;go_wp2;go_meet
    case rel=>exact⟨U,Q,S6,HP,I rfl⟩
  have HP:=I (show Q 0++ [(k:Int)]=JB (λj=>(Qa L j).src.toList==l.toList) (k+1) by rw[zBX (by rw[<-v8.1];exact hs),HQ.1.1]);have m3:=zm (j:=3) S6.1.qm rfl;have ml:=Ag S6.1.qm;have b1:=S6.1.sz;have ow:=S6.1.br.iv.own 0;clear hs;go_wp2_with (at_builtin;refine Zw cF b1 ow [.int .i64 (k:Nat)] rfl rfl rfl rfl rfl (by simp[Value.oneCell']) (by omega) ?_;intro g8 c8 w8 hO hG hA;have M:=S6.1.staym (S6.1.br.iv.own 0) hG;have q3:=zm (j:=3) M rfl;have u1:=zQ (j:=3) M;have sl:=Ag M;have S8:=I (S6.1.int (i:=0) (by decide) hG hO hA);clear hO hG hA M)
  go_meet
  case rel=>exact⟨_,_,S8,I (show SX Q 0 (Q 0++ [(k:Int)]) 0=_ from HP.1),I rfl⟩
 obtain⟨U1,Q1,S7,x4,p6⟩:=hcut;obtain⟨w8,D1⟩:∃v:World,v=wc:=⟨_,rfl⟩;subst D1;rw[<-p6.1]at j7;clear S6 r3 rl;have r4:=zm (j:=4) (S7.1.at 0 rfl) rfl;have rl:=Ag (S7.1.at 0 rfl);go_upto_if 106 with(fail)
 cases hs:(E.toList==l.toList)
 . have HP:=I (show Q1 1=JB (λj=>(Qa L j).dst.toList==l.toList) (k+1) by rw[zCp (by rw[<-v9.1];exact hs),p6.1];exact HQ.1.2);clear hs;go_wp2;go_roundw
   case rel=>exact⟨k+1,_,U1,Q1,by omega,by go_num,I (b3.1.trans (Ns c0 k0.1)),I (λi hi=>if e:i=k then(by rw[e];exact k0.1) else f6.1 i (by omega)),I ⟨x4.1,HP.1⟩,I (S7.1.drop rfl)⟩
   case measure=>simp[intOf];omega
 have HP:=I (show Q1 1++ [(k:Int)]=JB (λj=>(Qa L j).dst.toList==l.toList) (k+1) by rw[zBX (by rw[<-v9.1];exact hs),p6.1,HQ.1.2]);have m4:=zm (j:=4) S7.1.qm rfl;have ml:=Ag S7.1.qm;have b1:=S7.1.sz;have ow:=S7.1.br.iv.own 1;clear hs;go_wp2_with (at_builtin;refine Zw cF b1 ow [.int .i64 (k:Nat)] rfl rfl rfl rfl rfl (by simp[Value.oneCell']) (by omega) ?_;intro g9 c9 w9 hO hG hA;have M:=S7.1.staym (S7.1.br.iv.own 1) hG;have q3:=zm (j:=4) M rfl;have u1:=zQ (j:=4) M;have sl:=Ag M;have S9:=I (S7.1.int (i:=1) (by decide) hG hO hA);clear hO hG hA M)
 go_roundw
 case rel=>exact⟨k+1,_,updV U1 1 (.slice (some ⟨g9,0,none⟩) ((Q1 1).length+1) c9),SX Q1 1 (Q1 1++ [(k:Int)]),by omega,by go_num,I (b3.1.trans (Ns c0 k0.1)),I (λi hi=>if e:i=k then(by rw[e];exact k0.1) else f6.1 i (by omega)),I ⟨x4.1,(show SX Q1 1 (Q1 1++ [(k:Int)]) 1=_ from HP.1)⟩,I (S9.1.drop rfl)⟩
 case measure=>simp[intOf];omega
