/- a part of the proof -/
import Derived.Test.YtelojoopofolpaaGreatM2
set_option linter.all false
set_option maxRecDepth 100000
set_option maxHeartbeats 51200000
namespace Go.Proofs.YtelojoopofolpaaGreat
open Go.RowKit Go.Sort Go.Proofs.Tryz
variable {b k lo:Nat}{w w':Wd}{v:Value}{p:Nat->Bool}
theorem zBR(t:At)(c:Ad)(e:Int):Sb t c e=if Jn t c≠0 then Jn t c else e:=by
 unfold Sb Jn;by_cases h:zY t≠0;rw[iP h,iP h,iP h];rw[iN h,iN h]
theorem zBV{e:TypeId}{s:Nat}{n:Nat}{xs:LV}(h:w.ownsRow lo e s v n xs)(c:some b≠v.ownBlock)(l:LV)(i:Nat):(stN b i l w).ownsRow lo e s v n xs:=by
 refine⟨h.1,?_⟩;rcases h.2 with a|⟨g,d,f,a,j,k,m⟩;exact .inl a;refine .inr ⟨g,d,f,a,j,?_,m⟩;rw[lG (λe=>c (by rw[a,e];rfl))];exact k
theorem zCe{t:At}{c:Ad}(h:Jn t c=0):zY t=0/\Ax c=0:=by
 unfold Jn at h;by_cases a:zY t≠0;rw[iP a]at h;exact aB h a;rw[iN a]at h;exact⟨by simpa using a,h⟩
theorem zCt{t:At}{c:Ad}(h:Jn t c=0)(d:Ai):BB t c d=FW t c d:=by
 obtain⟨b,e⟩:=zCe h;unfold BB FW;rw[pX b e];by_cases a:Cc t c d=0;rw[iN (not_not_intro a),iN (not_not_intro a),FO (by rw[pX b e];exact a)];cases Wy c 1 (Bo t c d) <;> simp;rw[iP a,iP a]
theorem keep3{a c m:Nat}{x y z:Obj}(e:a≠m)(f:w.heap[a]?=some x)(g:b≠m)(h:w.heap[b]?=some y)(i:c≠m)(j:w.heap[c]?=some z):∀p∈ [(a,x),(b,y),(c,z)],p.1≠m/\w.heap[p.1]?=some p.2:=by
 intro p d;simp only[List.mem_cons,List.not_mem_nil,or_false]at d;rcases d with rfl|rfl|rfl;exact⟨e,f⟩;exact⟨g,h⟩;exact⟨i,j⟩
theorem zBX(h:p k=true):jQ p (k+1)=jQ p k++ [(k:Int)]:=by rw[jQ,iP h]
theorem zCp(h:p k=false):jQ p (k+1)=jQ p k:=by rw[jQ,iN (by rw[h];decide),List.append_nil]
theorem zCO{L:List Sd}(h:k<L.length):L.take k++ [Hx L k]=L.take (k+1):=by
 rw[Hx,Cr,Cz h];simp
theorem zBp(x y:Int×Bool):zzT x y=- zzT y x:=by
 obtain⟨a,p⟩:=x;obtain⟨b,q⟩:=y;unfold zzT zz5;cases p <;> cases q <;> simp only[reduceCtorEq,if_false,if_true] <;> repeat (first|omega|split)
theorem zAG:∀(l m:List (Int×Bool)),CD l m=- CD m l
 |[], []=>by simp[CD,zz9]
 |[],_::_=>by simp[CD,zz9]
 |_::_, []=>by simp[CD,zz9]
 |x::l,y::m=>by
  have a:=zAG l m;have h:=zBp x y;simp only[CD]at a;simp only[CD,zz9];split <;> split <;> omega
theorem zB2{d:Ai}(v1 v2:Int)(a c:BA)(f g:Int)(y:Sd)(m:y.duty=d)(b:Bool)(n:legB ⟨d,v1,v2,a,c,f,g⟩ y=b)(h:Ae)(j:Nat)(i:Ae)(k:Nat)(w:Wd)(l:d.length<=2^47)(o:Al Ei w h d)(p:Al Ei w i d):
 CV 77 #[.agg #[.slice h d.length j,v1,v2,.string a,.string c,f,g],.agg #[.slice i d.length k,y.rep,y.rel,.string y.src,.string y.dst,y.cost,y.cred]] w (.bool b):=by
 subst m n;exact zAA ⟨y.duty,v1,v2,a,c,f,g⟩ y h j i k w l l o p
def LegT(t:At)(c:Ad)(lo:Nat)(d:Ai)(v:Value)(w:Wd):Prop:=∃(sa:Ae) (sn sc:Nat) (x1 x2:Int) (s1 s2:BA) (x5 x6:Int),v=.agg #[.slice sa sn sc,x1,x2,.string s1,.string s2,x5,x6]/\(BB t c d=0->cK t c d x1 x2 s1 s2 x5 x6/\sn=d.length/\Hj lo (.slice sa sn sc) d w)
theorem LegT.call{t:At}{c:Ad}{d:Ai}(h:LegT t c lo d v w)(b:Bw w w'):LegT t c lo d v w':=by
 obtain⟨f,g,i,j,k,l,m,n,o,p,a⟩:=h;exact⟨f,g,i,j,k,l,m,n,o,p,λe=>⟨(a e).1,(a e).2.1,Hj.call (a e).2.2 b⟩⟩
def DesT(t:At)(c:Ad)(lo:Nat)(d:Ai)(v:Value)(w:Wd):Prop:=∃u,v=.tuple #[u,(BB t c d)]/\LegT t c lo d u w
theorem DesT.call{t:At}{c:Ad}{d:Ai}(h:DesT t c lo d v w)(a:Bw w w'):DesT t c lo d v w':=by
 obtain⟨u,b,e⟩:=h;exact⟨u,b,e.call a⟩
def VioS(t:At)(c:Ad)(s:BA)(x y:Ai)(v:Value):Prop:=∃(va:Ae) (vc:Nat),v=.slice va (V_ t c s x y).length vc
def VioT(t:At)(c:Ad)(s:BA)(x y:Ai)(v:Value):Prop:=∃(va:Ae) (vc:Nat),v=.tuple #[.slice va (V_ t c s x y).length vc,(Kc t c s x y)]
theorem zCd(t:At)(c:Ad)(za:Ae)(zc:Nat)(aa:Ae)(ac:Nat)(fa:Ae)(fc:Nat)(p:Bd)(w:World)(j8:t.zn.length<=zc/\zc<=140737488355328/\t.ai.length<=ac/\ac<=140737488355328)(o9:c.cs.length<=p.cc/\p.cc<=9223372036854775807)(hT:Ea w t c za aa fa p)(base:ByteArray)(L:List Sd)(a:Ae)(ca:Nat)(hL:L.length<=60)(hA:zzU w a L):Calls prog 24 #[Az t za zc aa ac fa fc,Ay c p,.string base,.slice a L.length ca] w (NetR t c base L (Sb t c (qT t c base L)) w):=by
 try delta Ay Az
 have f6:=I hT;have HA:=I hA;have c5:=I j8;have g7:=I o9;have w0:t.ai.length<=140737488355328:=by omega
 clear hT hA j8 o9;go_enter func24,ntmps24
 go_wp2_with fail;obtain⟨hB,k4,k5,k6⟩:=cB w t c za zc aa ac fa fc p jC;obtain⟨tb,k7⟩:∃tb,tb=w.heap.size:=⟨_,rfl⟩;obtain⟨cb,k8⟩:∃cb,cb=w.heap.size+1:=⟨_,rfl⟩;obtain⟨nb,k9⟩:∃nb,nb=w.heap.size+1+1:=⟨_,rfl⟩;rw[<-k9]at k6;rw[<-k8]at k5;rw[<-k7]at k4;simp only[<-k9];simp only[<-k8];simp only[<-k7];have f7:=I (show w.heap.size<=nb by omega);have HB:=I hB;have QT:=I k4;have QC:=I k5;have QN:=I k6;clear k9 k8 k7 hB k4 k5 k6;generalize ((w.alloc (Ap t za zc aa ac fa fc)).alloc (Aj c p)).alloc jC=W0 at*;have h4:=I (f6.1.below HB.1);obtain⟨x0,x1,x2,xl⟩:=Ev QT.1;obtain⟨y0,y1,y2,y3,y4,y5,y6,y7,y8,y9,b4,b5,b6,b7,s⟩:=Ek QC.1;go_wp2_with fail;refine(kJ t c za zc aa ac fa fc p W0 W0.heap.size (Bv _) c5.1 g7.1 h4.1.z h4.1.a h4.1.f h4.1.c).mono ?_;rintro e w1 ⟨rfl,B1⟩;have f8:=I (Ab HB.1 B1);have i6:=I (Ac B1 QT.1);have l0:=I (Ac B1 QC.1);have h5:=I (Ac B1 QN.1);clear x0 x1 x2 xl y0 y1 y2 y3 y4 y5 y6 y7 y8 y9 b4 b5 b6 b7 s B1 QT QC QN HB h4;by_cases e0:Jn t c=0
 rotate_left
 . have HE:=I (show Jn t c=Sb t c (qT t c base L) by rw[zBR,if_pos e0]);have e1:(Jn t c !=0)=true:=by simpa using e0
   have l4:=I e0;clear e0;have l:=h5.1;have s0:=zm (j:=0) l rfl;have s1:=zm (j:=1) l rfl;have s2:=zm (j:=2) l rfl;have s3:=zm (j:=3) l rfl;have s4:=zm (j:=4) l rfl;have y0:=zQ (j:=0) l;have y1:=zQ (j:=1) l;have y2:=zQ (j:=2) l;have y3:=zQ (j:=3) l;have y4:=zQ (j:=4) l;have sl:=Ag l;have QW:=I (Pr [.string ⟨#[]⟩,.slice none 0 0,.slice none 0 0,.slice none 0 0,.slice none 0 0] [] [.string ⟨#[]⟩,.slice none 0 0,.slice none 0 0,.slice none 0 0,.slice none 0 0] _ rfl l);have HR:=I (Tt (show w.heap.size<=nb from f7.1) [.string ⟨#[]⟩,.slice none 0 0,.slice none 0 0,.slice none 0 0,.slice none 0 0] 0 _ f8.1);clear l;simp only[stN,Nat.zero_add,Nat.reduceAdd,List.length_nil]at QW HR;go_wp2_with fail;refine bodyPost_ret (zA4 rfl rfl rfl QW.1) rfl ⟨_,_,rfl,HE.1,(λh=>absurd h l4.1),(λ_=>rfl),HR.1⟩
 have l5:=I (show Sb t c (qT t c base L)=qT t c base L by rw[zBR,if_neg (not_not_intro e0)]);have l6:=I e0;rw[e0];clear e0;obtain⟨x0,x1,x2,xl⟩:=Ev i6.1;go_wp2_with fail;refine(Pf t.ai base aa ac w1 ((f6.1.below f8.1).a) w0).mono ?_;rintro e w2 ⟨rfl,rfl⟩;have i7:=rL t base;clear x0 x1 x2 xl;cases hb:Mo t base
 . have hx:decide (Nd t.ai base<0)=true:=by rw[i7,hb];rfl
   have HE:=I (show(6:Int)=Sb t c (qT t c base L) from(l5.1.trans (if_pos hb)).symm);have x3:Nd t.ai base<0:=of_decide_eq_true hx;clear hb i7 hx;have l:=h5.1;have s0:=zm (j:=0) l rfl;have s1:=zm (j:=1) l rfl;have s2:=zm (j:=2) l rfl;have s3:=zm (j:=3) l rfl;have s4:=zm (j:=4) l rfl;have y0:=zQ (j:=0) l;have y1:=zQ (j:=1) l;have y2:=zQ (j:=2) l;have y3:=zQ (j:=3) l;have y4:=zQ (j:=4) l;have sl:=Ag l;have QW:=I (Pr [.string ⟨#[]⟩,.slice none 0 0,.slice none 0 0,.slice none 0 0,.slice none 0 0] [] [.string ⟨#[]⟩,.slice none 0 0,.slice none 0 0,.slice none 0 0,.slice none 0 0] _ rfl l);have HR:=I (Tt (show w.heap.size<=nb from f7.1) [.string ⟨#[]⟩,.slice none 0 0,.slice none 0 0,.slice none 0 0,.slice none 0 0] 0 _ f8.1);clear l;simp only[stN,Nat.zero_add,Nat.reduceAdd,List.length_nil]at QW HR;go_wp2_with fail;refine bodyPost_ret (zA4 rfl rfl rfl QW.1) rfl ⟨_,_,rfl,HE.1,(λh=>absurd h (by decide)),(λ_=>rfl),HR.1⟩
 have hx:decide (Nd t.ai base<0)=false:=by rw[i7,hb];rfl
 have x3:¬ Nd t.ai base<0:=of_decide_eq_false hx;have x4:=I hb;have HE:=I (show Sb t c (qT t c base L)=Av (lgE t c L) 0 (L.length-0) from l5.1.trans (if_neg (by rw[hb];decide)));have x5:¬ (2000:Int)<(L.length:Int):=by omega
 clear hb i7 hx l5;go_upto_region 9 with fail
 have B2:=J w1 (Obj.cells #[.string base,.slice none 0 0,.slice none 0 0,.slice none 0 0,.slice none 0 0] 65);have q2:=zh w1 (Obj.cells #[.string base,.slice none 0 0,.slice none 0 0,.slice none 0 0,.slice none 0 0] 65);obtain⟨mb,l7⟩:∃mb,mb=w1.heap.size:=⟨_,rfl⟩;rw[<-l7]at q2;simp only[<-l7];have p5:=I (show w.heap.size<=mb by have:=f8.1.size;omega)
 have i8:=I (show nb≠mb/\tb≠mb/\cb≠mb by
  have h1:=Ag h5.1;have h2:=Ag i6.1;have h3:=Ag l0.1;omega)
 clear l7;generalize w1.alloc (Obj.cells #[.string base,.slice none 0 0,.slice none 0 0,.slice none 0 0,.slice none 0 0] 65)=W at*;have p6:=I (Ab f8.1 B2);have p7:=I (Ac B2 i6.1);have p8:=I (Ac B2 l0.1);have l8:=I (Ac B2 h5.1);have QM:=I q2;have p9:=I (Ag q2);clear B2 q2 i6 l0 h5 f8;go_wp2_with fail;go_loopw [12] (λi wr=>∃(k:Nat) (lv:Value) (U:Nat->Value) (Q:Nat->List Int),k<=L.length/\i=.int .i64 k/\Af (Av (lgE t c L) 0 (L.length-0)=Av (lgE t c L) k (L.length-k))/\Af (∀i,i<k->lgE t c L i=0)/\Af (Q 0=jQ (λj=>(Hx L j).src.toList==base.toList) k/\Q 1=jQ (λj=>(Hx L j).dst.toList==base.toList) k)/\Af (TI w W.heap.size mb base [(nb,jC),(tb,Ap t za zc aa ac fa fc),(cb,Aj c p)] lv (.slice none 0 0) U (L.take k) [] Q wr)) (λi _=>L.length-(intOf i).toNat)
 case atStart=>exact⟨0,.slice none 0 0,λ_=>.slice none 0 0,λ_=> [],Bg _,rfl,I rfl,I (λi h=>absurd h (Nat.not_lt_zero i)),I ⟨rfl,rfl⟩,I (TI.nil p6.1 p5.1 p9.1 (Bv _) (keep3 i8.1.1 l8.1 i8.1.2.1 p7.1 i8.1.2.2 p8.1) QM.1)⟩
 obtain⟨k,lv,U,Q,hk,rfl,b1,d9,HQ,ST⟩:=hrel;have BR:=I ST.1.br;have l9:=I ST.1.qm;have m5:=I (ST.1.at 0 rfl);have h6:=I (ST.1.at 1 rfl);have h7:=I (ST.1.at 2 rfl);have h8:=I ST.1.bel;have q5:=I ST.1.sz;by_cases b8:k<L.length
 rotate_left
 . obtain rfl:k=L.length:=by omega
   have x6:=I (show(0:Int)=Sb t c (qT t c base L) from((HE.1.trans b1.1).trans (Nq (lgE t c L) L.length)).symm);have q6:=I (λi hi=>zBh (d9.1 i hi));have x7:=I (Ag l8.1);have q7:=I (show TI w W.heap.size mb base [(nb,jC),(tb,Ap t za zc aa ac fa fc),(cb,Aj c p)] lv (.slice none 0 0) U L (qP t c base L 0) Q wr from by have h:=ST.1;rw[List.take_length]at h;exact h);clear b1 d9 BR l9 m5 h6 h7 h8 q5 ST HE p7 p8 l8 QM p6 i8 hk;go_wp2_with fail;go_loopw [15] (λiv wr=>∃(i:Nat) (kv:Value),i<=L.length/\iv=.int .i64 i/\Af (TI w W.heap.size mb base [(nb,jC),(tb,Ap t za zc aa ac fa fc),(cb,Aj c p)] lv kv U L (qP t c base L i) Q wr)) (λiv _=>L.length-(intOf iv).toNat)
   case atStart=>exact⟨0,.slice none 0 0,Bg _,rfl,q7⟩
   obtain⟨i,kv,hi,rfl,S1⟩:=hrel;clear q7;by_cases q8:i<L.length
   rotate_left
   . obtain rfl:i=L.length:=by omega
     have r8:((qP t c base L L.length).length:Int)<=20000:=by
      have h1:=zz7 t c base L L.length;have h3:=Nat.mul_le_mul hL hL;omega
     obtain⟨a1,a3,a5,a7,a2,a4,a6,a8,rfl,rfl,m6,m7,N1,N2,N3,N4⟩:=S1.1.net;rw[show Q 0=PX base L from HQ.1.1]at m6 N3;rw[show Q 1=TE base L from HQ.1.2]at m7 N4;have c7:=S1.1.qm;rw[m6,m7]at c7;have x8:=I N1;have x9:=I N2;have A1:=I N3;have A2:=I N4;have m0:=zm (j:=0) c7 rfl;have m1:=zm (j:=1) c7 rfl;have m2:=zm (j:=2) c7 rfl;have m3:=zm (j:=3) c7 rfl;have m4:=zm (j:=4) c7 rfl;have ml:=Ag c7;have l:=S1.1.at 0 rfl;have s0:=zm (j:=0) l rfl;have s1:=zm (j:=1) l rfl;have s2:=zm (j:=2) l rfl;have s3:=zm (j:=3) l rfl;have s4:=zm (j:=4) l rfl;have y0:=zQ (j:=0) l;have y1:=zQ (j:=1) l;have y2:=zQ (j:=2) l;have y3:=zQ (j:=3) l;have y4:=zQ (j:=4) l;have sl:=Ag l;have QW:=I (Pr [.string base,.slice a1 L.length a2,.slice a3 (qP t c base L L.length).length a4,.slice a5 (PX base L).length a6,.slice a7 (TE base L).length a8] [] [.string ⟨#[]⟩,.slice none 0 0,.slice none 0 0,.slice none 0 0,.slice none 0 0] _ rfl l);have HR:=I (Tt f7.1 [.string base,.slice a1 L.length a2,.slice a3 (qP t c base L L.length).length a4,.slice a5 (PX base L).length a6,.slice a7 (TE base L).length a8] 0 _ S1.1.bel);have AG:=jR.stN (lo:=W.heap.size) x7.1 [.string base,.slice a1 L.length a2,.slice a3 (qP t c base L L.length).length a4,.slice a5 (PX base L).length a6,.slice a7 (TE base L).length a8] 0 wr;have d0:w.heap.size<=W.heap.size:=by have:=p5.1;have:=p9.1;omega
     clear l c7 m6 m7 N1 N2 N3 N4 S1;simp only[stN,Nat.zero_add,Nat.reduceAdd,List.length_nil]at QW HR AG;have i9:=I AG;clear AG;go_wp2_with fail;refine bodyPost_ret (zA4 rfl rfl rfl QW.1) rfl ⟨_,_,rfl,x6.1,λ_=>⟨a1,a3,a5,a7,a2,a4,a6,a8,rfl,(x8.1.to i9.1).le d0,(x9.1.to i9.1).le d0,(A1.1.to i9.1).le d0,(A2.1.to i9.1).le d0⟩,(λh=>absurd rfl h),HR.1⟩
   have C8:(i:Int)<(L.length:Int):=by omega
   have r9:=I (show TI w W.heap.size mb base [(nb,jC),(tb,Ap t za zc aa ac fa fc),(cb,Aj c p)] lv kv U L (qP t c base L i++zz1 t c base L i 0) Q wr from by have h:=S1.1;rw[zz1,List.append_nil];exact h);clear S1;go_wp2_with fail;go_loopw [16] (λjv wr=>∃(k:Nat) (kv:Value),k<=L.length/\jv=.int .i64 k/\Af (TI w W.heap.size mb base [(nb,jC),(tb,Ap t za zc aa ac fa fc),(cb,Aj c p)] lv kv U L (qP t c base L i++zz1 t c base L i k) Q wr)) (λjv _=>L.length-(intOf jv).toNat)
   case atStart=>exact⟨0,kv,Bg _,rfl,r9⟩
   obtain⟨k,kv,hk,rfl,S2⟩:=hrel;clear r9;by_cases s7:k<L.length
   rotate_left
   . obtain rfl:k=L.length:=by omega
     go_wp2;go_roundw
     case rel=>exact⟨i+1,kv,by omega,by go_num,S2⟩
     case measure=>simp[intOf];omega
   have C9:(k:Int)<(L.length:Int):=by omega
   obtain⟨g,o,rfl,hg,hc⟩:=(HA.1.below S2.1.bel).cells (by omega);have HC:=I hc;clear hc;obtain⟨wk,A3⟩:∃v:World,v=wr:=⟨_,rfl⟩;subst A3;obtain⟨x,hx⟩:∃x,x=Hx L i:=⟨_,rfl⟩;obtain⟨y,hy⟩:∃y,y=Hx L k:=⟨_,rfl⟩;have f9:=I (show _/\_ from zCy (zCe l6.1).1 (zCe l6.1).2 x4.1 (q6.1 i q8) (q6.1 k s7));obtain⟨t0,t3,p0,p1,p2,p3,p4,-,-,b9,d7⟩:=HC.1 i q8;obtain⟨t4,t5,q0,q1,q2,q3,q4,-,-,d1,b2⟩:=HC.1 k s7;rw[<-hx]at p0 p1 p2 p3 p4 b9 d7;rw[<-hy]at q0 q1 q2 q3 q4 d1 b2;have HX:=I hx;have HY:=I hy;rw[<-hx,<-hy]at f9;have T1:=I d7;have T2:=I b2;clear hx hy d7 b2 HC;go_upto_region 30 with fail
   go_cut [148] (λcv wx=>∃z:Bool,cv=.bool z/\Af (z=false ↔ (x.dst.toList==y.src.toList)=true/\decide (x.rel<=y.rep)=true)/\Af (Bw wk wx))
   case first=>
    cases hs:(x.dst.toList==y.src.toList)
    . have hn:(x.dst.toList !=y.src.toList)=true:=by rw[bne,hs];rfl
      have HS:=I hs;go_wp2;go_quiet (fail)
      go_wp2;go_meet
      case rel=>exact⟨true,rfl,I (by rw[HS.1];simp),I (dr _ _)⟩
    have hn:(x.dst.toList !=y.src.toList)=false:=by rw[bne,hs];rfl
    have HS:=I hs;go_wp2;go_quiet (fail)
    go_wp2;go_meet
    case rel=>exact⟨decide (y.rep<x.rel),rfl,I (by rw[HS.1];simp),I (dr _ _)⟩
   obtain⟨z,rfl,HZ,b3⟩:=hcut;obtain⟨w3,A4⟩:∃v:World,v=wc:=⟨_,rfl⟩;subst A4;have S3:=I (S2.1.call b3.1);have P0:=zD p0 hg b3.1;have Q0:=zD q0 hg b3.1;have T3:=I (T1.1.below b3.1);have T4:=I (T2.1.below b3.1);have E:=As hg b3.1.size;clear p0 p1 p2 p3 p4 q0 q1 q2 q3 q4 S2 b3 hg T1 T2;cases z;rotate_left
   . have HL:=I (show zAc t c base x y=false by
      rw[<-f9.1.1];cases hA:(x.dst.toList==y.src.toList)
      . rfl
      cases hB:decide (x.rel<=y.rep)
      . rfl
      have:=HZ.1.2 ⟨hA,hB⟩;cases this)
     clear P0 Q0 HZ;have S9:=I (show TI w W.heap.size mb base [(nb,jC),(tb,Ap t za zc aa ac fa fc),(cb,Aj c p)] lv kv U L (qP t c base L i++zz1 t c base L i (k+1)) Q w3 from by rw[zBu (by rw[<-HX.1,<-HY.1];exact HL.1)];exact S3.1);go_wp2;go_roundw
     case rel=>exact⟨k+1,kv,by omega,by go_num,S9⟩
     case measure=>simp[intOf];omega
   have f0:=I (HZ.1.1 rfl);clear HZ;go_upto_region 31 with fail
   go_cut [17,18] (λvv ev wx=>∃(va:Ae) (vc:Nat),vv=.slice va (V_ t c base x.duty y.duty).length vc/\ev=.int .i64 (Kc t c base x.duty y.duty)/\Af (Bw w3 wx))
   case first=>
    obtain⟨x0,x1,x2,xl⟩:=Ev (S3.1.at 1 rfl);obtain⟨y0,y1,y2,y3,y4,y5,y6,y7,y8,y9,b4,b5,b6,b7,s⟩:=Ek (S3.1.at 2 rfl);go_wp2_with fail;refine' Wi [⟨150, [],.kn _⟩,⟨151, [],.kn _⟩,⟨152, [],.kn _⟩,⟨153, [],.kn _⟩,⟨154, [],.kn _⟩,⟨155, [153,154],.kn _⟩,⟨156, [155],.kn _⟩,⟨157, [156],.kn _⟩,⟨158, [],.kn _⟩,⟨159, [],.kn _⟩,⟨160, [158,159],.kn _⟩,⟨161, [160],.kn _⟩,⟨162, [161],.kn _⟩,⟨163, [150,151,152,157,162],.pu (VioT t c base x.duty y.duty)⟩,⟨149, [163],.pu (VioT t c base x.duty y.duty)⟩,⟨164, [149],.pu (VioS t c base x.duty y.duty)⟩,⟨165, [149],.kn (.int .i64 (Kc t c base x.duty y.duty))⟩,⟨17, [164],.pu (VioS t c base x.duty y.duty)⟩] [2,3,4,5,15,16] [17,165] (λ_ h=>And.intro (zD x0 xl h) (And.intro (zD x1 xl h) (And.intro (zD x2 xl h) (And.intro (zD y0 s h) (And.intro (zD y1 s h) (And.intro (zD y2 s h) (And.intro (zD y3 s h) (And.intro (zD y4 s h) (And.intro (zD y5 s h) (And.intro (zD y6 s h) (And.intro (zD y7 s h) (And.intro (zD y8 s h) (And.intro (zD y9 s h) (And.intro (zD b4 s h) (And.intro (zD b5 s h) (And.intro (zD b6 s h) (And.intro (zD b7 s h) (And.intro (zD P0 E h) (And.intro (zD Q0 E h) (And.intro (As xl h.size) (And.intro (As s h.size) (As E h.size)))))))))))))))))))))) ?h2 ?c2 ?f2
    case h2=>
     intro u;simp only[Df,Jm,↓reduceIte,Nat.reduceEqDiff];intros
     refine⟨?_,?_,?_,?_,?_,?_,?_,?_,?_,?_,?_,?_,?_,?_,?_,?_,?_,?_,trivial⟩
     all_goals try (intros;refine Fy (by assumption) ?_;go_simp <;> rfl)
     . intro A F e hb g f1 f2 f3 f4 f5 K k2;go_simp;refine(zvg t c za zc aa ac fa fc p F c5.1 g7.1 (f6.1.below (Ab S3.1.bel hb)) base x.duty y.duty t0 t4 t3 t5 b9 d1 (T3.1.below hb) (T4.1.below hb)).mono ?_;rintro e' w5 ⟨va,vc,rfl,-,h⟩;exact k2.1 _ _ ⟨h,va,vc,rfl⟩
     . intro A F e hb g f1 K k2;obtain⟨va,vc,f1⟩:=f1;go_simp;exact k2.1 _ _ ⟨An _ _,va,vc,rfl⟩
     . intro A F e hb g f1 K k2;obtain⟨va,vc,f1⟩:=f1;go_simp;exact k2.1 _ _ ⟨An _ _,va,vc,rfl⟩
     . intro A F e hb g f1 K k2;obtain⟨va,vc,f1⟩:=f1;go_simp;exact k2.1 _ _ ⟨An _ _,rfl⟩
     intro A F e hb g f1 K k2;obtain⟨va,vc,f1⟩:=f1;go_simp;exact k2.1 _ _ ⟨An _ _,va,vc,rfl⟩
    case c2=>kernel_rfl
    intro u w9 hb;simp only[Df,Hu,Jm,Act.put,O,↓reduceIte,Nat.reduceEqDiff];rintro⟨va,vc,e1⟩ e2;rw[e1,e2];have A5:=I hb;clear e1 e2 hb x0 x1 x2 xl y0 y1 y2 y3 y4 y5 y6 y7 y8 y9 b4 b5 b6 b7 s P0 Q0;go_wp2;go_meet
    case rel=>exact⟨va,vc,rfl,rfl,A5⟩
   obtain⟨va,vc,rfl,rfl,B⟩:=hcut;obtain⟨F,m8⟩:∃v:World,v=wc:=⟨_,rfl⟩;subst m8;have S4:=I (S3.1.call B.1);have P4:=I (zD P0 E B.1);have Q4:=I (zD Q0 E B.1);have t6:=I (T3.1.below B.1);have t7:=I (T4.1.below B.1);have j0:=As E B.1.size;clear P0 Q0 S3 B E T3 T4;obtain⟨er,m9⟩:∃er,er=Kc t c base x.duty y.duty:=⟨_,rfl⟩;obtain⟨vn,n0⟩:∃n,n=(V_ t c base x.duty y.duty).length:=⟨_,rfl⟩;rw[<-m9,<-n0];have n1:=I m9;have n2:=I n0;clear m9 n0;go_upto_region 32 with fail
   go_cut [172] (λcv wx=>∃z:Bool,cv=.bool z/\Af (z=false ↔ er=0/\vn=0)/\Af (Bw F wx))
   case first=>
    by_cases e0:er=0
    . have hn:(er !=0)=false:=by simp[e0]
      have HS:=I e0;clear e0;go_wp2;go_meet
      case rel=>exact⟨_,rfl,I (by have:=HS.1;simp;omega),I (An _ _)⟩
    have hn:(er !=0)=true:=by simp[e0]
    have HS:=I e0;clear e0;go_wp2;go_meet
    case rel=>exact⟨true,rfl,I (by have:=HS.1;simp;omega),I (An _ _)⟩
   obtain⟨z,rfl,HZ,G⟩:=hcut;obtain⟨w5,h9⟩:∃v:World,v=wc:=⟨_,rfl⟩;subst h9;have S5:=I (S4.1.call G.1);have P0:=zD P4.1 j0 G.1;have Q0:=zD Q4.1 j0 G.1;have T5:=I (t6.1.below G.1);have T6:=I (t7.1.below G.1);have E:=As j0 G.1.size;clear P4 Q4 S4 G j0 t6 t7;cases z;rotate_left
   . have HL:=I (show zAc t c base x y=false by
      rw[<-f9.1.1,f0.1.1,f0.1.2];cases hC:decide (Kc t c base x.duty y.duty=0)
      . rfl
      cases hD:(V_ t c base x.duty y.duty).isEmpty
      . rfl
      have:=HZ.1.2 ⟨n1.1.trans (of_decide_eq_true hC),by rw[n2.1,List.isEmpty_iff.1 hD];rfl⟩;cases this)
     clear P0 Q0 HZ;have S9:=I (show TI w W.heap.size mb base [(nb,jC),(tb,Ap t za zc aa ac fa fc),(cb,Aj c p)] lv kv U L (qP t c base L i++zz1 t c base L i (k+1)) Q w5 from by rw[zBu (by rw[<-HX.1,<-HY.1];exact HL.1)];exact S5.1);go_wp2;go_roundw
     case rel=>exact⟨k+1,kv,by omega,by go_num,S9⟩
     case measure=>simp[intOf];omega
   have HL:=I (show zAc t c base x y=true by
    obtain⟨h1,h2⟩:=HZ.1.1 rfl;rw[<-f9.1.1,f0.1.1,f0.1.2,decide_eq_true (n1.1.symm.trans h1),List.isEmpty_iff.2 (List.eq_nil_of_length_eq_zero (n2.1.symm.trans h2))];rfl)
   have A6:=I (show(qP t c base L i++zz1 t c base L i k)++ [(⟨i,k,d_ t c base x.duty y.duty⟩:DW)]=qP t c base L i++zz1 t c base L i (k+1) by
    rw[zB5 (by rw[<-HX.1,<-HY.1];exact HL.1),f9.1.2 HL.1,List.append_assoc,HX.1,HY.1])
   have r8:(qP t c base L i++zz1 t c base L i k).length<=4000:=by
    have h1:=zz7 t c base L i;have h2:=zAv t c base L i k;have h3:=Nat.mul_le_mul (show i<=60 by omega) hL;rw[Gh];omega
   clear HZ f9 n1 n2;go_upto_region 33 with fail
   obtain⟨x0,x1,x2,xl⟩:=Ev (S5.1.at 1 rfl);obtain⟨y0,y1,y2,y3,y4,y5,y6,y7,y8,y9,b4,b5,b6,b7,s⟩:=Ek (S5.1.at 2 rfl);go_wp2_with fail;refine' Wi [⟨174, [],.kn _⟩,⟨175, [],.kn _⟩,⟨176, [],.kn _⟩,⟨177, [],.kn _⟩,⟨178, [],.kn _⟩,⟨179, [177,178],.kn _⟩,⟨180, [179],.kn _⟩,⟨181, [180],.kn _⟩,⟨182, [],.kn _⟩,⟨183, [],.kn _⟩,⟨184, [182,183],.kn _⟩,⟨185, [184],.kn _⟩,⟨186, [185],.kn _⟩,⟨187, [174,175,176,181,186],.kn (.tuple #[(d_ t c base x.duty y.duty),(Kc t c base x.duty y.duty)])⟩,⟨173, [187],.kn _⟩,⟨188, [173],.kn _⟩,⟨189, [173],.kn _⟩,⟨19, [188],.kn _⟩] [2,3,4,5,15,16] [19,189] (λ_ h=>And.intro (zD x0 xl h) (And.intro (zD x1 xl h) (And.intro (zD x2 xl h) (And.intro (zD y0 s h) (And.intro (zD y1 s h) (And.intro (zD y2 s h) (And.intro (zD y3 s h) (And.intro (zD y4 s h) (And.intro (zD y5 s h) (And.intro (zD y6 s h) (And.intro (zD y7 s h) (And.intro (zD y8 s h) (And.intro (zD y9 s h) (And.intro (zD b4 s h) (And.intro (zD b5 s h) (And.intro (zD b6 s h) (And.intro (zD b7 s h) (And.intro (zD P0 E h) (And.intro (zD Q0 E h) (And.intro (As xl h.size) (And.intro (As s h.size) (As E h.size)))))))))))))))))))))) ?h3 ?c3 ?f3
   case h3=>
    intro u;simp only[Df,Jm,↓reduceIte,Nat.reduceEqDiff];intros
    refine⟨?_,?_,?_,?_,?_,?_,?_,?_,?_,?_,?_,?_,?_,?_,?_,?_,?_,?_,trivial⟩
    all_goals try (intros;refine Fy (by assumption) ?_;go_simp <;> rfl)
    intro A F e hb g f1 f2 f3 f4 f5 K k2;go_simp;refine(zvo t c za zc aa ac fa fc p F c5.1 g7.1 (f6.1.below (Ab S5.1.bel hb)) base x.duty y.duty t0 t4 t3 t5 b9 d1 (T5.1.below hb) (T6.1.below hb)).mono ?_;rintro e' w5 ⟨rfl,h⟩;exact k2.1 _ _ ⟨h,rfl⟩
   case c3=>kernel_rfl
   intro u w9 hb;simp only[Df,Hu,Jm,Act.put,O,↓reduceIte,Nat.reduceEqDiff];rintro e1 e2;rw[e1,e2];have S9:=I (S5.1.call hb);clear e1 e2 hb x0 x1 x2 xl y0 y1 y2 y3 y4 y5 y6 y7 y8 y9 b4 b5 b6 b7 s P0 Q0 S5 T5 T6;have m2:=zm (j:=2) S9.1.qm rfl;have ml:=Ag S9.1.qm;have a9:=S9.1.sz;have ow:=S9.1.br.lk;obtain⟨kn,n3⟩:∃n,n=(qP t c base L i++zz1 t c base L i k).length:=⟨_,rfl⟩;rw[<-n3]at ow r8;have A7:=I n3.symm;clear n3;go_wp2_with (at_builtin;refine Zw zAZ a9 ow [.int .i64 (i:Nat),.int .i64 (k:Nat),.int .i64 (d_ t c base x.duty y.duty)] rfl rfl rfl rfl rfl (by simp[Value.oneCell']) (by omega) ?_;intro g1 c1 D0 hO hG hA;have H:=S9.1.staym S9.1.br.lk hG;have q3:=zm (j:=2) H rfl;have t8:=zQ (j:=2) H;have sl:=Ag H;have SA:=I (S9.1.linkK A7.1 A6.1 hG hO hA);clear hO hG hA H)
   go_roundw
   case rel=>exact⟨k+1,.slice (some ⟨g1,0,none⟩) (kn+1) c1,by omega,by go_num,SA⟩
   case measure=>simp[intOf];omega
 obtain⟨g,o,ea,hg,hc⟩:=(HA.1.below h8.1).cells (by omega);have n4:a=some ⟨g,o,none⟩:=ea;clear ea;subst n4;obtain⟨da,dc,z0,z1,z2,z3,z4,z5,z6,b9,d7⟩:=hc k b8;obtain⟨d,hd⟩:∃d,d=(Hx L k).duty:=⟨_,rfl⟩;rw[<-hd]at z0 b9 d7;have HD:=I hd;have T1:=I d7;have HC:=I hc;clear hc hd d7;obtain⟨x0,x1,x2,xl⟩:=Ev h6.1;obtain⟨y0,y1,y2,y3,y4,y5,y6,y7,y8,y9,b4,b5,b6,b7,s⟩:=Ek h7.1;have D1:(k:Int)<(L.length:Int):=by omega
 go_wp2_with fail;refine aE λA0 hA0=>?_
 have r:A0.tmps.size=205:=by rw[hA0];rfl
 have d3:=I (dr wr 1);obtain⟨lw,t9⟩:∃lw,lw=wr.heap.size:=⟨_,rfl⟩;have c0:=I t9;clear t9;refine rgCut (λa' w'=>∃(xb:Nat) (V:Value) (M:Ae) (sn N:Nat) (P R:Int) (C D:ByteArray) (S T:Int),V=.agg #[.slice M sn N,P,R,.string C,.string D,S,T]/\a'=Dj A0 [(14,.int .i64 (BB t c d)),(13,.pointer (some ⟨xb,0,none⟩)),(56,.int .i64 (BB t c d)),(55,V),(46,.tuple #[V,(BB t c d)]),(54,.tuple #[V,(BB t c d)]),(53,.slice da d.length dc),(52,.pointer (some ⟨g,o+k*7,none⟩)),(51,.pointer (some ⟨g,o+k*7,none⟩)),(50,.int .i64 k),(49,.slice (some ⟨g,o,none⟩) L.length ca),(48,.agg #[c.rp,c.rl,c.cn,c.sit,c.lv,c.nf,c.nt,.slice p.ca c.cs.length p.cc,.slice p.ra c.rs.length p.rc,.slice p.ka c.ks.length p.kc,.slice p.xa c.xs.length p.xc,.slice p.la c.ls.length p.lc,.slice p.oa c.oz.length p.oc,c.gu]),(47,.agg #[.slice za t.zn.length zc,.slice aa t.ai.length ac,.slice fa t.fs.length fc]),(4,.pointer (some ⟨tb,0,none⟩)),(5,.pointer (some ⟨cb,0,none⟩)),(3,.slice (some ⟨g,o,none⟩) L.length ca),(12,.int .i64 k)]/\w'.heap[xb]?=some (Obj.cells #[.slice M sn N,P,R,.string C,.string D,S,T] 50)/\(BB t c d=0->cK t c d P R C D S T/\sn=d.length/\Hj lw (.slice M sn N) d w')/\lw<=xb/\Below lw wr w') [] [(4,.pointer (some ⟨tb,0,none⟩)),(5,.pointer (some ⟨cb,0,none⟩)),(3,.slice (some ⟨g,o,none⟩) L.length ca),(12,.int .i64 k)] r (by rw[hA0];rfl) ?_ ?_
 . refine Vk 0 47 (.agg #[.slice za t.zn.length zc,.slice aa t.ai.length ac,.slice fa t.fs.length fc]) [] rfl r d3.1 ?_ ?_
   . intro A w' e hS;obtain⟨X,Y,Z⟩:=e.at (t:=4) (V:=(.pointer (some ⟨tb,0,none⟩))) rfl;obtain⟨x0,x1,x2,xl⟩:=Ev (Ac hS h6.1);go_simp
   refine Vk 1 48 (.agg #[c.rp,c.rl,c.cn,c.sit,c.lv,c.nf,c.nt,.slice p.ca c.cs.length p.cc,.slice p.ra c.rs.length p.rc,.slice p.ka c.ks.length p.kc,.slice p.xa c.xs.length p.xc,.slice p.la c.ls.length p.lc,.slice p.oa c.oz.length p.oc,c.gu]) [] rfl r d3.1 ?_ ?_
   . intro A w' e hS;obtain⟨X,Y,Z⟩:=e.at (t:=5) (V:=(.pointer (some ⟨cb,0,none⟩))) rfl;obtain⟨y0,y1,y2,y3,y4,y5,y6,y7,y8,y9,b4,b5,b6,b7,s⟩:=Ek (Ac hS h7.1);go_simp
   refine De 2 49 (.slice (some ⟨g,o,none⟩) L.length ca) rfl r ?_;refine De 3 50 (.int .i64 k) rfl r ?_;refine Kr 4 51 (.pointer (some ⟨g,o+k*7,none⟩)) rfl r ?_ ?_
   . intro A w' e;obtain⟨X,Y,Z⟩:=e.at (t:=49) (V:=(.slice (some ⟨g,o,none⟩) L.length ca)) rfl;obtain⟨d4,d5,d6⟩:=e.at (t:=50) (V:=(.int .i64 k)) rfl;go_simp
   refine De 5 52 (.pointer (some ⟨g,o+k*7,none⟩)) rfl r ?_;refine Nk 6 53 52 (.slice da d.length dc) [] rfl r d3.1 z0 hg ?_;refine rgDuo 7 11 54 13 rfl rfl r (λA e K hK=>?_) (λA e K hK=>?_)
   . obtain⟨X,Y,Z⟩:=e.at (t:=47) (V:=(.agg #[.slice za t.zn.length zc,.slice aa t.ai.length ac,.slice fa t.fs.length fc])) rfl;obtain⟨d4,d5,d6⟩:=e.at (t:=48) (V:=(.agg #[c.rp,c.rl,c.cn,c.sit,c.lv,c.nf,c.nt,.slice p.ca c.cs.length p.cc,.slice p.ra c.rs.length p.rc,.slice p.ka c.ks.length p.kc,.slice p.xa c.xs.length p.xc,.slice p.la c.ls.length p.lc,.slice p.oa c.oz.length p.oc,c.gu])) rfl;obtain⟨n5,n6,n7⟩:=e.at (t:=53) (V:=(.slice da d.length dc)) rfl;go_simp;refine(zAg t c za zc aa ac fa fc p _ c5.1 g7.1 (f6.1.below (Ab h8.1 d3.1)) d da dc b9 (T1.1.below d3.1)).mono ?_;rintro e' F ⟨M,sn,N,P,R,C,D,S,T,er,rfl,rfl,b0,h⟩;refine hK.1 _ _ (λ_ h0=>Ab h0 h) ?_;have B:=I (Ab d3.1 h);have G:=I h;have a9:=d3.1.size;have a0:=I (λh0=>And.intro (b0 h0).1 (And.intro (b0 h0).2.1 ((b0 h0).2.2.base (show lw<=_ by have:=c0.1;omega))));clear hK X Y Z d4 d5 d6 n5 n6 n7 e A K b0 h a9;refine De 8 46 (.tuple #[.agg #[.slice M sn N,P,R,.string C,.string D,S,T],(BB t c d)]) rfl r ?_;refine Kr 9 55 (.agg #[.slice M sn N,P,R,.string C,.string D,S,T]) rfl r ?_ ?_
     . intro A w' e;obtain⟨X,Y,Z⟩:=e.at (t:=46) (V:=(.tuple #[.agg #[.slice M sn N,P,R,.string C,.string D,S,T],(BB t c d)])) rfl;go_simp
     refine Kr 10 56 (.int .i64 (BB t c d)) rfl r ?_ ?_
     . intro A w' e;obtain⟨X,Y,Z⟩:=e.at (t:=46) (V:=(.tuple #[.agg #[.slice M sn N,P,R,.string C,.string D,S,T],(BB t c d)])) rfl;go_simp
     refine Rz 11 13 rfl r (λA e K hK=>?_);go_simp;refine hK.1 _ _ (λ_ h=>Ab h (J _ _)) ?_;clear hK e A K;have q9:=zh F jD;obtain⟨xb,d8⟩:∃xb,xb=F.heap.size:=⟨_,rfl⟩;rw[<-d8]at q9;simp only[<-d8];have n8:=I (show lw<=xb by have:=c0.1;have:=B.1.size;omega);have n9:=I (Ab B.1 (J F jD));have QB:=I q9;have u0:=I (λh0=>(a0.1 h0).2.2.call (J F jD));have g0:=I (show wr.heap.size<=xb by have:=B.1.size;omega);clear d8 q9;generalize F.alloc jD=w5 at*;refine Ub 12 rfl r (λA e K hK=>?_);obtain⟨X,Y,Z⟩:=e.at (t:=13) (V:=(.pointer (some ⟨xb,0,none⟩))) rfl;obtain⟨d4,d5,d6⟩:=e.at (t:=55) (V:=(.agg #[.slice M sn N,P,R,.string C,.string D,S,T])) rfl;have l:=QB.1;have s0:=zm (j:=0) l rfl;have s1:=zm (j:=1) l rfl;have s2:=zm (j:=2) l rfl;have s3:=zm (j:=3) l rfl;have s4:=zm (j:=4) l rfl;have s5:=zm (j:=5) l rfl;have s6:=zm (j:=6) l rfl;have y0:=zQ (j:=0) l;have y1:=zQ (j:=1) l;have y2:=zQ (j:=2) l;have y3:=zQ (j:=3) l;have y4:=zQ (j:=4) l;have y5:=zQ (j:=5) l;have y6:=zQ (j:=6) l;have sl:=Ag l;have QW:=I (Pr [.slice M sn N,.int .i64 P,.int .i64 R,.string C,.string D,.int .i64 S,.int .i64 T] [] [.slice none 0 0,.int .i64 0,.int .i64 0,.string ⟨#[]⟩,.string ⟨#[]⟩,.int .i64 0,.int .i64 0] _ rfl l);have HR:=I (Tt g0.1 [.slice M sn N,.int .i64 P,.int .i64 R,.string C,.string D,.int .i64 S,.int .i64 T] 0 _ n9.1);have AG:=I (λh0=>And.intro (a0.1 h0).1 (And.intro (a0.1 h0).2.1 (zBV (u0.1 h0) (Ma (u0.1 h0) QB.1 (by decide)) [.slice M sn N,.int .i64 P,.int .i64 R,.string C,.string D,.int .i64 S,.int .i64 T] 0)));clear l;simp only[stN,Nat.zero_add,Nat.reduceAdd,List.length_nil]at QW HR AG;go_simp;refine hK.1 _ (λ_ _=>HR.1) ?_;clear hK X Y Z d4 d5 d6 e A K s0 s1 s2 s3 s4 s5 s6 y0 y1 y2 y3 y4 y5 y6 sl;refine De 13 14 (.int .i64 (BB t c d)) rfl r ?_;refine Wn ?_;exact⟨xb,_,M,sn,N,P,R,C,D,S,T,rfl,rfl,QW.1,AG.1,n8.1,(by rw[c0.1];exact HR.1)⟩
   go_simp;refine hK.1 _ _ (λ_ h=>Ab h (J _ _)) ?_;clear hK e A K;have q9:=zh wr.drew jD;have B9:=Ab d3.1 (J wr.drew jD);obtain⟨xb,d8⟩:∃xb,xb=wr.heap.size:=⟨_,rfl⟩;rw[show wr.drew.heap.size=xb from d8.symm]at q9;simp only[<-d8];have n8:=I (show lw<=xb by have:=c0.1;omega);have g0:=I (show wr.heap.size<=xb by omega);clear d8;try simp only[show(wr.alloc jD).drew=wr.drew.alloc jD from rfl]
   generalize wr.drew.alloc jD=w3 at*;have j1:=I B9;have A8:=I q9;clear q9 B9;refine Rz 7 54 rfl r (λA e K hK=>?_);obtain⟨X,Y,Z⟩:=e.at (t:=47) (V:=(.agg #[.slice za t.zn.length zc,.slice aa t.ai.length ac,.slice fa t.fs.length fc])) rfl;obtain⟨d4,d5,d6⟩:=e.at (t:=48) (V:=(.agg #[c.rp,c.rl,c.cn,c.sit,c.lv,c.nf,c.nt,.slice p.ca c.cs.length p.cc,.slice p.ra c.rs.length p.rc,.slice p.ka c.ks.length p.kc,.slice p.xa c.xs.length p.xc,.slice p.la c.ls.length p.lc,.slice p.oa c.oz.length p.oc,c.gu])) rfl;obtain⟨n5,n6,n7⟩:=e.at (t:=53) (V:=(.slice da d.length dc)) rfl;go_simp;refine(zAg t c za zc aa ac fa fc p _ c5.1 g7.1 (f6.1.below (Ab h8.1 j1.1)) d da dc b9 (T1.1.below j1.1)).mono ?_;rintro e' F ⟨M,sn,N,P,R,C,D,S,T,er,rfl,rfl,b0,h⟩;refine hK.1 _ _ (λ_ h0=>Ab h0 h) ?_;have B:=I (Ab j1.1 h);have G:=I h;have a9:=j1.1.size;have a0:=I (λh0=>And.intro (b0 h0).1 (And.intro (b0 h0).2.1 ((b0 h0).2.2.base (show lw<=_ by have:=c0.1;omega))));clear hK X Y Z d4 d5 d6 n5 n6 n7 e A K b0 h a9;refine De 8 46 (.tuple #[.agg #[.slice M sn N,P,R,.string C,.string D,S,T],(BB t c d)]) rfl r ?_;refine Kr 9 55 (.agg #[.slice M sn N,P,R,.string C,.string D,S,T]) rfl r ?_ ?_
   . intro A w' e;obtain⟨X,Y,Z⟩:=e.at (t:=46) (V:=(.tuple #[.agg #[.slice M sn N,P,R,.string C,.string D,S,T],(BB t c d)])) rfl;go_simp
   refine Kr 10 56 (.int .i64 (BB t c d)) rfl r ?_ ?_
   . intro A w' e;obtain⟨X,Y,Z⟩:=e.at (t:=46) (V:=(.tuple #[.agg #[.slice M sn N,P,R,.string C,.string D,S,T],(BB t c d)])) rfl;go_simp
   have QB:=I (Ac G.1 A8.1);have n9:=B;refine Ub 12 rfl r (λA e K hK=>?_);obtain⟨X,Y,Z⟩:=e.at (t:=13) (V:=(.pointer (some ⟨xb,0,none⟩))) rfl;obtain⟨d4,d5,d6⟩:=e.at (t:=55) (V:=(.agg #[.slice M sn N,P,R,.string C,.string D,S,T])) rfl;have l:=QB.1;have s0:=zm (j:=0) l rfl;have s1:=zm (j:=1) l rfl;have s2:=zm (j:=2) l rfl;have s3:=zm (j:=3) l rfl;have s4:=zm (j:=4) l rfl;have s5:=zm (j:=5) l rfl;have s6:=zm (j:=6) l rfl;have y0:=zQ (j:=0) l;have y1:=zQ (j:=1) l;have y2:=zQ (j:=2) l;have y3:=zQ (j:=3) l;have y4:=zQ (j:=4) l;have y5:=zQ (j:=5) l;have y6:=zQ (j:=6) l;have sl:=Ag l;have QW:=I (Pr [.slice M sn N,.int .i64 P,.int .i64 R,.string C,.string D,.int .i64 S,.int .i64 T] [] [.slice none 0 0,.int .i64 0,.int .i64 0,.string ⟨#[]⟩,.string ⟨#[]⟩,.int .i64 0,.int .i64 0] _ rfl l);have HR:=I (Tt g0.1 [.slice M sn N,.int .i64 P,.int .i64 R,.string C,.string D,.int .i64 S,.int .i64 T] 0 _ n9.1);have AG:=I (λh0=>And.intro (a0.1 h0).1 (And.intro (a0.1 h0).2.1 (zBV ((a0.1 h0).2.2) (Ma ((a0.1 h0).2.2) QB.1 (by decide)) [.slice M sn N,.int .i64 P,.int .i64 R,.string C,.string D,.int .i64 S,.int .i64 T] 0)));clear l;simp only[stN,Nat.zero_add,Nat.reduceAdd,List.length_nil]at QW HR AG;go_simp;refine hK.1 _ (λ_ _=>HR.1) ?_;clear hK X Y Z d4 d5 d6 e A K s0 s1 s2 s3 s4 s5 s6 y0 y1 y2 y3 y4 y5 y6 sl;refine De 13 14 (.int .i64 (BB t c d)) rfl r ?_;refine Wn ?_;exact⟨xb,_,M,sn,N,P,R,C,D,S,T,rfl,congrArg (λz:Act=>z.put (some 14) (.int .i64 (BB t c d))) (zCg _ [_,_,_,_] rfl),QW.1,AG.1,n8.1,(by rw[c0.1];exact HR.1)⟩
 rintro a' w3 ⟨xb,V,M,sn,N,P,R,C,D,S,T,rfl,rfl,QB,b0,hx,B3⟩;rw[hA0];simp only[Dj,Act.put,O];rw[c0.1]at B3;have b3:=I (Ab h8.1 B3);have o0:=I (Ac B3 m5.1);have u1:=I (Ac B3 h6.1);have u2:=I (Ac B3 h7.1);have u3:=I (Ac B3 l9.1);have u4:=I (BR.1.agr (jR.of B3));have j2:=I B3;have QX:=I QB;have a0:=I b0;have A9:=I hx;have u5:=I (zCt l6.1 d);clear B3 m5 h6 h7 l9 BR QB b0 hx hA0 r;have o1:=I (show lgE t c L k=if FW t c d≠0 then FW t c d else if legB (OL t c d) (Hx L k)=false then 2 else if 0<k/\CD d (Hx L (k-1)).duty<=0 then 8 else 0 by rw[HD.1];rfl);rw[u5.1]at a0;rw[u5.1];by_cases e0:FW t c d=0
 rotate_left
 . have i0:=I (show FW t c d=Sb t c (qT t c base L) by
    have q:=o1.1;rw[if_pos e0]at q;rw[HE.1,b1.1,Mc b8 (by rw[q];exact e0),q])
   have l4:=I e0;have e1:(FW t c d !=0)=true:=by simpa using e0
   clear e0 a0;have l:=o0.1;have s0:=zm (j:=0) l rfl;have s1:=zm (j:=1) l rfl;have s2:=zm (j:=2) l rfl;have s3:=zm (j:=3) l rfl;have s4:=zm (j:=4) l rfl;have y0:=zQ (j:=0) l;have y1:=zQ (j:=1) l;have y2:=zQ (j:=2) l;have y3:=zQ (j:=3) l;have y4:=zQ (j:=4) l;have sl:=Ag l;have QW:=I (Pr [.string ⟨#[]⟩,.slice none 0 0,.slice none 0 0,.slice none 0 0,.slice none 0 0] [] [.string ⟨#[]⟩,.slice none 0 0,.slice none 0 0,.slice none 0 0,.slice none 0 0] _ rfl l);have HR:=I (Tt (show w.heap.size<=nb from f7.1) [.string ⟨#[]⟩,.slice none 0 0,.slice none 0 0,.slice none 0 0,.slice none 0 0] 0 _ b3.1);clear l;simp only[stN,Nat.zero_add,Nat.reduceAdd,List.length_nil]at QW HR;go_wp2_with fail;refine bodyPost_ret (zA4 rfl rfl rfl QW.1) rfl ⟨_,_,rfl,i0.1,(λh=>absurd h l4.1),(λ_=>rfl),HR.1⟩
 obtain⟨d0,B0,i1⟩:=a0.1 e0;subst B0;have j9:(⟨d,P,R,C,D,S,T⟩:Sd)=OL t c d:=by
  have k0:=d0.1;obtain⟨_,_,g1,g2,g3,g4,g5,g6⟩:=d0;rw[g1,g2,g3,g4,g5,g6,IQ k0,show Xc t c d=Nw c (Bo t c d) from if_pos k0];rfl
 have i2:=I j9;have i3:=I (show lgE t c L k=if legB (OL t c d) (Hx L k)=false then 2 else if 0<k/\CD d (Hx L (k-1)).duty<=0 then 8 else 0 by rw[o1.1,if_neg (not_not_intro e0)]);have u6:=I i1;obtain⟨D2,D3,j3,-,u7⟩:=(i1).at (zAP (T1.1));cases j3;have TY:=I u7;rw[e0];clear a0 o1 e0 d0 i1 j9 u7;obtain⟨ea,ec,z0,z1,z2,z3,z4,z5,z6,d1,b2⟩:=(HC.1 k b8).below hg j2.1;rw[<-HD.1]at z0 d1 b2;have T2:=I b2;clear b2;have E:=As hg j2.1.size;have l:=QX.1;have s0:=zm (j:=0) l rfl;have s1:=zm (j:=1) l rfl;have s2:=zm (j:=2) l rfl;have s3:=zm (j:=3) l rfl;have s4:=zm (j:=4) l rfl;have s5:=zm (j:=5) l rfl;have s6:=zm (j:=6) l rfl;have y0:=zQ (j:=0) l;have y1:=zQ (j:=1) l;have y2:=zQ (j:=2) l;have y3:=zQ (j:=3) l;have y4:=zQ (j:=4) l;have y5:=zQ (j:=5) l;have y6:=zQ (j:=6) l;have sl:=Ag l;clear y0 y1 y2 y3 y4 y5 y6;have r0:=rQa l;have r1:=cell_regrown z0;have r2:=cell_regrown z1;have r3:=cell_regrown z2;have r4:=cell_regrown z3;have r5:=cell_regrown z4;have r6:=cell_regrown z5;have r7:=cell_regrown z6;have s8:∀d os,xb<(grow (redrawn w3 d) os).heap.size:=λd os=>As sl (below_regrown w3 d os).size
 have s9:∀d os,g<(grow (redrawn w3 d) os).heap.size:=λd os=>As E (below_regrown w3 d os).size
 have CL:=I (λ(q:Nat) (os:Array Obj)=>Fa (zB2 P R C D S T (Hx L k) HD.1.symm _ (congrArg (λz=>legB z (Hx L k)) i2.1) M N ea ec (grow (redrawn w3 q) os) b9 (TY.1.below (below_regrown w3 q os)) (T2.1.below (below_regrown w3 q os))));clear z0 z1 z2 z3 z4 z5 z6 s0 s1 s2 s3 s4 s5 s6 l;go_wp2_with fail;refine wp_region_quiet_below (by kernel_rfl) (by kernel_rfl) ?_;repeat (first|go_big_quiet_step (first|exact CL.1 _ _)|quiet_step (first|exact CL.1 _ _))
 refine wpQuiet_nil ?_;intro F m8;obtain⟨⟨dq,os⟩,rfl⟩:=m8;have B4:=below_regrown w3 dq os;have B:=I (Ab b3.1 B4);have i4:=I (Ab j2.1 B4);have u8:=I (Ac B4 o0.1);have B6:=I (Ac B4 u1.1);have B7:=I (Ac B4 u2.1);have B8:=I (Ac B4 u3.1);have u9:=I (Ac B4 QX.1);have C0:=I (u4.1.agr (jR.of B4));have k1:=I (Hj.call u6.1 B4);clear r0 r1 r2 r3 r4 r5 r6 r7 s8 s9 CL B4 sl E b3 j2 o0 u1 u2 u3 QX u4 u6 TY T2;generalize grow (redrawn w3 dq) os=F at*;cases hz:legB (OL t c d) (Hx L k)
 . have i0:=I (show(2:Int)=Sb t c (qT t c base L) by
    have q:=i3.1;rw[if_pos hz]at q;rw[HE.1,b1.1,Mc b8 (by rw[q];decide),q])
   clear hz;have l:=u8.1;have s0:=zm (j:=0) l rfl;have s1:=zm (j:=1) l rfl;have s2:=zm (j:=2) l rfl;have s3:=zm (j:=3) l rfl;have s4:=zm (j:=4) l rfl;have y0:=zQ (j:=0) l;have y1:=zQ (j:=1) l;have y2:=zQ (j:=2) l;have y3:=zQ (j:=3) l;have y4:=zQ (j:=4) l;have sl:=Ag l;have QW:=I (Pr [.string ⟨#[]⟩,.slice none 0 0,.slice none 0 0,.slice none 0 0,.slice none 0 0] [] [.string ⟨#[]⟩,.slice none 0 0,.slice none 0 0,.slice none 0 0,.slice none 0 0] _ rfl l);have HR:=I (Tt (show w.heap.size<=nb from f7.1) [.string ⟨#[]⟩,.slice none 0 0,.slice none 0 0,.slice none 0 0,.slice none 0 0] 0 _ B.1);clear l;simp only[stN,Nat.zero_add,Nat.reduceAdd,List.length_nil]at QW HR;go_wp2_with fail;refine bodyPost_ret (zA4 rfl rfl rfl QW.1) rfl ⟨_,_,rfl,i0.1,(λh=>absurd h (by decide)),(λ_=>rfl),HR.1⟩
 have j4:=I (zBO.1 hz);have i5:=I (show lgE t c L k=if 0<k/\CD d (Hx L (k-1)).duty<=0 then 8 else 0 by rw[i3.1,if_neg (by rw[hz];decide)]);clear hz i3;have S4:=I (ST.1.add i4.1 (b:=xb) (by have:=c0.1;have:=A9.1;omega) u9.1)
 have g0:=I (show LgC W.heap.size F (Hx L k) [.slice M d.length N,.int .i64 P,.int .i64 R,.string C,.string D,.int .i64 S,.int .i64 T] by
  rw[<-i2.1.trans j4.1];exact⟨M,N,rfl,b9,zAP T1.1,k1.1.base (by have:=c0.1;have:=q5.1;omega)⟩)
 clear B u8 B6 B7 B8 u9 C0 k1 ST;go_upto_region 17 with fail
 go_cut [85] (λcv wx=>∃z:Bool,cv=.bool z/\Af (z=true ↔ 0<k/\CD d (Hx L (k-1)).duty<=0)/\Af (Bw F wx))
 case first=>
  by_cases j5:k=0
  . have D4:decide (0<k)=false:=by simp[j5]
    have HZ:=I (show false=true ↔ 0<k/\CD d (Hx L (k-1)).duty<=0 by simp[j5]);clear j5;go_wp2;go_quiet (fail)
    go_wp2;go_meet
    case rel=>exact⟨false,rfl,HZ,I (dr _ _)⟩
  obtain⟨m,rfl⟩:∃m,k=m+1:=⟨k-1,by omega⟩;obtain⟨n4,C1,z0,-,-,-,-,-,-,d1,b2⟩:=(HC.1 m (by omega)).below hg i4.1;obtain⟨ea,ec,z1,-,-,-,-,-,-,v0,o2⟩:=(HC.1 (m+1) b8).below hg i4.1;obtain⟨d2,o3⟩:∃d2,d2=(Hx L m).duty:=⟨_,rfl⟩;rw[<-o3]at z0 d1 b2;rw[<-HD.1]at z1 v0 o2;have C2:=I o3;have T2:=I b2;have T3:=I o2;have C3:=As hg i4.1.size;have hm:(m:Int)<(L.length:Int):=by omega
  clear o3 b2 o2 j5;have r0:=cell_regrown z0;have C4:=cell_regrown z1;have s1:∀d os,g<(grow (redrawn F d) os).heap.size:=λd os=>As C3 (below_regrown F d os).size
  have CL:=I (λ(q:Nat) (os:Array Obj)=>Fa (zAd d2 d n4 ea C1 ec (grow (redrawn F q) os) d1 v0 (T2.1.below (below_regrown F q os)) (T3.1.below (below_regrown F q os))));go_wp2_with fail;refine wp_region_quiet_below (by kernel_rfl) (by kernel_rfl) ?_;repeat (first|go_big_quiet_step (first|exact CL.1 _ _)|quiet_step (first|exact CL.1 _ _))
  refine wpQuiet_nil ?_;intro w5 h9;obtain⟨⟨dq,os⟩,rfl⟩:=h9;have B5:=I (below_regrown F dq os)
  have HZ:=I (show decide (0<=CD d2 d)=true ↔ 0<m+1/\CD d (Hx L (m+1-1)).duty<=0 by
   have h:=zAG d2 d;rw[show m+1-1=m from rfl,<-C2.1];simp only[decide_eq_true_eq];omega)
  clear r0 C4 s1 CL z0 z1 T2 T3;generalize grow (redrawn F dq) os=w5 at*;go_wp2;go_meet
  case rel=>exact⟨_,rfl,HZ,B5⟩
 obtain⟨z,rfl,HZ,G⟩:=hcut;obtain⟨w5,h9⟩:∃v:World,v=wc:=⟨_,rfl⟩;subst h9;have S5:=I (S4.1.call G.1);have k3:=I (g0.1.agr (jR.of G.1));clear S4 g0 G i4;cases z;rotate_left
 . have i0:=I (show(8:Int)=Sb t c (qT t c base L) by
    have q:=i5.1;rw[if_pos (HZ.1.1 rfl)]at q;rw[HE.1,b1.1,Mc b8 (by rw[q];decide),q])
   have l:=(S5.1.at 1 rfl);have s0:=zm (j:=0) l rfl;have s1:=zm (j:=1) l rfl;have s2:=zm (j:=2) l rfl;have s3:=zm (j:=3) l rfl;have s4:=zm (j:=4) l rfl;have y0:=zQ (j:=0) l;have y1:=zQ (j:=1) l;have y2:=zQ (j:=2) l;have y3:=zQ (j:=3) l;have y4:=zQ (j:=4) l;have sl:=Ag l;have QW:=I (Pr [.string ⟨#[]⟩,.slice none 0 0,.slice none 0 0,.slice none 0 0,.slice none 0 0] [] [.string ⟨#[]⟩,.slice none 0 0,.slice none 0 0,.slice none 0 0,.slice none 0 0] _ rfl l);have HR:=I (Tt (show w.heap.size<=nb from f7.1) [.string ⟨#[]⟩,.slice none 0 0,.slice none 0 0,.slice none 0 0,.slice none 0 0] 0 _ S5.1.bel);clear l;simp only[stN,Nat.zero_add,Nat.reduceAdd,List.length_nil]at QW HR;go_wp2_with fail;refine bodyPost_ret (zA4 rfl rfl rfl QW.1) rfl ⟨_,_,rfl,i0.1,(λh=>absurd h (by decide)),(λ_=>rfl),HR.1⟩
 have j6:=I (show lgE t c L k=0 by rw[i5.1,if_neg (λh=>by simpa using HZ.1.2 h)]);have v3:=I (show C=(Hx L k).src from congrArg Sd.src (i2.1.trans j4.1));have v4:=I (show D=(Hx L k).dst from congrArg Sd.dst (i2.1.trans j4.1));have o4:=I (show(L.take k).length=k by rw[List.length_take];omega);obtain⟨LL,l1,l2,l3⟩:=S5.1.br.lg;have v7:=I l1;have o5:=I l2;have v8:=I l3;have o6:=l2;rw[o4.1]at o6;have c4:=S5.1.at 0 rfl;have o7:=S5.1.qm;have r0:=zm (j:=0) c4 rfl;have r1:=zm (j:=1) c4 rfl;have r2:=zm (j:=2) c4 rfl;have r3:=zm (j:=3) c4 rfl;have r4:=zm (j:=4) c4 rfl;have r5:=zm (j:=5) c4 rfl;have r6:=zm (j:=6) c4 rfl;have m1:=zm (j:=1) o7 rfl;have ml:=Ag o7;have rl:=Ag c4;have a9:=S5.1.sz;have C5:=zzX (λj=>(Hx L j).src.toList==base.toList) k;have j3:=zzX (λj=>(Hx L j).dst.toList==base.toList) k;rw[<-HQ.1.1]at C5;rw[<-HQ.1.2]at j3;clear l1 l2 l3 c4 o7 HZ i5 i2 j4;go_upto_region 20 with(at_builtin;refine Zw Xh a9 o6 [.slice M d.length N,.int .i64 P,.int .i64 R,.string C,.string D,.int .i64 S,.int .i64 T] rfl rfl rfl rfl rfl (by simp[Value.oneCell']) (by omega) ?_;intro g6 c6 w6 hO hG hA;have j7:=S5.1.staym o5.1 hG;have q1:=zm (j:=1) j7 rfl;have C6:=zQ (j:=1) j7;have sl:=Ag j7;have S6:=I (S5.1.legK o4.1 (zCO b8) v7.1 o5.1 v8.1 hG k3.1 hO hA);clear hO hG hA j7)
 clear m1 ml rl a9 r0 r1 r2 r3 r4 r5 r6 q1 C6 sl o6 S5 k3 v7 o5 v8 o4;generalize w6.setCell ⟨mb,1,none⟩ (.slice (some ⟨g6,0,none⟩) (k+1) c6)=w7 at*;have r3:=zm (j:=3) (S6.1.at 0 rfl) rfl;have rl:=Ag (S6.1.at 0 rfl);go_upto_if 96 with(fail)
 go_cut [] (λwx=>∃(U1:Nat->Value) (Q1:Nat->List Int),Af (TI w W.heap.size mb base [(xb,Obj.cells #[.slice M d.length N,P,R,.string C,.string D,S,T] 50),(nb,jC),(tb,Ap t za zc aa ac fa fc),(cb,Aj c p)] (.slice (some ⟨g6,0,none⟩) (k+1) c6) (.slice none 0 0) U1 (L.take (k+1)) [] Q1 wx)/\Af (Q1 0=jQ (λj=>(Hx L j).src.toList==base.toList) (k+1))/\Af (Q1 1=Q 1))
 case first=>
  cases hs:(C.toList==base.toList)
  . have HP:=I (show Q 0=jQ (λj=>(Hx L j).src.toList==base.toList) (k+1) by rw[zCp (by rw[<-v3.1];exact hs)];exact HQ.1.1);clear hs;go_wp2;go_meet
    case rel=>exact⟨U,Q,S6,HP,I rfl⟩
  have HP:=I (show Q 0++ [(k:Int)]=jQ (λj=>(Hx L j).src.toList==base.toList) (k+1) by rw[zBX (by rw[<-v3.1];exact hs),HQ.1.1]);have m3:=zm (j:=3) S6.1.qm rfl;have ml:=Ag S6.1.qm;have a9:=S6.1.sz;have ow:=S6.1.br.iv.own 0;clear hs;go_wp2_with (at_builtin;refine Zw cF a9 ow [.int .i64 (k:Nat)] rfl rfl rfl rfl rfl (by simp[Value.oneCell']) (by omega) ?_;intro g8 c8 w8 hO hG hA;have H:=S6.1.staym (S6.1.br.iv.own 0) hG;have q3:=zm (j:=3) H rfl;have t8:=zQ (j:=3) H;have sl:=Ag H;have S8:=I (S6.1.int (i:=0) (by decide) hG hO hA);clear hO hG hA H)
  go_meet
  case rel=>exact⟨_,_,S8,I (show SX Q 0 (Q 0++ [(k:Int)]) 0=_ from HP.1),I rfl⟩
 obtain⟨U1,Q1,S7,v9,o8⟩:=hcut;obtain⟨w8,C7⟩:∃v:World,v=wc:=⟨_,rfl⟩;subst C7;rw[<-o8.1]at j3;clear S6 r3 rl;have r4:=zm (j:=4) (S7.1.at 0 rfl) rfl;have rl:=Ag (S7.1.at 0 rfl);go_upto_if 106 with(fail)
 cases hs:(D.toList==base.toList)
 . have HP:=I (show Q1 1=jQ (λj=>(Hx L j).dst.toList==base.toList) (k+1) by rw[zCp (by rw[<-v4.1];exact hs),o8.1];exact HQ.1.2);clear hs;go_wp2;go_roundw
   case rel=>exact⟨k+1,_,U1,Q1,by omega,by go_num,I (b1.1.trans (Ns b8 j6.1)),I (λi hi=>if e:i=k then(by rw[e];exact j6.1) else d9.1 i (by omega)),I ⟨v9.1,HP.1⟩,I (S7.1.drop rfl)⟩
   case measure=>simp[intOf];omega
 have HP:=I (show Q1 1++ [(k:Int)]=jQ (λj=>(Hx L j).dst.toList==base.toList) (k+1) by rw[zBX (by rw[<-v4.1];exact hs),o8.1,HQ.1.2]);have m4:=zm (j:=4) S7.1.qm rfl;have ml:=Ag S7.1.qm;have a9:=S7.1.sz;have ow:=S7.1.br.iv.own 1;clear hs;go_wp2_with (at_builtin;refine Zw cF a9 ow [.int .i64 (k:Nat)] rfl rfl rfl rfl rfl (by simp[Value.oneCell']) (by omega) ?_;intro g9 c9 w9 hO hG hA;have H:=S7.1.staym (S7.1.br.iv.own 1) hG;have q3:=zm (j:=4) H rfl;have t8:=zQ (j:=4) H;have sl:=Ag H;have S9:=I (S7.1.int (i:=1) (by decide) hG hO hA);clear hO hG hA H)
 go_roundw
 case rel=>exact⟨k+1,_,BW U1 1 (.slice (some ⟨g9,0,none⟩) ((Q1 1).length+1) c9),SX Q1 1 (Q1 1++ [(k:Int)]),by omega,by go_num,I (b1.1.trans (Ns b8 j6.1)),I (λi hi=>if e:i=k then(by rw[e];exact j6.1) else d9.1 i (by omega)),I ⟨v9.1,(show SX Q1 1 (Q1 1++ [(k:Int)]) 1=_ from HP.1)⟩,I (S9.1.drop rfl)⟩
 case measure=>simp[intOf];omega
end Go.Proofs.YtelojoopofolpaaGreat
