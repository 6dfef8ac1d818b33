/- a part of the proof -/
import Derived.Test.YtelojoopofolpaaGreatM1
import Derived.Test.YtelojoopofolpaaGreatK6
set_option linter.all false
set_option maxRecDepth 100000
set_option maxHeartbeats 3000000
namespace Go.Proofs.YtelojoopofolpaaGreat
open Go.RowKit Go.Sort Go.Proofs.Tryz
variable {e:Func}{a:Array Value}{W w w':Wd}{b c i k lo m o:Nat}{v0 v1 v2 v3 v4 y:Value}{f:Nat×Nat}{base s:BA}{M:List (Value×Value)}{P:Program}{q:LI}{U:Nat->Value}{Q:Nat->LI}
theorem resN(g:e.results=#[.cell 6 65,.tmp 7])(h:a.getD 6 undef=hZ b 0)(i:a.getD 7 undef=y) 
 (q:W.heap[b]?=some (.cells #[v0,v1,v2,v3,v4] 65 f)):(results e a).run prog W=.ok (.tuple #[.agg #[v0,v1,v2,v3,v4],y]) W:=by
 have c:a[6]?.getD undef=hZ b 0:=by simpa using h
 have d:a[7]?.getD undef=y:=by simpa using i
 simp[results,g,go_sem,c,d,zm (j:=0) q rfl,zm (j:=1) q rfl,zm (j:=2) q rfl,zm (j:=3) q rfl,zm (j:=4) q rfl]
def NetV(lo:Nat)(base:BA)(L:List Sd)(K:List DW)(S E:LI)(w:Wd)(v:Value):Prop:=∃(a1 a3 a5 a7:Ae) (a2 a4 a6 a8:Nat),v=.agg #[.string base,.slice a1 L.length a2,.slice a3 K.length a4,.slice a5 S.length a6,.slice a7 E.length a8]/\FrK lo (λw=>zzU w a1 L) w/\FrK lo (λw=>zz2 w a3 K) w/\FrK lo (λw=>zW w a5 S) w/\FrK lo (λw=>zW w a7 E) w
def PX(base:BA)(L:List Sd):LI:=jQ (λk=>(Hx L k).src.toList==base.toList) L.length
def TE(base:BA)(L:List Sd):LI:=jQ (λk=>(Hx L k).dst.toList==base.toList) L.length
def zeroN:Value:=.agg #[.string ⟨#[]⟩,.slice none 0 0,.slice none 0 0,.slice none 0 0,.slice none 0 0]
def NetR(t:At)(c:Ad)(base:BA)(L:List Sd)(er:Int)(w:Wd)(e:Ending)(w':Wd):Prop:=∃(v:Value) (z:Int),e=.returned (.tuple #[v,z])/\z=er/\(z=0->NetV w.heap.size base L (qP t c base L L.length) (PX base L) (TE base L) w' v)/\(z≠0->v=zeroN)/\Below w.heap.size w w'
def NetS(t:At)(c:Ad):Prop:=∀(w:Wd) (sb:Nat) (P:Dh),Hl w sb t c P->P.nights=qE c->∀(base:BA) (L:List Sd) (a:Ae) (ca:Nat),L.length<=60->zzU w a L->(∀i,i<L.length->zA2 t c (Hx L i))->Mo t base=true->Calls prog 137 #[.pointer (some (aD sb 0)),.string base,.slice a L.length ca] w (NetR t c base L 0 w)
theorem zBF(t:At)(c:Ad)(U:NetS t c)(w:Wd)(sb:Nat)(P:Dh)(hS:Hl w sb t c P)(c5:P.nights=qE c)(base:BA)(L:List Sd)(a:Ae)(ca:Nat)(hL:L.length<=60)(hA:zzU w a L):Calls prog 75 #[.pointer (some (aD sb 0)),.string base,.slice a L.length ca] w (NetR t c base L (qT t c base L) w):=by
 have HS:=I hS;have HA:=I hA;have HN:=I U;have d7:=I c5;clear hS hA U c5;go_enter func75,ntmps75
 go_wp2_with fail;have hB:=J w jC;have hQ:=zh w jC;obtain⟨V,M⟩:∃V,V=w.heap.size:=⟨_,rfl⟩;rw[<-M]at hQ;simp only[<-M];have A:=I M;have HB:=I (show Bw w (w.alloc jC) from hB);have QN:=I hQ;clear hB M hQ;generalize w.alloc jC=W0 at*;refine(zut W0 sb t c P (HS.1.below HB.1) base).mono ?_;rintro e w1 ⟨rfl,W⟩;have c6:=jS HB W;have c7:=jT QN W;clear W HB QN;cases hb:Mo t base
 . have HE:=I (show(6:Int)=qT t c base L from(iP hb).symm);clear hb;have b:=c7.1;have s0:=zm (j:=0) b rfl;have s1:=zm (j:=1) b rfl;have s2:=zm (j:=2) b rfl;have s3:=zm (j:=3) b rfl;have s4:=zm (j:=4) b rfl;have y0:=zQ (j:=0) b;have H:=zQ (j:=1) b;have K:=zQ (j:=2) b;have y3:=zQ (j:=3) b;have y4:=zQ (j:=4) b;have sl:=Ag b;have l:=I (Pr [.string ⟨#[]⟩,.slice none 0 0,.slice none 0 0,.slice none 0 0,.slice none 0 0] [] [.string ⟨#[]⟩,.slice none 0 0,.slice none 0 0,.slice none 0 0,.slice none 0 0] _ rfl b);have n:=I (Tt (show w.heap.size<=V by have:=A.1;omega) [.string ⟨#[]⟩,.slice none 0 0,.slice none 0 0,.slice none 0 0,.slice none 0 0] 0 _ c6.1);clear b;simp only[stN,Nat.zero_add,Nat.reduceAdd,List.length_nil]at l n;go_wp2_with fail;refine bP (resN rfl rfl rfl l.1) rfl ⟨_,_,rfl,HE.1,(λh=>aB h (by decide)),(λ_=>rfl),n.1⟩
 have HE:=I (show qT t c base L=Av (lgE t c L) 0 (L.length-0) from iN (by rw[hb];decide));have d8:=I hb;clear hb;have d9:¬ (2000:Int)<(L.length:Int):=by omega
 go_wp2_with fail;go_loopw [23] (λi wr=>∃k:Nat,k<=L.length/\i=.int .i64 k/\Af (Av (lgE t c L) 0 (L.length-0)=Av (lgE t c L) k (L.length-k))/\Af (∀i,i<k->lgE t c L i=0)/\Af (wr.heap[V]?=some jC)/\Af (Bw w wr)) (λi _=>L.length-(intOf i).toNat)
 case atStart=>exact⟨0,Bg _,rfl,I rfl,I (λi h=>aB h (Nat.not_lt_zero i)),c7,c6⟩
 obtain⟨k,hk,rfl,f,p,QR,u⟩:=hrel;by_cases y:k<L.length
 rotate_left
 . obtain rfl:k=L.length:=by omega
   have f0:=I ((HE.1.trans f.1).trans (Nq (lgE t c L) L.length));have CN:=I (HN.1 wr sb P (HS.1.below u.1) d7.1 base L a ca hL (HA.1.below u.1) (λi hi=>zBh (p.1 i hi)) d8.1);clear f p;go_wp2_with fail;refine CN.1.mono ?_;rintro e B ⟨v,z,rfl,rfl,N,-,X⟩;obtain⟨a1,a3,a5,a7,a2,a4,a6,a8,rfl,N1,N2,N3,N4⟩:=N rfl;have b:=Ac X QR.1;have f1:=Ag QR.1;have s0:=zm (j:=0) b rfl;have s1:=zm (j:=1) b rfl;have s2:=zm (j:=2) b rfl;have s3:=zm (j:=3) b rfl;have s4:=zm (j:=4) b rfl;have y0:=zQ (j:=0) b;have H:=zQ (j:=1) b;have K:=zQ (j:=2) b;have y3:=zQ (j:=3) b;have y4:=zQ (j:=4) b;have sl:=Ag b;have l:=I (Pr [.string base,.slice a1 L.length a2,.slice a3 (qP t c base L L.length).length a4,.slice a5 (PX base L).length a6,.slice a7 (TE base L).length a8] [] [.string ⟨#[]⟩,.slice none 0 0,.slice none 0 0,.slice none 0 0,.slice none 0 0] _ rfl b);have n:=I (Tt (show w.heap.size<=V by have:=A.1;omega) [.string base,.slice a1 L.length a2,.slice a3 (qP t c base L L.length).length a4,.slice a5 (PX base L).length a6,.slice a7 (TE base L).length a8] 0 _ (Ab u.1 X));clear b;simp only[stN,Nat.zero_add,Nat.reduceAdd,List.length_nil]at l n;have AG:=jR.stN (lo:=wr.heap.size) f1 [.string base,.slice a1 L.length a2,.slice a3 (qP t c base L L.length).length a4,.slice a5 (PX base L).length a6,.slice a7 (TE base L).length a8] 0 B;simp only[stN,Nat.zero_add,Nat.reduceAdd]at AG;have Q:=u.1.size;go_wp2_with fail;refine bP (resN rfl rfl rfl l.1) rfl ⟨_,_,rfl,f0.1.symm,λ_=>⟨a1,a3,a5,a7,a2,a4,a6,a8,rfl,(N1.to AG).le Q,(N2.to AG).le Q,(N3.to AG).le Q,(N4.to AG).le Q⟩,(λh=>aB rfl h),n.1⟩
 obtain⟨g,o,rfl,hg,hc⟩:=(HA.1.below u.1).cells (by omega);obtain⟨da,dc,x0,x1,x2,x3,x4,x5,x6,C,a0⟩:=hc k y;obtain⟨x,hx⟩:∃x,x=Hx L k:=⟨_,rfl⟩;rw[<-hx]at x0 x1 x2 x3 x4 x5 x6 C a0;have HX:=I hx;have T1:=I a0;have HC:=I hc;clear hc hx a0;go_upto_region 8 with fail
 have W:=J wr (Obj.cells #[.slice da x.duty.length dc,x.rep,x.rel,.string x.src,.string x.dst,x.cost,x.cred] 50);have q1:=zh wr (Obj.cells #[.slice da x.duty.length dc,x.rep,x.rel,.string x.src,.string x.dst,x.cost,x.cred] 50);obtain⟨xb,a9⟩:∃xb,xb=wr.heap.size:=⟨_,rfl⟩;rw[<-a9]at q1;simp only[<-a9];clear a9 x0 x1 x2 x3 x4 x5 x6;generalize wr.alloc (Obj.cells #[.slice da x.duty.length dc,x.rep,x.rel,.string x.src,.string x.dst,x.cost,x.cred] 50)=W1 at*;have b0:=jS u W;have b1:=I W;have c8:=jT QR W;have QX:=I q1;clear W q1;have c0:=D_ QX.1;have cl:=Ag QX.1;go_wp2_with fail;refine(zCB W1 sb t c P (HS.1.below b0.1) x.duty da dc C (T1.1.below b1.1)).mono ?_;rintro e w2 ⟨ga,gn,gc,H,K,r1,r2,y5,y6,rfl,N,B2⟩;have b2:=I N;clear N c0 cl;go_upto_region 9 with fail
 have B3:=Ab B2 (J w2 (Obj.cells #[.slice ga gn gc,H,K,.string r1,.string r2,y5,y6] 50));have q3:=zh w2 (Obj.cells #[.slice ga gn gc,H,K,.string r1,.string r2,y5,y6] 50);obtain⟨yb,b3⟩:∃yb,yb=w2.heap.size:=⟨_,rfl⟩;rw[<-b3]at q3;simp only[<-b3];clear b3;have B4:=J w2 (Obj.cells #[.slice ga gn gc,H,K,.string r1,.string r2,y5,y6] 50);generalize w2.alloc (Obj.cells #[.slice ga gn gc,H,K,.string r1,.string r2,y5,y6] 50)=W3 at*;have b4:=jS b0 B3;have b5:=jS b1 B3;have b6:=jT c8 B3;have b7:=jT QX B3;have QY:=I q3;have c9:=I B4;clear B2 B3 B4 q3 c8 QX b1 b0;have b8:=I (show lgE t c L k=if FW t c x.duty≠0 then FW t c x.duty else if legB (OL t c x.duty) x=false then 2 else if 0<k/\CD x.duty (Hx L (k-1)).duty<=0 then 8 else 0 by rw[HX.1];rfl);by_cases R:FW t c x.duty=0
 rotate_left
 . have D:=I (show FW t c x.duty=qT t c base L by
    have q:=b8.1;rw[iP R]at q;rw[HE.1,f.1,Mc y (by rw[q];exact R),q])
   have f2:=I R;have e1:(FW t c x.duty !=0)=true:=by simpa using R
   clear R b2;have b:=b6.1;have s0:=zm (j:=0) b rfl;have s1:=zm (j:=1) b rfl;have s2:=zm (j:=2) b rfl;have s3:=zm (j:=3) b rfl;have s4:=zm (j:=4) b rfl;have y0:=zQ (j:=0) b;have H:=zQ (j:=1) b;have K:=zQ (j:=2) b;have y3:=zQ (j:=3) b;have y4:=zQ (j:=4) b;have sl:=Ag b;have l:=I (Pr [.string ⟨#[]⟩,.slice none 0 0,.slice none 0 0,.slice none 0 0,.slice none 0 0] [] [.string ⟨#[]⟩,.slice none 0 0,.slice none 0 0,.slice none 0 0,.slice none 0 0] _ rfl b);have n:=I (Tt (show w.heap.size<=V by have:=A.1;omega) [.string ⟨#[]⟩,.slice none 0 0,.slice none 0 0,.slice none 0 0,.slice none 0 0] 0 _ b4.1);clear b;simp only[stN,Nat.zero_add,Nat.reduceAdd,List.length_nil]at l n;go_wp2_with fail;refine bP (resN rfl rfl rfl l.1) rfl ⟨_,_,rfl,D.1,(λh=>aB h f2.1),(λ_=>rfl),n.1⟩
 obtain⟨f3,Y,Z⟩:=b2.1 R;subst f3;have E:=I (show lgE t c L k=if legB (OL t c x.duty) x=false then 2 else if 0<k/\CD x.duty (Hx L (k-1)).duty<=0 then 8 else 0 by rw[b8.1,iN (by simpa using R)]);have d0:=I Y;obtain⟨f9,g0,f4,-,d1⟩:=(Hj.call Z c9.1).at (zAP T1.1);cases f4;have TY:=I d1;rw[R];clear b2 b8 R Y Z d1;have S:=b7.1;have T:=QY.1;have x0:=zm (j:=0) S rfl;have x1:=zm (j:=1) S rfl;have x2:=zm (j:=2) S rfl;have x3:=zm (j:=3) S rfl;have x4:=zm (j:=4) S rfl;have x5:=zm (j:=5) S rfl;have x6:=zm (j:=6) S rfl;have u0:=D_ T;have xl:=Ag S;have yl:=Ag T;clear S T;go_wp2_with fail;refine(zBM ⟨x.duty,H,K,r1,r2,y5,y6⟩ x ga gc da dc W3 C C TY.1 (T1.1.below b5.1)).mono ?_;rintro e B ⟨rfl,X⟩;rw[d0.1];have b9:=jS b4 X;have c1:=jS b5 X;have c2:=jT b6 X;have d2:=jT b7 X;clear X b6 b7 QY b4 b5 TY d0 c9 x0 x1 x2 x3 x4 x5 x6 u0 xl yl;cases hz:legB (OL t c x.duty) x
 . have D:=I (show(2:Int)=qT t c base L by
    have q:=E.1;rw[iP hz]at q;rw[HE.1,f.1,Mc y (by rw[q];decide),q])
   clear hz;have b:=c2.1;have s0:=zm (j:=0) b rfl;have s1:=zm (j:=1) b rfl;have s2:=zm (j:=2) b rfl;have s3:=zm (j:=3) b rfl;have s4:=zm (j:=4) b rfl;have y0:=zQ (j:=0) b;have H:=zQ (j:=1) b;have K:=zQ (j:=2) b;have y3:=zQ (j:=3) b;have y4:=zQ (j:=4) b;have sl:=Ag b;have l:=I (Pr [.string ⟨#[]⟩,.slice none 0 0,.slice none 0 0,.slice none 0 0,.slice none 0 0] [] [.string ⟨#[]⟩,.slice none 0 0,.slice none 0 0,.slice none 0 0,.slice none 0 0] _ rfl b);have n:=I (Tt (show w.heap.size<=V by have:=A.1;omega) [.string ⟨#[]⟩,.slice none 0 0,.slice none 0 0,.slice none 0 0,.slice none 0 0] 0 _ b9.1);clear b;simp only[stN,Nat.zero_add,Nat.reduceAdd,List.length_nil]at l n;go_wp2_with fail;refine bP (resN rfl rfl rfl l.1) rfl ⟨_,_,rfl,D.1,(λh=>aB h (by decide)),(λ_=>rfl),n.1⟩
 have F:=I (show lgE t c L k=if 0<k/\CD x.duty (Hx L (k-1)).duty<=0 then 8 else 0 by rw[E.1,iN (by rw[hz];decide)]);clear hz E;have p0:=zm (j:=0) d2.1 rfl;have pl:=Ag d2.1;by_cases c3:k=0
 . have hd:decide (0<k)=false:=by simp[c3]
   have G:=I (show lgE t c L k=0 by rw[F.1,iN (by omega)]);clear c3;go_wp2;go_quiet (fail)
   go_wp2;go_roundw
   case rel=>exact⟨k+1,by omega,by go_num,I (f.1.trans (Ns y G.1)),I (λi hi=>if e:i=k then(by rw[e];exact G.1) else p.1 i (by omega)),jT c2 (dr _ _),jS b9 (dr _ _)⟩
   case measure=>simp[intOf];omega
 obtain⟨m,rfl⟩:∃m,k=m+1:=⟨k-1,by omega⟩;obtain⟨ea,ec,z0,-,-,-,-,-,-,d3,c4⟩:=(HC.1 m (by omega)).below hg c1.1;obtain⟨d,hd⟩:∃d,d=(Hx L m).duty:=⟨_,rfl⟩;rw[<-hd]at z0 d3 c4;have HD:=I hd;have T2:=I c4;have f5:=As hg c1.1.size;have hm:(m:Int)<(L.length:Int):=by omega
 clear hd c4 c3;have r0:=cR p0;have f6:=cR z0;have s0:∀d r,xb<(grow (redrawn B d) r).heap.size:=λd r=>As pl (bR B d r).size
 have s1:∀d r,g<(grow (redrawn B d) r).heap.size:=λd r=>As f5 (bR B d r).size
 have CL:=I (λ(q:Nat) (r:Array Obj)=>Fa (zAy x.duty d da ea dc ec (grow (redrawn B q) r) C d3 (T1.1.below (Ab c1.1 (bR B q r))) (T2.1.below (bR B q r))));go_wp2_with fail;refine wQ (by kernel_rfl) (by kernel_rfl) ?_;repeat (first|go_big_quiet_step (first|exact CL.1 _ _)|quiet_step (first|exact CL.1 _ _))
 refine wpQuiet_nil ?_;intro w6 f7;obtain⟨⟨dq,r⟩,rfl⟩:=f7;have B6:=bR B dq r;have d4:=jS b9 B6;have d5:=jT c2 B6;clear r0 f6 s0 s1 CL p0 z0 pl B6;generalize grow (redrawn B dq) r=w7 at*;have s:=I (show lgE t c L (m+1)=if CD x.duty d<=0 then 8 else 0 by rw[F.1,HD.1];simp);clear F;by_cases d6:0<CD x.duty d
 . have G:=I (show lgE t c L (m+1)=0 by rw[s.1,iN (by omega)]);have f8:¬ CD x.duty d<=0:=by omega
   clear d6 s;go_wp2;go_roundw
   case rel=>exact⟨m+1+1,by omega,by go_num,I (f.1.trans (Ns y G.1)),I (λi hi=>if e:i=m+1 then(by rw[e];exact G.1) else p.1 i (by omega)),d5,d4⟩
   case measure=>simp[intOf];omega
 have D:=I (show(8:Int)=qT t c base L by
  have q:=s.1;rw[iP (by omega)]at q;rw[HE.1,f.1,Mc y (by rw[q];decide),q])
 have f8:CD x.duty d<=0:=by omega
 clear d6 s;have b:=d5.1;have s0:=zm (j:=0) b rfl;have s1:=zm (j:=1) b rfl;have s2:=zm (j:=2) b rfl;have s3:=zm (j:=3) b rfl;have s4:=zm (j:=4) b rfl;have y0:=zQ (j:=0) b;have H:=zQ (j:=1) b;have K:=zQ (j:=2) b;have y3:=zQ (j:=3) b;have y4:=zQ (j:=4) b;have sl:=Ag b;have l:=I (Pr [.string ⟨#[]⟩,.slice none 0 0,.slice none 0 0,.slice none 0 0,.slice none 0 0] [] [.string ⟨#[]⟩,.slice none 0 0,.slice none 0 0,.slice none 0 0,.slice none 0 0] _ rfl b);have n:=I (Tt (show w.heap.size<=V by have:=A.1;omega) [.string ⟨#[]⟩,.slice none 0 0,.slice none 0 0,.slice none 0 0,.slice none 0 0] 0 _ d4.1);clear b;simp only[stN,Nat.zero_add,Nat.reduceAdd,List.length_nil]at l n;go_wp2_with fail;refine bP (resN rfl rfl rfl l.1) rfl ⟨_,_,rfl,D.1,(λh=>aB h (by decide)),(λ_=>rfl),n.1⟩
theorem zAZ:EI 63 144 (.agg #[Bn 0,Bn 0,Bn 0]) 3 24:=⟨underlying63,by kernel_rfl,rfl,by decide⟩
theorem zBu{t:At}{c:Ad}{L:List Sd}(h:zAc t c base (Hx L i) (Hx L k)=false):zz1 t c base L i (k+1)=zz1 t c base L i k:=by rw[zz1,iN (by rw[h];decide),List.append_nil]
theorem zB5{t:At}{c:Ad}{L:List Sd}(h:zAc t c base (Hx L i) (Hx L k)=true):zz1 t c base L i (k+1)=zz1 t c base L i k++ [⟨i,k,zCm t c base (Hx L i) (Hx L k)⟩]:=by rw[zz1,iP h]
def PF(v0 v1 v2 v3 v4:Value):Obj:=Obj.cells #[v0,v1,v2,v3,v4] 65
structure TI(w:Wd)(lo mb:Nat)(base:BA)(keep:List (Nat×Obj))(lv kv:Value)(U:Nat->Value)(L:List Sd)(K:List DW)(Q:Nat->LI)(wx:Wd):Prop where
 bel:Below w.heap.size w wx
 wm:w.heap.size<=mb
 ml:mb<lo
 hk:∀p∈keep,p.1≠mb/\wx.heap[p.1]?=some p.2/\lv.ownBlock≠some p.1/\kv.ownBlock≠some p.1/\∀i,(U i).ownBlock≠some p.1
 qm:wx.heap[mb]?=some (PF (.string base) lv kv (U 0) (U 1))
 br:zAi lo wx lv kv U L K Q
 sz:lo<=wx.heap.size
section
variable {w wx wy:Wd} {lo mb:Nat} {base:BA} {keep:List (Nat×Obj)} {lv kv v:Value} {U:Nat→Value} {L:List Sd} {K:List DW} {Q:Nat→LI} {o:Obj} {b i:Nat} (S:TI w lo mb base keep lv kv U L K Q wx)
include S
theorem TI.at(i:Nat)(h:keep[i]?=some (b,o)):wx.heap[b]?=some o:=(S.hk _ (List.mem_of_getElem? h)).2.1
theorem TI.call(h:Bw wx wy):TI w lo mb base keep lv kv U L K Q wy where
 bel:=Ab S.bel h
 wm:=S.wm
 ml:=S.ml
 hk p hp:=by
  obtain⟨a,b,c⟩:=S.hk p hp;exact⟨a,Ac h b,c⟩
 qm:=Ac h S.qm
 br:=S.br.agr (jR.of h)
 sz:=Bf S.sz h.size
theorem TI.add(h:Bw wx wy)(f:wx.heap.size<=b)(c:wy.heap[b]?=some o):TI w lo mb base ((b,o)::keep) lv kv U L K Q wy where
 bel:=Ab S.bel h
 wm:=S.wm
 ml:=S.ml
 hk p a:=by
  rcases List.mem_cons.1 a with rfl|a
  . have:=Ag S.qm;refine⟨by show b≠mb;omega,c,λe=>?_,λe=>?_,λi e=>?_⟩
    . obtain⟨g,j,d,k⟩:=S.br.lg;have:=(d.lt b e).2;omega
    . have:=(S.br.lk.lt b e).2;omega
    have:=(S.br.iv.lt e).2;omega
  exact(S.call h).hk p a
 qm:=Ac h S.qm
 br:=S.br.agr (jR.of h)
 sz:=Bf S.sz h.size
theorem TI.drop{p:Nat×Obj}{l:List (Nat×Obj)}(e:keep=p::l):TI w lo mb base l lv kv U L K Q wx where
 bel:=S.bel
 wm:=S.wm
 ml:=S.ml
 hk q hq:=S.hk q (by rw[e];exact List.mem_cons_of_mem _ hq)
 qm:=S.qm
 br:=S.br
 sz:=S.sz
theorem TI.grow{e:TypeId}{s n:Nat}{xs:LV}(a:wx.ownsRow lo e s v n xs)(b:(wx.alloc o).grownBy wy v.ownBlock)(i:Nat)(u:Value):Bw w (wy.setCell (aD mb i) u):=by
 have c:=S.bel.size;have f:=S.ml;have d:=S.wm;exact((S.bel.alloc c o).grown b (by simp;omega) (λk hk=>by have:=(a.lt k hk).1;omega)).setCell (p:=aD mb i) d u
theorem TI.szs{r:Option Nat}(a:(wx.alloc o).grownBy wy r)(i:Nat)(u:Value):lo<=(wy.setCell (aD mb i) u).heap.size:=by
 have b:=a.size;have c:=S.sz;simp[World.setCell]at b ⊢;omega
theorem TI.stay{e:TypeId}{s n c:Nat}{xs:LV}{q:Obj}(f:wx.ownsRow lo e s v n xs)(b:(wx.alloc o).grownBy wy v.ownBlock)(a:wx.heap[c]?=some q)(d:v.ownBlock≠some c):wy.heap[c]?=some q:=
 (b.block c (by have:=Ag a;simp;omega) (λh=>d h.symm)).trans (Ac (J wx o) a)
theorem TI.staym{e:TypeId}{s n:Nat}{xs:LV}(a:wx.ownsRow lo e s v n xs)(b:(wx.alloc o).grownBy wy v.ownBlock):wy.heap[mb]?=some (PF (.string base) lv kv (U 0) (U 1)):=
 S.stay a b S.qm λh=>by have:=(a.lt mb h).1;have:=S.ml;omega
theorem TI.keeps{e:TypeId}{s n i:Nat}{xs:LV}{u:Value}(b:wx.ownsRow lo e s v n xs)(c:(wx.alloc o).grownBy wy v.ownBlock){p:Nat×Obj}(a:p∈keep)(d:v.ownBlock≠some p.1):(wy.setCell (aD mb i) u).heap[p.1]?=some p.2:=
 (Below.heap_setCell _ (aD mb i) _ _ (S.hk p a).1).trans (S.stay b c (S.hk p a).2.1 d)
theorem TI.lt{p:Nat×Obj}(b:p∈keep){e:Obj}{g:Nat}{v:Value}(c:v.ownBlock=some g\/g=wx.heap.size+1)(d:v.ownBlock≠some p.1):g≠p.1:=λh=>by
 have:=Ag (S.hk p b).2.1;rcases c with a|a
 . exact d (by rw[a,h])
 omega
theorem TI.leg{x:Sd}{f:LV}{a:List (LV)}{g c:Nat}(k:a.length=L.length)(d:wx.ownsRow lo 50 7 lv L.length a.flatten)(l:∀i (h:i<a.length),LgC lo wx (Hx L i) a[i])(b:(wx.alloc o).grownBy wy lv.ownBlock)(m:LgC lo wx x f) 
 (n:wy.ownsRow lo 50 7 (Hy g 0 (L.length+1) c) (L.length+1) (a.flatten++f)) (q:lv.ownBlock=some g\/g=wx.heap.size+1):TI w lo mb base keep (Hy g 0 (L.length+1) c) kv U (L++ [x]) K Q (wy.setCell (aD mb 1) (Hy g 0 (L.length+1) c)) where
 bel:=S.grow d b _ _
 wm:=S.wm
 ml:=S.ml
 hk p hp:=by
  obtain⟨r,u,j,s,t⟩:=S.hk p hp;exact⟨r,S.keeps d b hp j,λe=>S.lt (e:=o) hp q j (by simpa[Value.ownBlock] using e),s,t⟩
 qm:=(zg (S.staym d b)).trans rfl
 br:=(S.br.leg k d l b m n).agr (jR.set _ S.ml _ _)
 sz:=S.szs b _ _
theorem TI.legK{x:Sd}{b:LV}{a:List (LV)}{g c n:Nat}{d:List Sd}(e:L.length=n)(f:L++ [x]=d)(j:a.length=L.length)(k:wx.ownsRow lo 50 7 lv L.length a.flatten)(l:∀i (h:i<a.length),LgC lo wx (Hx L i) a[i])(m:(wx.alloc o).grownBy wy lv.ownBlock)(p:LgC lo wx x b) 
 (q:wy.ownsRow lo 50 7 (Hy g 0 (n+1) c) (n+1) (a.flatten++b)) (r:lv.ownBlock=some g\/g=wx.heap.size+1):TI w lo mb base keep (Hy g 0 (n+1) c) kv U d K Q (wy.setCell (aD mb 1) (Hy g 0 (n+1) c)):=by
 subst e f;exact S.leg j k l m p q r
theorem TI.int{i g c:Nat}{x:Int}(n:i<2)(a:(wx.alloc o).grownBy wy (U i).ownBlock)(f:wy.ownsRow lo 3 1 (Hy g 0 ((Q i).length+1) c) ((Q i).length+1) ((Q i).map (Value.int .i64)++ [Bn x]))(d:(U i).ownBlock=some g\/g=wx.heap.size+1):
 TI w lo mb base keep lv kv (BW U i (Hy g 0 ((Q i).length+1) c)) L K (SX Q i (Q i++ [x])) (wy.setCell (aD mb (3+i)) (Hy g 0 ((Q i).length+1) c)) where
 bel:=S.grow (S.br.iv.own i) a _ _
 wm:=S.wm
 ml:=S.ml
 hk p hp:=by
  obtain⟨k,q,l,m,b⟩:=S.hk p hp;refine⟨k,S.keeps (S.br.iv.own i) a hp (b i),l,m,λj e=>?_⟩;unfold BW at e
  by_cases h:j=i
  . rw[iP h]at e;exact S.lt (e:=o) hp d (b i) (by simpa[Value.ownBlock] using e)
  rw[iN h]at e;exact b j e
 qm:=by
  refine(zg (S.staym (S.br.iv.own i) a)).trans ?_;obtain rfl|rfl:i=0\/i=1:=by omega
  . rfl
  rfl
 br:=(S.br.int a f d).agr (jR.set _ S.ml _ _)
 sz:=S.szs a _ _
theorem TI.link{x:DW}{g c:Nat}(a:(wx.alloc o).grownBy wy kv.ownBlock)(d:wy.ownsRow lo 144 3 (Hy g 0 (K.length+1) c) (K.length+1) ((K.map QV).flatten++QV x))(f:kv.ownBlock=some g\/g=wx.heap.size+1):
 TI w lo mb base keep lv (Hy g 0 (K.length+1) c) U L (K++ [x]) Q (wy.setCell (aD mb 2) (Hy g 0 (K.length+1) c)) where
 bel:=S.grow S.br.lk a _ _
 wm:=S.wm
 ml:=S.ml
 hk p hp:=by
  obtain⟨h,k,i,b,j⟩:=S.hk p hp;exact⟨h,S.keeps S.br.lk a hp b,i,λe=>S.lt (e:=o) hp f b (by simpa[Value.ownBlock] using e),j⟩
 qm:=(zg (S.staym S.br.lk a)).trans rfl
 br:=(S.br.link a d).agr (jR.set _ S.ml _ _)
 sz:=S.szs a _ _
theorem TI.linkK{x:DW}{g c n:Nat}{a:List DW}(b:K.length=n)(d:K++ [x]=a)(e:(wx.alloc o).grownBy wy kv.ownBlock)(f:wy.ownsRow lo 144 3 (Hy g 0 (n+1) c) (n+1) ((K.map QV).flatten++QV x))(h:kv.ownBlock=some g\/g=wx.heap.size+1):
 TI w lo mb base keep lv (Hy g 0 (n+1) c) U L a Q (wy.setCell (aD mb 2) (Hy g 0 (n+1) c)):=by
 subst b d;exact S.link e f h
theorem TI.net:∃(a b c d:Ae) (e f g h:Nat),lv=.slice a L.length e/\kv=.slice b K.length f/\U 0=.slice c (Q 0).length g/\U 1=.slice d (Q 1).length h/\FrK lo (λw=>zzU w a L) wx/\FrK lo (λw=>zz2 w b K) wx/\FrK lo (λw=>zW w c (Q 0)) wx/\FrK lo (λw=>zW w d (Q 1)) wx:=by
 obtain⟨a,e,i,j⟩:=S.br.lg.fr;obtain⟨b,f,k,l⟩:=zBt S.br.lk;obtain⟨c,g,m,n⟩:=S.br.iv.form 0;obtain⟨d,h,o,p⟩:=S.br.iv.form 1;exact⟨a,b,c,d,e,f,g,h,i,k,m,o,j,l,n,p⟩
end
theorem TI.nil{b:Wd}{a:List (Nat×Obj)}(e:Bw w b)(f:w.heap.size<=c)(g:c<lo)(h:lo<=b.heap.size)(d:∀p∈a,p.1≠c/\b.heap[p.1]?=some p.2)(i:b.heap[c]?=some (PF (.string base) Hn Hn Hn Hn)):
 TI w lo c base a Hn Hn (λ_=>Hn) [] [] (λ_=> []) b where
 bel:=e
 wm:=f
 ml:=g
 hk p hp:=⟨(d p hp).1,(d p hp).2,by simp[Value.ownBlock],by simp[Value.ownBlock],λ_=>by simp[Value.ownBlock]⟩
 qm:=i
 br:=zAi.nil _ _
 sz:=h
theorem zCb(d:Ai)(da:Ae)(dc:Nat)(w:Wd)(q:0<d.length)(z:d.length<=1000)(r:Al Ei w da d):Calls prog 202 #[.slice da d.length dc] w λe w'=>∃g,e=.returned g/\Hj w.heap.size g d w'/\Bw w w':=by
 obtain⟨s,h,rfl,t,o⟩:=Ok r q;obtain⟨v,x,i,l,m⟩:=info_parts fF.info;have B:∀(w:Wd) (a:Ae) (n c n' c':Nat),(binOp .eql 48 (.slice a n c) (.slice none n' c')).run prog w=.ok (.bool a.isNone) w:=λw a n c n' c'=>Lib.run_eql_slice_nil w _ _ a n c n' c' underlying48;have A:=I o;go_in;go_wp2_with (at_builtin;refine wpList_append_own _ rfl _ _ 48 rfl w.heap.size 86 v (.agg #[Bn 0,.bool false]) 2 16 underlying48 x i l m rfl (by decide) _ _ _ rfl (World.ownsRow_made w #[] 0 (Bv _) (Bg _) rfl) (aD s h) d.length dc (d.map Mz).flatten rfl ?qc1 ?qc2 ?qc3 ?qc4 ?qc5 ?qc6 ?_)
 case qc1=>exact sD d
 case qc2=>exact λj u hj=>Lib.cell?_alloc_some _ (EC A.1 j u hj)
 case qc3=>exact EG
 case qc4=>unfold maxLen;omega
 case qc5=>omega
 case qc6=>simp
 intro g C f b p;go_wp2;go_ret;refine⟨g,rfl,by simpa[Hj] using f,?_⟩;exact((An _ w).alloc (Bv _) _).grown b (by simp) (by intro k y;simp[Value.ownBlock]at y;omega)
theorem mkMapL(w:Wd):(Instr.makeMap 289 none).run prog w=.ok (.map (some w.heap.size)) (w.alloc (.map #[] 0)):=by kernel_rfl
theorem lookL(a:Dl prog w b .string M)(s:BA):(Instr.lookup 289 (.map (some b)) (.string s) false).run prog w=.ok ((Bz M (.string s)).getD Hn) w:=
 aU underlying289 underlying9 a (key:=.string s) trivial (by kernel_rfl)
theorem putL(a:Dl prog w b .string M)(s:BA)(v:Value):∃w',(Instr.mapUpdate 289 (.map (some b)) (.string s) v).run prog w=.ok () w'/\Dl prog w' b .string (Dd M (.string s) v)/\w.grownBy w' (some b):=
 aP underlying289 underlying9 a (key:=.string s) v trivial
theorem Dl.blk{d:TypeDesc}(h:Dl P w b d M)(e:w'.heap[b]?=w.heap[b]?):Dl P w' b d M:=by
 obtain⟨⟨a,c,f,g⟩,i⟩:=h;exact⟨⟨a,c,e.trans f,g⟩,i⟩
theorem zW.blk(h:zW w (some (aD b 0)) q)(e:w'.heap[b]?=w.heap[b]?)(c:b<w'.heap.size):zW w' (some (aD b 0)) q:=by
 rcases h with h|⟨j,d,f,k,g⟩;exact .inl h;cases f;exact .inr ⟨b,0,rfl,c,λi hi=>(World.cell?_of_block (w:=w) (a:=aD b (0+i)) e).trans (g i hi)⟩
def setN:LV->Nat->LV->LV
 |cs,_, []=>cs
 |cs,i,v::l=>setN (cs.set i v) (i+1) l
theorem zBT:∀(l cs:LV) (i:Nat),(setN cs i l).length=cs.length
 |[],_,_=>rfl
 |v::l,cs,i=>(zBT l _ _).trans (by simp)
theorem zBd:∀(l cs:LV) (i j:Nat),i+l.length<=cs.length->(setN cs i l)[j]?=if i<=j/\j<i+l.length then l[j-i]? else cs[j]?
 |[],cs,i,j,_=>by rw[iN (by simp only[List.length_nil];omega)];rfl
 |v::l,cs,i,j,h=>by
  simp only[List.length_cons]at h ⊢;rw[setN,zBd l _ _ _ (by simp;omega)];by_cases e:j=i
  . subst e;rw[iN (by omega),iP (by omega),List.getElem?_set];simp[show j<cs.length by omega]
  by_cases a:i+1<=j/\j<i+1+l.length
  . rw[iP a,iP (by omega),show j-i=(j-(i+1))+1 by omega];simp
  rw[iN a,iN (by omega),List.getElem?_set_ne (by omega)]
theorem zCf{T:TypeId}:∀(l cs:LV) (i:Nat) (w:Wd),w.heap[b]?=some (.cells cs.toArray T (0,0))->(stN b i l w).heap[b]?=some (.cells (setN cs i l).toArray T (0,0))
 |[],_,_,_,h=>h
 |v::l,cs,i,w,h=>zCf l (cs.set i v) (i+1) _ (by rw[zg h];simp)
def LgX(lo:Nat)(w:Wd)(x:Sd)(cs:LV)(o:Nat):Prop:=∃(da:Ae) (dc:Nat),(∀j,j<7->cs[o+j]?= [Value.slice da x.duty.length dc,.int .i64 x.rep,.int .i64 x.rel,.string x.src,.string x.dst,.int .i64 x.cost,.int .i64 x.cred][j]?)/\x.duty.length<=140737488355328/\(∀y∈x.duty,(Lit.int .i64 y.1).wf=true)/\Hj lo (.slice da x.duty.length dc) x.duty w
theorem LgX.agr{x:Sd}{b:LV}(h:LgX lo w x b o)(a:jR lo w w'):LgX lo w' x b o:=by
 obtain⟨c,d,e,f,g,i⟩:=h;exact⟨c,d,e,f,g,zz3 i a⟩
structure N1(w:Wd)(lo nb lgb mb vb hb:Nat)(t:At)(c:Ad)(base:BA)(L:List Sd)(kl kv:Nat)(M:List (Value×Value))(u0 u1:Value)(U:Nat->Value)(Q:Nat->LI)(cs vals:LV)(wx:Wd):Prop where
 bel:Below w.heap.size w wx
 sz:lo<=wx.heap.size
 ord:w.heap.size<=nb/\nb<lgb/\lgb<mb/\mb<vb/\vb<hb/\hb<lo
 qn:wx.heap[nb]?=some (PF (.string ⟨#[]⟩) (.slice none 0 0) (.slice none 0 0) (.slice none 0 0) (.slice none 0 0))
 qm:wx.heap[mb]?=some (PF (.string base) (.slice (some (aD lgb 0)) L.length L.length) (.slice none 0 0) u0 u1)
 ql:wx.heap[lgb]?=some (.cells cs.toArray 50 (0,0))
 lcs:cs.length=L.length*7
 qv:wx.heap[vb]?=some (.cells vals.toArray 22 (0,0))
 lvs:vals.length=L.length
 mp:Dl prog wx hb .string M
 iv:zAe lo wx U Q
 lg:∀i,i<kl->LgX lo wx (Hx L i) cs (i*7)
 vl:∀i,i<kv->∃b,vals[i]?=some (.slice (some (aD b 0)) 11 11)/\lo<=b/\b<wx.heap.size/\zW wx (some (aD b 0)) (Bo t c (Hx L i).duty)/\∀j,(U j).ownBlock≠some b
section
variable {w wx wy:Wd} {lo nb lgb mb vb hb:Nat} {t:At} {c:Ad} {base:BA} {L:List Sd} {kl kv:Nat} {M:List (Value×Value)} {u0 u1:Value} {U:Nat→Value} {Q:Nat→LI} {cs vals:LV} {o:Obj}
theorem N1.call(S:N1 w lo nb lgb mb vb hb t c base L kl kv M u0 u1 U Q cs vals wx)(h:Bw wx wy):N1 w lo nb lgb mb vb hb t c base L kl kv M u0 u1 U Q cs vals wy where
 bel:=Ab S.bel h
 sz:=Bf S.sz h.size
 ord:=S.ord
 qn:=Ac h S.qn
 qm:=Ac h S.qm
 ql:=Ac h S.ql
 lcs:=S.lcs
 qv:=Ac h S.qv
 lvs:=S.lvs
 mp:=S.mp.below h
 iv:=S.iv.agr (jR.of h)
 lg i hi:=(S.lg i hi).agr (jR.of h)
 vl i hi:=by
  obtain⟨b,a,d,e,f,g⟩:=S.vl i hi;exact⟨b,a,d,As e h.size,f.below h,g⟩
theorem N1.vals'(S:N1 w lo nb lgb mb vb hb t c base L kl kv M u0 u1 U Q cs vals wx)(a:jR lo wx wy)(i:Nat)(f:i<kv):∃b,vals[i]?=some (Hy b 0 11 11)/\lo<=b/\b<wy.heap.size/\zW wy (some (aD b 0)) (Bo t c (Hx L i).duty)/\∀j,(U j).ownBlock≠some b:=by
 obtain⟨b,g,e,d,h,k⟩:=S.vl i f;exact⟨b,g,e,As d a.1,h.blk (a.2 b e d) (As d a.1),k⟩
theorem N1.legs(S:N1 w lo nb lgb mb vb hb t c base L kl kv M u0 u1 U Q cs vals wx)(s:kl<L.length){da:Ae}{dc:Nat}(k:(Hx L kl).duty.length<=2^47)(m:∀y∈(Hx L kl).duty,(Lit.int .i64 y.1).wf=true)(n:Hj lo (.slice da (Hx L kl).duty.length dc) (Hx L kl).duty wx){l:LV} 
 (h:l= [.slice da (Hx L kl).duty.length dc,Bn (Hx L kl).rep,Bn (Hx L kl).rel,.string (Hx L kl).src,.string (Hx L kl).dst,Bn (Hx L kl).cost,Bn (Hx L kl).cred]):
 N1 w lo nb lgb mb vb hb t c base L (kl+1) kv M u0 u1 U Q (setN cs (kl*7) l) vals (stN lgb (kl*7) l wx):=by
 obtain⟨u,v,x,z,A,B⟩:=S.ord;have d:l.length=7:=by rw[h];rfl
 have a:kl*7+l.length<=cs.length:=by rw[S.lcs,d];omega
 have b:=jR.stN (lo:=lo) (show lgb<lo by omega) l (kl*7) wx;refine⟨Tt (show w.heap.size<=lgb by omega) _ _ _ S.bel,by rw[DP];exact S.sz,S.ord,(lG (by omega) _ _ _).trans S.qn,(lG (by omega) _ _ _).trans S.qm,zCf _ _ _ _ S.ql,by rw[zBT];exact S.lcs,(lG (by omega) _ _ _).trans S.qv,S.lvs,S.mp.blk (lG (by omega) _ _ _),S.iv.agr b,λi hi=>?_,S.vals' b⟩;by_cases e:i=kl;subst e;refine⟨da,dc,λj hj=>?_,k,m,zz3 n b⟩;rw[zBd _ _ _ _ a,iP (by omega),h,show i*7+j-i*7=j by omega];obtain⟨f,g,o,p,q,r⟩:=S.lg i (by omega);refine⟨f,g,λj hj=>?_,p,q,zz3 r b⟩;rw[zBd _ _ _ _ a,iN (by omega)];exact o j hj
theorem N1.val(S:N1 w lo nb lgb mb vb hb t c base L kl kv M u0 u1 U Q cs vals wx)(k:kv<L.length){b:Nat}(g:lo<=b)(f:b<wx.heap.size)(l:zW wx (some (aD b 0)) (Bo t c (Hx L kv).duty))(m:∀j,(U j).ownBlock≠some b):
 N1 w lo nb lgb mb vb hb t c base L kl (kv+1) M u0 u1 U Q cs (vals.set kv (Hy b 0 11 11)) (wx.setCell (aD vb kv) (Hy b 0 11 11)):=by
 obtain⟨o,r,s,u,v,y⟩:=S.ord;have a:=jR.set (lo:=lo) wx (show vb<lo by omega) kv (Hy b 0 11 11);have d:∀{x:Nat},x≠vb->(wx.setCell (aD vb kv) (Hy b 0 11 11)).heap[x]?=wx.heap[x]?:=λh=>Below.heap_setCell _ (aD vb kv) _ _ h;refine⟨S.bel.setCell (p:=aD vb kv) (show w.heap.size<=vb by omega) _,Bf S.sz a.1,S.ord,(d (by omega)).trans S.qn,(d (by omega)).trans S.qm,(d (by omega)).trans S.ql,S.lcs,?_,by simpa using S.lvs,S.mp.blk (d (by omega)),S.iv.agr a,λi hi=>(S.lg i hi).agr a,λi hi=>?_⟩;rw[zg S.qv];simp;by_cases e:i=kv;subst e;exact⟨b,by rw[List.getElem?_set];simp[S.lvs,k],g,As f a.1,l.blk (a.2 b g f) (As f a.1),m⟩;obtain⟨n,q⟩:=S.vals' a i (by omega);exact⟨n,by rw[List.getElem?_set_ne (by omega)];exact q.1,q.2⟩
theorem N1.app(S:N1 w lo nb lgb mb vb hb t c base L kl kv M u0 u1 U Q cs vals wx){i g cap:Nat}{x:Int}(a:(wx.alloc o).grownBy wy (U i).ownBlock)(u:wy.ownsRow lo 3 1 (.slice (some ⟨g,0,none⟩) ((Q i).length+1) cap) ((Q i).length+1) ((Q i).map (Value.int .i64)++ [.int .i64 x]))(r:(U i).ownBlock=some g\/g=wx.heap.size+1):
 N1 w lo nb lgb mb vb hb t c base L kl kv M u0 u1 (BW U i (.slice (some ⟨g,0,none⟩) ((Q i).length+1) cap)) (SX Q i (Q i++ [x])) cs vals wy:=by
 obtain⟨C,D,E,F,G,H⟩:=S.ord;have K:=S.sz;have v:wx.heap.size+1<=wy.heap.size:=by have:=a.size;simpa using this
 have s:∀{x:Nat},x<wx.heap.size->(U i).ownBlock≠some x->wy.heap[x]?=wx.heap[x]?:=λh hn=>(a.block _ (by simp;omega) (λe=>hn e.symm)).trans (heap_alloc_old wx o h);have d:∀{x:Nat},x<lo->wy.heap[x]?=wx.heap[x]?:=fun{x} h=>s (by omega) λe=>by have:=(S.iv.lt e).1;omega
 refine⟨(S.bel.alloc S.bel.size o).grown a (by have:=S.bel.size;simp;omega) (λk hk=>by have:=(S.iv.lt hk).1;omega),by omega,S.ord,(d (by omega)).trans S.qn,(d (by omega)).trans S.qm,(d (by omega)).trans S.ql,S.lcs,(d (by omega)).trans S.qv,S.lvs,S.mp.blk (d (by omega)),S.iv.app a u r,λj hj=>?_,λj hj=>?_⟩;obtain⟨y,z,f,l,n,p⟩:=S.lg j hj;exact⟨y,z,f,l,n,zAr p (S.iv.own i) (by decide) a⟩;obtain⟨b,f,l,n,p,q⟩:=S.vl j hj;refine⟨b,f,l,by omega,p.blk (s n (q i)) (by omega),λm=>?_⟩;unfold BW;by_cases e:m=i;rw[iP e];intro A;have B:g=b:=by simpa[Value.ownBlock] using A
 rcases r with h|h;exact q i (by rw[h,B]);omega;rw[iN e];exact q m
theorem N1.map(S:N1 w lo nb lgb mb vb hb t c base L kl kv M u0 u1 U Q cs vals wx){g:List (Value×Value)}(d:wx.grownBy wy (some hb))(j:Dl prog wy hb .string g):N1 w lo nb lgb mb vb hb t c base L kl kv g u0 u1 U Q cs vals wy:=by
 obtain⟨n,o,p,q,r,s⟩:=S.ord;have l:=S.sz;have a:∀{x:Nat},x<wx.heap.size->x≠hb->wy.heap[x]?=wx.heap[x]?:=λh hn=>d.block _ h (λe=>hn (by simpa using e))
 have f:jR lo wx wy:=⟨d.size,λb h1 h2=>a h2 (by omega)⟩;have m:Bw w wy:=S.bel.grown d S.bel.size λk hk=>by
  have e:hb=k:=by simpa using hk
  omega
 exact⟨m,Bf l d.size,S.ord,(a (by omega) (by omega)).trans S.qn,(a (by omega) (by omega)).trans S.qm,(a (by omega) (by omega)).trans S.ql,S.lcs,(a (by omega) (by omega)).trans S.qv,S.lvs,j,S.iv.agr f,λi hi=>(S.lg i hi).agr f,S.vals' f⟩
theorem N1.set(S:N1 w lo nb lgb mb vb hb t c base L kl kv M u0 u1 U Q cs vals wx){i:Nat}(d:i<2)(v:Value):N1 w lo nb lgb mb vb hb t c base L kl kv M (if i=0 then v else u0) (if i=0 then u1 else v) U Q cs vals (wx.setCell (aD mb (3+i)) v):=by
 obtain⟨e,f,g,j,k,l⟩:=S.ord;have a:=jR.set (lo:=lo) wx (show mb<lo by omega) (3+i) v;have b:∀{x:Nat},x≠mb->(wx.setCell (aD mb (3+i)) v).heap[x]?=wx.heap[x]?:=λh=>Below.heap_setCell _ (aD mb (3+i)) _ _ h;refine⟨S.bel.setCell (p:=aD mb (3+i)) (show w.heap.size<=mb by omega) _,Bf S.sz a.1,S.ord,(b (by omega)).trans S.qn,?_,(b (by omega)).trans S.ql,S.lcs,(b (by omega)).trans S.qv,S.lvs,S.mp.blk (b (by omega)),S.iv.agr a,λi d=>(S.lg i d).agr a,S.vals' a⟩;refine(zg S.qm).trans ?_;obtain rfl|rfl:i=0\/i=1:=by omega
 rfl;rfl
theorem N1.set0(S:N1 w lo nb lgb mb vb hb t c base L kl kv M u0 u1 U Q cs vals wx)(v:Value):N1 w lo nb lgb mb vb hb t c base L kl kv M v u1 U Q cs vals (wx.setCell (aD mb 3) v):=S.set (i:=0) (by decide) v
theorem N1.set1(S:N1 w lo nb lgb mb vb hb t c base L kl kv M u0 u1 U Q cs vals wx)(v:Value):N1 w lo nb lgb mb vb hb t c base L kl kv M u0 v U Q cs vals (wx.setCell (aD mb 4) v):=S.set (i:=1) (by decide) v
theorem zBw{p:Nat->Bool}{k:Nat}(h:p k=true):jQ p (k+1)=jQ p k++ [(k:Int)]:=by rw[jQ,iP h]
theorem zBY{p:Nat->Bool}{k:Nat}(h:p k=false):jQ p (k+1)=jQ p k:=by rw[jQ,iN (by rw[h];decide),List.append_nil]
theorem MInv.step{k:Nat}(h:MInv L base k M U Q)(l:k<L.length){x:Sd}(m:x=Hx L k){b:Nat}(n:b=2+fIx L x.src){v:Value}{c:Nat->Value}{a:Nat->LI}(d:∀i,2<=i->c i=BW U b v i)(f:∀i,2<=i->a i=SX Q b (Q b++ [(k:Int)]) i)(o:∀i,i<2->a i= []->c i=Hn) 
 (p:a 0=jQ (λj=>(Hx L j).src.toList==base.toList) (k+1)) (q:a 1=jQ (λj=>(Hx L j).dst.toList==base.toList) (k+1)):MInv L base (k+1) (Dd M (.string x.src) v) c a:=by
 subst m n;obtain⟨r,t⟩:=h.put l (v:=v);refine⟨λs=>?_,λj hj=>?_,λi hi=>?_,p,q⟩;rw[r s,d _ (by omega)];rw[f _ (by omega),t j hj];by_cases e:i<2;exact o i e hi;rw[f i (by omega)]at hi;rw[d i (by omega)];unfold SX at hi;unfold BW;by_cases g:i=2+fIx L (Hx L k).src;rw[iP g]at hi;simp at hi;rw[iN g]at hi ⊢;exact h.nil i hi
end
theorem N1.start(w:Wd)(t:At)(c:Ad)(base:BA)(L:List Sd)(a:LV)(p:a.length=L.length*7):N1 w (w.heap.size+1+1+1+1+1) w.heap.size (w.heap.size+1) (w.heap.size+1+1) (w.heap.size+1+1+1) (w.heap.size+1+1+1+1) t c base L 0 0 [] Hn Hn (λ_=>Hn) (λ_=> []) a (List.replicate L.length Hn)
 (((((w.alloc (Obj.cells #[.string ⟨#[]⟩,Hn,Hn,Hn,Hn] 65)).alloc (.cells a.toArray 50)).alloc (Obj.cells #[.string base,Hy (w.heap.size+1) 0 L.length L.length,Hn,Hn,Hn] 65)).alloc (.cells (Array.replicate L.length Hn) 22)).alloc (.map #[] 0)):=by
 have q:=zh w jC;have r:=J w jC;have B:=zr w jC;generalize w.alloc jC=b at*;have k:=zh b (.cells a.toArray 50);have s:=J b (.cells a.toArray 50);have C:=zr b (.cells a.toArray 50);generalize b.alloc (.cells a.toArray 50)=d at*;have l:=zh d (Obj.cells #[.string base,Hy (w.heap.size+1) 0 L.length L.length,Hn,Hn,Hn] 65);have u:=J d (Obj.cells #[.string base,Hy (w.heap.size+1) 0 L.length L.length,Hn,Hn,Hn] 65);have D:=zr d (Obj.cells #[.string base,Hy (w.heap.size+1) 0 L.length L.length,Hn,Hn,Hn] 65);generalize d.alloc (Obj.cells #[.string base,Hy (w.heap.size+1) 0 L.length L.length,Hn,Hn,Hn] 65)=e at*;have m:=zh e (.cells (Array.replicate L.length Hn) 22);have v:=J e (.cells (Array.replicate L.length Hn) 22);have E:=zr e (.cells (Array.replicate L.length Hn) 22);generalize e.alloc (.cells (Array.replicate L.length Hn) 22)=f at*;have n:=Dl.made prog f .string;have o:=J f (.map #[] 0);have F:=zr f (.map #[] 0);generalize f.alloc (.map #[] 0)=G at*;have g:=Ab v o;have h:=Ab u g;have j:=Ab s h;have x:b.heap.size=w.heap.size+1:=by omega
 have y:d.heap.size=w.heap.size+1+1:=by omega
 have z:e.heap.size=w.heap.size+1+1+1:=by omega
 have A:f.heap.size=w.heap.size+1+1+1+1:=by omega
 rw[x]at k;rw[y]at l;rw[z]at m;rw[A]at n;exact⟨Ab r j,by omega,by omega,Ac j q,Ac g l,Ac h k,p,by simpa using Ac o m,by simp,n,zAe.nil _ _,λi hi=>aB hi (Nat.not_lt_zero i),λi hi=>aB hi (Nat.not_lt_zero i)⟩
theorem zW.lt(h:zW w (some (aD b 0)) q)(a:q≠ []):b<w.heap.size:=by
 rcases h with h|⟨f,c,d,e,g⟩;exact aB h a;cases d;exact e
structure KSt(w W2:Wd)(lo mb:Nat)(keep:List (Nat×Obj))(v0 v1 v3 v4 kv:Value)(K:List DW)(wx:Wd):Prop where
 bel:Below w.heap.size w wx
 wm:w.heap.size<=mb
 ml:mb<lo
 l2:lo<=W2.heap.size
 ag:jR lo W2 wx
 hk:∀p∈keep,p.1≠mb/\wx.heap[p.1]?=some p.2/\kv.ownBlock≠some p.1
 qm:wx.heap[mb]?=some (PF v0 v1 kv v3 v4)
 lk:wx.ownsRow W2.heap.size 144 3 kv K.length (K.map QV).flatten
section
variable {w W2 wx wy:Wd} {lo mb:Nat} {keep:List (Nat×Obj)} {v0 v1 v3 v4 kv:Value} {K:List DW} {o:Obj} {b:Nat}
theorem KSt.at(S:KSt w W2 lo mb keep v0 v1 v3 v4 kv K wx)(i:Nat)(h:keep[i]?=some (b,o)):wx.heap[b]?=some o:=(S.hk _ (List.mem_of_getElem? h)).2.1
theorem KSt.call(S:KSt w W2 lo mb keep v0 v1 v3 v4 kv K wx)(h:Bw wx wy):KSt w W2 lo mb keep v0 v1 v3 v4 kv K wy where
 bel:=Ab S.bel h
 wm:=S.wm
 ml:=S.ml
 l2:=S.l2
 ag:=S.ag.trans (jR.of h)
 hk p hp:=by
  obtain⟨a,b,c⟩:=S.hk p hp;exact⟨a,Ac h b,c⟩
 qm:=Ac h S.qm
 lk:=zz3 S.lk (jR.of h)
theorem KSt.add(S:KSt w W2 lo mb keep v0 v1 v3 v4 kv K wx)(h:Bw wx wy)(d:wx.heap.size<=b)(c:wy.heap[b]?=some o):KSt w W2 lo mb ((b,o)::keep) v0 v1 v3 v4 kv K wy where
 bel:=(S.call h).bel
 wm:=S.wm
 ml:=S.ml
 l2:=S.l2
 ag:=(S.call h).ag
 hk p a:=by
  rcases List.mem_cons.1 a with rfl|a
  . have:=Ag S.qm;exact⟨by show b≠mb;omega,c,λe=>by have:=(S.lk.lt b e).2;omega⟩
  exact(S.call h).hk p a
 qm:=(S.call h).qm
 lk:=(S.call h).lk
theorem KSt.drop{p:Nat×Obj}{l:List (Nat×Obj)}(S:KSt w W2 lo mb keep v0 v1 v3 v4 kv K wx)(e:keep=p::l):KSt w W2 lo mb l v0 v1 v3 v4 kv K wx:=
 ⟨S.bel,S.wm,S.ml,S.l2,S.ag,λq hq=>S.hk q (by rw[e];exact List.mem_cons_of_mem _ hq),S.qm,S.lk⟩
theorem KSt.stay(S:KSt w W2 lo mb keep v0 v1 v3 v4 kv K wx)(a:wx.grownBy wy kv.ownBlock):Bw w wy/\jR lo W2 wy/\wy.heap[mb]?=some (PF v0 v1 kv v3 v4)/\∀p∈keep,wy.heap[p.1]?=some p.2:=by
 have i:=S.l2;have j:=S.ml;have l:=S.wm;have d:=S.lk.lt;have g:=S.ag.1;refine⟨S.bel.grown a S.bel.size λk hk=>by have:=(d k hk).1;omega,⟨Bf g a.size,λb f c=>(a.block b (by omega) (λe=>by have:=(d b e.symm).1;omega)).trans (S.ag.2 b f c)⟩,(a.block mb (Ag S.qm) (λe=>by have:=(d mb e.symm).1;omega)).trans S.qm,λp hp=>?_⟩;obtain⟨f,c,h⟩:=S.hk p hp;exact(a.block _ (Ag c) (λe=>h e.symm)).trans c
theorem KSt.linkK(S:KSt w W2 lo mb keep v0 v1 v3 v4 kv K wx){x:DW}{g c n:Nat}{a:List DW}(d:K.length=n)(f:K++ [x]=a)(i:wx.grownBy wy kv.ownBlock)(j:wy.ownsRow W2.heap.size 144 3 (Hy g 0 (n+1) c) (n+1) ((K.map QV).flatten++QV x))(k:kv.ownBlock=some g\/g=wx.heap.size):
 KSt w W2 lo mb keep v0 v1 v3 v4 (Hy g 0 (n+1) c) a (wy.setCell (aD mb 2) (Hy g 0 (n+1) c)):=by
 subst d f;obtain⟨l,m,o,q⟩:=S.stay i;have v:=S.l2;have y:=S.ml;refine⟨l.setCell (p:=aD mb 2) S.wm _,S.wm,S.ml,S.l2,m.trans (jR.set _ S.ml _ _),λp hp=>?_,(zg o).trans rfl,?_⟩;obtain⟨b,r,s⟩:=S.hk p hp;refine⟨b,(Below.heap_setCell _ (aD mb 2) _ _ b).trans (q p hp),λe=>?_⟩;have t:g=p.1:=by simpa[Value.ownBlock] using e
 rcases k with h|h;exact s (by rw[h,t]);have:=Ag r;omega;have u:(wy.setCell (aD mb 2) (Hy g 0 (K.length+1) c)).ownsRow W2.heap.size 144 3 (Hy g 0 (K.length+1) c) (K.length+1) ((K.map QV).flatten++QV x):=zz3 j (jR.set _ (show mb<W2.heap.size by omega) _ _);rw[Gh,Ii,List.flatten_append];simpa using u
end
theorem KSt.start{f:Wd}{h a e g:Nat}{t:At}{c:Ad}{L:List Sd}{q:Nat}{k l:Value}{m b:LV}(d:N1 w lo h a e i g t c base L o q M k l U Q m b f){n:Obj}(j:f.heap[g]?=some n):
 KSt w f lo e [(h,PF (.string ⟨#[]⟩) Hn Hn Hn Hn),(a,.cells m.toArray 50),(i,.cells b.toArray 22),(g,n)] (.string base) (Hy a 0 L.length L.length) k l Hn [] f:=by
 obtain⟨r,s,u,v,x,y⟩:=d.ord;refine⟨d.bel,by omega,by omega,d.sz,jR.refl _ _,λp hp=>?_,d.qm,World.ownsRow_nil ..⟩;simp only[List.mem_cons,List.not_mem_nil,or_false]at hp;rcases hp with rfl|rfl|rfl|rfl;exact⟨by show h≠e;omega,d.qn,by simp[Value.ownBlock]⟩;exact⟨by show a≠e;omega,d.ql,by simp[Value.ownBlock]⟩;exact⟨by show i≠e;omega,d.qv,by simp[Value.ownBlock]⟩;exact⟨by show g≠e;omega,j,by simp[Value.ownBlock]⟩
def zAb(t:At)(c:Ad)(base:BA)(L:List Sd)(k:Nat)(j:Int):List DW:=if zAc t c base (Hx L k) (Hx L j.toNat)=true then [⟨k,j,zCm t c base (Hx L k) (Hx L j.toNat)⟩] else []
theorem zCn{t:At}{c:Ad}{x y:Sd}(h:¬ y.src=x.dst):zAc t c base x y=false:=by
 unfold zAc;rw[zV,decide_eq_false (λe=>h e.symm)];rfl
theorem zAu(t:At)(c:Ad)(base:BA)(L:List Sd)(k:Nat):∀n,(FT L (Hx L k).dst n).flatMap (zAb t c base L k)=zz1 t c base L k n
 |0=>rfl
 |n+1=>by
  by_cases e:(Hx L n).src=(Hx L k).dst
  . rw[zAO e,List.flatMap_append,zAu t c base L k n,zz1];congr 1
    show zAb t c base L k (n:Int)++ []=_
    rw[List.append_nil,zAb,Int.toNat_natCast]
  rw[zAW e,zAu t c base L k n,zz1,iN (by rw[zCn e];decide),List.append_nil]
theorem zBj{L:List Sd}:∀{n:Nat} {x:Int},x∈FT L s n->∃j:Nat,x=j/\j<n/\(Hx L j).src=s
 |0,x,h=>by cases h
 |n+1,x,h=>by
  by_cases e:(Hx L n).src=s
  . rw[zAO e]at h;rcases List.mem_append.1 h with h|h
    . obtain⟨j,a,c,b⟩:=zBj h;exact⟨j,a,by omega,b⟩
    exact⟨n,List.mem_singleton.1 h,by omega,e⟩
  rw[zAW e]at h;obtain⟨j,a,c,b⟩:=zBj h;exact⟨j,a,by omega,b⟩
theorem zCD(L:List Sd)(s:BA)(n:Nat):(FT L s n).length<=n:=zzX _ n
theorem zAj{A:Type}(q:LI)(f:Int->List A)(h:m<q.length):(q.take (m+1)).flatMap f=(q.take m).flatMap f++f q[m]:=by
 rw[tS h,List.flatMap_append];simp
theorem zBZ(t:At)(c:Ad)(base:BA)(L:List Sd)(k:Nat):∀q:LI,(q.flatMap (zAb t c base L k)).length<=q.length
 |[]=>Bv _
 |x::q=>by
  have:=zBZ t c base L k q;rw[List.flatMap_cons,Gh,List.length_cons];have h:(zAb t c base L k x).length<=1:=by unfold zAb;split <;> simp
  omega
theorem MInv.row{L:List Sd}(h:MInv L base L.length M U Q)(g:zAe lo w U Q)(s:BA):∃(va:Ae) (vc:Nat),(Bz M (.string s)).getD Hn=.slice va (FT L s L.length).length vc/\FrK lo (λw=>zW w va (FT L s L.length)) w:=by
 rw[h.m];by_cases e:FT L s L.length= [];rw[iP e,e];exact⟨none,0,rfl,λ_ _=>.inl rfl⟩;rw[iN e];obtain⟨j,i,k⟩:=zBk e;have c:=h.q j i;rw[k]at c;obtain⟨a,b,d,f⟩:=g.form (2+fIx L s);rw[c]at d f;exact⟨a,b,d,f⟩
theorem LgX.legs{a:Nat}{L:List Sd}{c:LV}(h:∀i,i<L.length->LgX lo w (Hx L i) c (i*7))(q:w.heap[a]?=some (.cells c.toArray 50 (0,0))):zzU w (some (aD a 0)) L:=by
 refine .inr ⟨a,0,rfl,Ag q,λi hi=>?_⟩;obtain⟨d,e,b,f,g,j⟩:=h i hi;obtain⟨m,n,k,-,l⟩:=Hj.at j g;cases k;rw[Nat.zero_add];exact⟨d,e,zm q (by simpa using b 0 (by decide)),zm q (by simpa using b 1 (by decide)),zm q (by simpa using b 2 (by decide)),zm q (by simpa using b 3 (by decide)),zm q (by simpa using b 4 (by decide)),zm q (by simpa using b 5 (by decide)),zm q (by simpa using b 6 (by decide)),f,l⟩
theorem zCW{B:Nat}{L:List Sd}{d:LV}(e:B<=c)(f:B<=lo)(h:∀i,i<L.length->LgX lo w (Hx L i) d (i*7))(q:w.heap[c]?=some (.cells d.toArray 50 (0,0))):FrK B (λw=>zzU w (some (aD c 0)) L) w:=λw' a=>
 LgX.legs (λi hi=>(h i hi).agr ⟨a.1,λb h1 h2=>a.2 b (Bf f h1) h2⟩) ((a.2 c e (Ag q)).trans q)
def JnT(t:At)(c:Ad)(s:BA)(x y:Ai)(v:Value)(w:Wd):Prop:=∃(a:Ae) (cap:Nat),v=.slice a 25 cap/\zW w a (ZZ t c s x y)
theorem JnT.call{t:At}{c:Ad}{x y:Ai}{v:Value}(h:JnT t c s x y v w)(d:Bw w w'):JnT t c s x y v w':=by
 obtain⟨a,b,e,f⟩:=h;exact⟨a,b,e,f.below d⟩
theorem zA2.bd{t:At}{c:Ad}{x:Sd}(h:zA2 t c x)(a:zY t=0)(f:Ax c=0):1440<=x.rep/\x.rep<=52593120/\2880<=x.rel/\x.rel<=52594560:=by
 have e:=h.e;have b:=Tq a f h.d;rw[show x.rep=(Bm t c x.duty).1 from congrArg Sd.rep e,show x.rel=(Bm t c x.duty).2 from congrArg Sd.rel e];exact b
theorem zAX(h:m<q.length):Am q m=q[m]:=by simp[Am,Cr,Cz h]
theorem relyN2{ops:Array Oper}{Q:Exit->Act->Wd->Prop}{d:Act}{G:Wd->Prop}{o:Nat}(S:List Sp)(j f:List Nat)(p:∀w',Bw w w'->G w') 
 (H:∀u,Sx u d.tmps.toList (Sy P w S G u ops.pop.pop.pop.toList S) j) (c:(dG ops&&(dG ops.pop&&(dG ops.pop.pop&&dH ops.pop.pop.pop S j f d.tmps.size)))=true)
 (F:∀u w',Bw w w'->Ho w S u w' (Oper.wp P (Sv default ops.pop.pop.toList) (Gn u ops.pop.pop.pop.toList S d) w' (λa1 w1=>Oper.wp P (Sv default ops.pop.toList) a1 w1 (λa2 w2=>Oper.wp P (Sv default ops.toList) a2 w2 (Q .normal) Q) (Uz P ops Q)) (Uz P ops.pop (Uz P ops Q))) f) (q:P.follows .mixedOrders=true:=by kernel_rfl):(Code.region o ops true).wp P Q d w:=by
 simp only[Em]at c;have k:=rQ c.1;have a:=rQ c.2.1;have b:=rQ c.2.2.1;obtain⟨l,r⟩:=rR (ops:=ops.pop.pop.pop) (Q:=Uz P ops.pop.pop (Uz P ops.pop (Uz P ops Q))) S j f p H c.2.2.2 λu w' hb=>rV f (λh=>rT b (Oper.wp_mono (λ_ _ h=>rT a (Oper.wp_mono (λ_ _=>rT k) h)) h)) (F u w' hb);have m:∀i,i<ops.pop.pop.pop.size->(∀e∈Fn (Dn ops.pop.pop.pop i),e<i)/\(Dn ops.pop.pop.pop i).guard=none:=λi hi=>⟨(l i hi).lt,(l i hi).g⟩;have n:=DL b m;have s:=DL a n;exact wp_region_any q (rU k s (rU a n (rU b m r)))
theorem zA4(g:e.results=#[.cell 8 65,.tmp 9])(h:a.getD 8 undef=hZ b 0)(i:a.getD 9 undef=y) 
 (q:W.heap[b]?=some (.cells #[v0,v1,v2,v3,v4] 65 f)):(results e a).run prog W=.ok (.tuple #[.agg #[v0,v1,v2,v3,v4],y]) W:=by
 have c:a[8]?.getD undef=hZ b 0:=by simpa using h
 have d:a[9]?.getD undef=y:=by simpa using i
 simp[results,g,go_sem,c,d,zm (j:=0) q rfl,zm (j:=1) q rfl,zm (j:=2) q rfl,zm (j:=3) q rfl,zm (j:=4) q rfl]
theorem zAC(t:At)(c:Ad)(q:NetS t c)(A:Ae)(K:Nat)(B:Ae)(M:Nat)(fa:Ae)(fc:Nat)(p:Bd)(hN:Rn t c A K B M fa fc p)(w:Wd)(hT:Ea w t c A B fa p)(base:BA)(L:List Sd)(a:Ae)(ca:Nat)(hL:L.length<=60)(hA:zzU w a L):Calls prog 23 #[Az t A K B M fa fc,Ay c p,.string base,.slice a L.length ca] w (NetR t c base L (Sb t c (qT t c base L)) w):=by
 try delta Ay Az
 have Y:=I hT;have HA:=I hA;have HN:=I hN;have C:=I q;clear hT hA hN q;go_enter func23,ntmps23
 go_wp2_with fail;obtain⟨hB,Z,a0,r⟩:=cB w t c A K B M fa fc p jC;obtain⟨x,l⟩:∃x,x=w.heap.size+1+1:=⟨_,rfl⟩;rw[<-l]at r;simp only[<-l];have m:=I l;have HB:=I hB;have QN:=I r;clear l hB Z a0 r;generalize ((w.alloc (Ap t A K B M fa fc)).alloc (Aj c p)).alloc jC=W0 at*;refine(HN.1 W0 (Y.1.below HB.1)).mono ?_;rintro e w1 ⟨D,s⟩;have d:=jS HB s;have n:=jT QN s;clear s HB QN;rcases D with⟨h,rfl⟩|⟨h,N,rfl⟩|⟨sb,P,rfl,E,_,hn⟩
 . have h':(zY t !=0)=true:=by simpa using h
   have y:=I (show zY t=Sb t c (qT t c base L) from(Se h).symm);have HV:=I h;clear h;have b:=n.1;have s0:=zm (j:=0) b rfl;have s1:=zm (j:=1) b rfl;have s2:=zm (j:=2) b rfl;have s3:=zm (j:=3) b rfl;have s4:=zm (j:=4) b rfl;have y0:=zQ (j:=0) b;have y1:=zQ (j:=1) b;have y2:=zQ (j:=2) b;have y3:=zQ (j:=3) b;have y4:=zQ (j:=4) b;have sl:=Ag b;have f:=I (Pr [.string ⟨#[]⟩,.slice none 0 0,.slice none 0 0,.slice none 0 0,.slice none 0 0] [] [.string ⟨#[]⟩,.slice none 0 0,.slice none 0 0,.slice none 0 0,.slice none 0 0] _ rfl b);have g:=I (Tt (show w.heap.size<=x by have:=m.1;omega) [.string ⟨#[]⟩,.slice none 0 0,.slice none 0 0,.slice none 0 0,.slice none 0 0] 0 _ d.1);clear b;simp only[stN,Nat.zero_add,Nat.reduceAdd,List.length_nil]at f g;go_wp2_with fail;refine bP (zA4 rfl rfl rfl f.1) rfl ⟨_,_,rfl,y.1,(λh=>aB h HV.1),(λ_=>rfl),g.1⟩
 . have h':(Ax c !=0)=true:=by simpa using N
   have y:=I (show Ax c=Sb t c (qT t c base L) from(Sc h N).symm);have HV:=I N;clear h N;have b:=n.1;have s0:=zm (j:=0) b rfl;have s1:=zm (j:=1) b rfl;have s2:=zm (j:=2) b rfl;have s3:=zm (j:=3) b rfl;have s4:=zm (j:=4) b rfl;have y0:=zQ (j:=0) b;have y1:=zQ (j:=1) b;have y2:=zQ (j:=2) b;have y3:=zQ (j:=3) b;have y4:=zQ (j:=4) b;have sl:=Ag b;have f:=I (Pr [.string ⟨#[]⟩,.slice none 0 0,.slice none 0 0,.slice none 0 0,.slice none 0 0] [] [.string ⟨#[]⟩,.slice none 0 0,.slice none 0 0,.slice none 0 0,.slice none 0 0] _ rfl b);have g:=I (Tt (show w.heap.size<=x by have:=m.1;omega) [.string ⟨#[]⟩,.slice none 0 0,.slice none 0 0,.slice none 0 0,.slice none 0 0] 0 _ d.1);clear b;simp only[stN,Nat.zero_add,Nat.reduceAdd,List.length_nil]at f g;go_wp2_with fail;refine bP (zA4 rfl rfl rfl f.1) rfl ⟨_,_,rfl,y.1,(λh=>aB h HV.1),(λ_=>rfl),g.1⟩
 have HS:=I E;have y:=I (show Sb t c (qT t c base L)=qT t c base L by unfold Sb;rw[iN (not_not_intro E.okT),iN (not_not_intro E.okC)]);have CB:=I (zBF t c C.1 w1 sb P E hn base L a ca hL (HA.1.below d.1));clear E hn;go_wp2_with fail;refine CB.1.mono ?_;rintro e w5 ⟨v,z,rfl,hz,u,i,B5⟩;have HZ:=I hz;have a9:=Ag n.1;have o:=d.1.size;have F:=jT n B5;have G:=jS d B5;by_cases k:z=0
 . obtain⟨Q,R,S,T,U,V,W,X,rfl,N1,N2,N3,N4⟩:=u k;subst k;have b:=F.1;have s0:=zm (j:=0) b rfl;have s1:=zm (j:=1) b rfl;have s2:=zm (j:=2) b rfl;have s3:=zm (j:=3) b rfl;have s4:=zm (j:=4) b rfl;have y0:=zQ (j:=0) b;have y1:=zQ (j:=1) b;have y2:=zQ (j:=2) b;have y3:=zQ (j:=3) b;have y4:=zQ (j:=4) b;have sl:=Ag b;have f:=I (Pr [.string base,.slice Q L.length U,.slice R (qP t c base L L.length).length V,.slice S (PX base L).length W,.slice T (TE base L).length X] [] [.string ⟨#[]⟩,.slice none 0 0,.slice none 0 0,.slice none 0 0,.slice none 0 0] _ rfl b);have g:=I (Tt (show w.heap.size<=x by have:=m.1;omega) [.string base,.slice Q L.length U,.slice R (qP t c base L L.length).length V,.slice S (PX base L).length W,.slice T (TE base L).length X] 0 _ G.1);clear b;simp only[stN,Nat.zero_add,Nat.reduceAdd,List.length_nil]at f g;have H:=jR.stN (lo:=w1.heap.size) a9 [.string base,.slice Q L.length U,.slice R (qP t c base L L.length).length V,.slice S (PX base L).length W,.slice T (TE base L).length X] 0 w5;simp only[stN,Nat.zero_add,Nat.reduceAdd]at H;clear u i hz;go_wp2_with fail;refine bP (zA4 rfl rfl rfl f.1) rfl ⟨_,_,rfl,HZ.1.trans y.1.symm,λ_=>⟨Q,R,S,T,U,V,W,X,rfl,(N1.to H).le o,(N2.to H).le o,(N3.to H).le o,(N4.to H).le o⟩,(λh=>aB rfl h),g.1⟩
 obtain rfl:=i k;have b0:=I k;clear u i hz k;unfold zeroN
 have b:=F.1;have s0:=zm (j:=0) b rfl;have s1:=zm (j:=1) b rfl;have s2:=zm (j:=2) b rfl;have s3:=zm (j:=3) b rfl;have s4:=zm (j:=4) b rfl;have y0:=zQ (j:=0) b;have y1:=zQ (j:=1) b;have y2:=zQ (j:=2) b;have y3:=zQ (j:=3) b;have y4:=zQ (j:=4) b;have sl:=Ag b;have f:=I (Pr [.string ⟨#[]⟩,.slice none 0 0,.slice none 0 0,.slice none 0 0,.slice none 0 0] [] [.string ⟨#[]⟩,.slice none 0 0,.slice none 0 0,.slice none 0 0,.slice none 0 0] _ rfl b);have g:=I (Tt (show w.heap.size<=x by have:=m.1;omega) [.string ⟨#[]⟩,.slice none 0 0,.slice none 0 0,.slice none 0 0,.slice none 0 0] 0 _ G.1);clear b;simp only[stN,Nat.zero_add,Nat.reduceAdd,List.length_nil]at f g;go_wp2_with fail;refine bP (zA4 rfl rfl rfl f.1) rfl ⟨_,_,rfl,HZ.1.trans y.1.symm,(λh=>aB h b0.1),(λ_=>rfl),g.1⟩
theorem zAE(q:LI)(a:Ae)(l:Nat)(b:Ae)(m:Nat)(w:Wd)(s:q.length<=2^47)(h:zW w a q)(j:zW w b q):CV 195 #[.slice a q.length l,.slice b q.length m] w (.bool true):=by
 have n:=I h;have o:=I j;delta CV;go_in;go_wp2_with fail;go_loopw [13] (λi wr=>∃(k:Nat),k<=q.length/\i=Bn k/\Af (Bw w wr)) (λi _=>q.length-(intOf i).toNat);exact⟨0,Bg _,rfl,I (An _ _)⟩;obtain⟨k,t,rfl,c⟩:=hrel;by_cases d:k<q.length
 . obtain⟨u,v,rfl,p,f⟩:=(n.1.below c.1).cells (by omega);obtain⟨x,y,rfl,r,g⟩:=(o.1.below c.1).cells (by omega);have z:=f k d;have A:=g k d;go_wp2;go_quiet (fail);go_wp2;go_roundw;exact⟨k+1,by omega,by go_num,I (dN c.1 _)⟩;simp[intOf];omega
 obtain rfl:k=q.length:=by omega
 go_wp2;go_ret;exact⟨rfl,c.1⟩
theorem zBl(K:List DW)(a:Ae)(l:Nat)(b:Ae)(m:Nat)(w:Wd)(r:K.length<=2^47)(h:zz2 w a K)(j:zz2 w b K):CV 194 #[.slice a K.length l,.slice b K.length m] w (.bool true):=by
 have n:=I h;have o:=I j;delta CV;go_in;go_wp2_with fail;go_loopw [13] (λi wr=>∃(k:Nat),k<=K.length/\i=Bn k/\Af (Bw w wr)) (λi _=>K.length-(intOf i).toNat);exact⟨0,Bg _,rfl,I (An _ _)⟩;obtain⟨k,s,rfl,c⟩:=hrel;by_cases d:k<K.length
 . obtain⟨t,u,rfl,p,f⟩:=(n.1.below c.1).cells (by omega);obtain⟨v,x,rfl,q,g⟩:=(o.1.below c.1).cells (by omega);obtain⟨y,z,A⟩:=f k d;obtain⟨B,C,D⟩:=g k d;go_wp2;go_quiet (fail);go_wp2;go_roundw;exact⟨k+1,by omega,by go_num,I (dN c.1 _)⟩;simp[intOf];omega
 obtain rfl:k=K.length:=by omega
 go_wp2;go_ret;exact⟨rfl,c.1⟩
def BB(t:At)(c:Ad)(d:Ai):Int:=if Bk t c d≠0 then Bk t c d else if Zp t c d= [] then 0 else 15
def DesX(t:At)(c:Ad)(d:Ai)(w:Wd)(e:Ending)(w':Wd):Prop:=∃(sa:Ae) (sn sc:Nat) (x1 x2:Int) (s1 s2:BA) (x5 x6 er:Int),e=.returned (.tuple #[.agg #[.slice sa sn sc,x1,x2,.string s1,.string s2,x5,x6],er])/\
 er=BB t c d/\
 (er=0->cK t c d x1 x2 s1 s2 x5 x6/\sn=d.length/\Hj w.heap.size (.slice sa sn sc) d w')/\Below w.heap.size w w'
theorem zAg(t:At)(c:Ad)(F:Ae)(s:Nat)(G:Ae)(x:Nat)(fa:Ae)(fc:Nat)(p:Bd)(w:Wd)(l:t.zn.length<=s/\s<=140737488355328/\t.ai.length<=x/\x<=140737488355328)(X:c.cs.length<=p.cc/\p.cc<=9223372036854775807)(b6:Ea w t c F G fa p)(d:Ai)(da:Ae)(dc:Nat)(Y:d.length<=140737488355328)(hd:Al Ei w da d):
 Calls prog 76 #[Az t F s G x fa fc,Ay c p,.slice da d.length dc] w (DesX t c d w):=by
 try delta Ay Az
 have m:=I b6;have HD:=I hd;clear b6 hd;go_enter func76,ntmps76
 go_wp2_with fail;obtain⟨hB,Z,a0,a1⟩:=cB w t c F s G x fa fc p jD;obtain⟨tb,a2⟩:∃tb,tb=w.heap.size:=⟨_,rfl⟩;obtain⟨cb,a3⟩:∃cb,cb=w.heap.size+1:=⟨_,rfl⟩;obtain⟨lb,y⟩:∃lb,lb=w.heap.size+1+1:=⟨_,rfl⟩;rw[<-y]at a1;rw[<-a3]at a0;rw[<-a2]at Z;simp only[<-y];simp only[<-a3];simp only[<-a2];have a4:=I y;have HB:=I hB;have QT:=I Z;have QC:=I a0;have QL:=I a1;clear a3 a2 y hB Z a0 a1;generalize ((w.alloc (Ap t F s G x fa fc)).alloc (Aj c p)).alloc jD=W0 at*;refine(GW t c F s G x fa fc p W0 l X (m.1.below HB.1) d da dc Y (HD.1.below HB.1)).mono ?_;rintro e w1 ⟨va,vc,rfl,-,B1⟩;have i:=jS HB B1;have a5:=jT QT B1;have a6:=jT QC B1;have z:=jT QL B1;clear B1 HB QT QC QL;by_cases e0:Bk t c d=0
 rotate_left
 . have e1:(Bk t c d !=0)=true:=by simpa using e0
   have E0:=I e0;clear e0;have a:=z.1;have s0:=zm (j:=0) a rfl;have s1:=zm (j:=1) a rfl;have s2:=zm (j:=2) a rfl;have s3:=zm (j:=3) a rfl;have s4:=zm (j:=4) a rfl;have s5:=zm (j:=5) a rfl;have s6:=zm (j:=6) a rfl;have H:=zQ (j:=0) a;have L:=zQ (j:=1) a;have M:=zQ (j:=2) a;have N:=zQ (j:=3) a;have P:=zQ (j:=4) a;have Q:=zQ (j:=5) a;have R:=zQ (j:=6) a;have sl:=Ag a;have S:=I (Pr [.slice none 0 0,.int .i64 0,.int .i64 0,.string ⟨#[]⟩,.string ⟨#[]⟩,.int .i64 0,.int .i64 0] [] [.slice none 0 0,.int .i64 0,.int .i64 0,.string ⟨#[]⟩,.string ⟨#[]⟩,.int .i64 0,.int .i64 0] _ rfl a);have T:=I (Tt (show w.heap.size<=lb by have:=a4.1;omega) [.slice none 0 0,.int .i64 0,.int .i64 0,.string ⟨#[]⟩,.string ⟨#[]⟩,.int .i64 0,.int .i64 0] 0 _ i.1);clear a;simp only[stN,Nat.zero_add,Nat.reduceAdd,List.length_nil]at S T;go_wp2_with fail;refine bP (Yi rfl rfl rfl S.1) rfl ⟨_,_,_,_,_,_,_,_,_,_,rfl,(iP E0.1).symm,(λh=>aB h E0.1),T.1⟩
 obtain⟨hT,hC,hE⟩:=aR e0;obtain⟨b7,b8,b9,c4⟩:=Jl hE;obtain⟨g6,g7,_,_⟩:=Ka hE;have f2:=(On hT).2.2;have E0:=I e0;have f3:=I hT;have f4:=I hC;have f5:=I hE;rw[e0];clear e0 hT hC hE;by_cases e1:Zp t c d= []
 rotate_left
 . have e2:(0:Int)<(Zp t c d).length:=by have:=List.length_pos_iff.2 e1;omega
   have f6:=I e1;clear e1;have a:=z.1;have s0:=zm (j:=0) a rfl;have s1:=zm (j:=1) a rfl;have s2:=zm (j:=2) a rfl;have s3:=zm (j:=3) a rfl;have s4:=zm (j:=4) a rfl;have s5:=zm (j:=5) a rfl;have s6:=zm (j:=6) a rfl;have H:=zQ (j:=0) a;have L:=zQ (j:=1) a;have M:=zQ (j:=2) a;have N:=zQ (j:=3) a;have P:=zQ (j:=4) a;have Q:=zQ (j:=5) a;have R:=zQ (j:=6) a;have sl:=Ag a;have S:=I (Pr [.slice none 0 0,.int .i64 0,.int .i64 0,.string ⟨#[]⟩,.string ⟨#[]⟩,.int .i64 0,.int .i64 0] [] [.slice none 0 0,.int .i64 0,.int .i64 0,.string ⟨#[]⟩,.string ⟨#[]⟩,.int .i64 0,.int .i64 0] _ rfl a);have T:=I (Tt (show w.heap.size<=lb by have:=a4.1;omega) [.slice none 0 0,.int .i64 0,.int .i64 0,.string ⟨#[]⟩,.string ⟨#[]⟩,.int .i64 0,.int .i64 0] 0 _ i.1);clear a;simp only[stN,Nat.zero_add,Nat.reduceAdd,List.length_nil]at S T;go_wp2_with fail;refine bP (Yi rfl rfl rfl S.1) rfl ⟨_,_,_,_,_,_,_,_,_,_,rfl,(by rw[BB,iN (not_not_intro E0.1),iN f6.1]),(λh=>by cases h),T.1⟩
 have E1:=I e1;rw[e1];clear e1;obtain⟨x0,x1,x2,U⟩:=Ev a5.1;obtain⟨H,L,M,N,P,Q,R,y7,y8,y9,n,o,q,r,yl⟩:=Ek a6.1;go_wp2_with fail;refine(Vy t c F s G x fa fc p _ f3.1 f4.1 (m.1.below i.1).f d da dc f5.1 (HD.1.below i.1)).mono ?_;rintro e w2 ⟨rfl,B2⟩;go_upto_region 7 with fail
 have B3:=Ab B2 (J w2 (oQ (Bm t c d).1 (Bm t c d).2));have a7:=zh w2 (oQ (Bm t c d).1 (Bm t c d).2);obtain⟨gb,a8⟩:∃gb,gb=w2.heap.size:=⟨_,rfl⟩;rw[<-a8]at a7;simp only[<-a8];clear a8;generalize w2.alloc (oQ (Bm t c d).1 (Bm t c d).2)=w3 at*;have B:=jS i B3;have a9:=jT a5 B3;have b0:=jT a6 B3;have c5:=jT z B3;have QS:=I a7;clear x0 x1 x2 U H L M N P Q R y7 y8 y9 n o q r yl B2 B3 a7 a5 a6 z i;obtain⟨x0,x1,x2,U⟩:=Ev a9.1;obtain⟨H,L,M,N,P,Q,R,y7,y8,y9,n,o,q,r,yl⟩:=Ek b0.1;go_wp2_with fail;refine(IP t c F s G x fa fc p _ l X (m.1.below B.1) d da dc Y (HD.1.below B.1)).mono ?_;rintro e w4 ⟨rfl,B4⟩;have C:=jS B B4;have b1:=jT a9 B4;have c6:=jT b0 B4;have c7:=jT c5 B4;have c8:=jT QS B4;clear x0 x1 x2 U H L M N P Q R y7 y8 y9 n o q r yl B4 a9 b0 c5 B QS;obtain⟨x0,x1,x2,U⟩:=Ev b1.1;obtain⟨H,L,M,N,P,Q,R,y7,y8,y9,n,o,q,r,yl⟩:=Ek c6.1;go_wp2_with fail;refine(IA t c F s G x fa fc p _ l X (m.1.below C.1) d da dc Y (HD.1.below C.1)).mono ?_;rintro e W ⟨rfl,B5⟩;have D:=jS C B5;have c9:=jT b1 B5;have d0:=jT c7 B5;have f7:=jT c8 B5;clear x0 x1 x2 U H L M N P Q R y7 y8 y9 n o q r yl B5 b1 c6 c7 C c8;go_wp2_with fail;obtain⟨db,b2,rfl,E,tc⟩:=Ok (HD.1.below D.1) (by omega);obtain⟨fb,fo,rfl,b3,b4⟩:=Qg (m.1.below D.1).f (by omega);obtain⟨V,f8⟩:∃V,d.length=V+1:=⟨d.length-1,by omega⟩;have c0:W.cell? (aD db b2)=some (.int .i64 (fstN d:Nat)):=by
  have:=(tc 0 (by omega)).1;rwa [b7,Nat.zero_mul,Nat.add_zero]at this
 have c1:W.cell? (aD db (b2+V*2))=some (.int .i64 (lstN d:Nat)):=by
  have:=(tc V (by omega)).1;rwa [show V=d.length-1 by omega,b9,show d.length-1=V by omega]at this
 have c2:=(b4 (fstN d) b8).1.2.1;have c3:=(b4 (lstN d) c4).1.2.2.1;have TK:=I tc;have i1:(fstN d:Int)<t.fs.length:=by omega
 have i2:(lstN d:Int)<t.fs.length:=by omega
 have i3:(V:Int)<d.length:=by omega
 have i4:(0:Int)<d.length:=by omega
 have el:IntKind.i64.wrap ((d.length:Int)-1)=(V:Int):=by rw[wI];omega
 have f9:0<d.length:=by omega
 obtain⟨i0,g2,g3,g4,g5⟩:=info_parts fF.info;have x2:=zC c9.1;have U:=Ag c9.1;obtain⟨g0,g1,_,_,gl⟩:=fT f7.1;clear tc b4 b7 b8 b9 c4 f8;refine' lK [⟨48, [],.kn _⟩,⟨49, [48],.ow (λv w'=>Hj W.heap.size v d w') (λ_ _ _=>Hj.call)⟩,⟨50, [],.kn _⟩,⟨51, [50],.kn _⟩,⟨52, [],.kn _⟩,⟨53, [52],.kn _⟩,⟨54, [],.kn _⟩,⟨55, [54],.kn _⟩,⟨56, [],.kn _⟩,⟨57, [56],.kn _⟩,⟨58, [57],.kn _⟩,⟨59, [58],.kn _⟩,⟨60, [55,59],.kn _⟩,⟨61, [60],.kn _⟩,⟨62, [61],.kn _⟩,⟨63, [],.kn _⟩,⟨64, [63],.kn _⟩,⟨65, [],.kn _⟩,⟨66, [],.kn _⟩,⟨67, [66],.kn _⟩,⟨68, [67],.kn _⟩,⟨69, [65,68],.kn _⟩,⟨70, [69],.kn _⟩,⟨71, [70],.kn _⟩,⟨72, [64,71],.kn _⟩,⟨73, [72],.kn _⟩,⟨74, [73],.kn _⟩,⟨75, [],.kn _⟩,⟨76, [],.kn _⟩,⟨77, [49,51,53,62,74,75,76],.ag [49,51,53,62,74,75,76]⟩] [2,3,10,11,13] [49,51,53,62,74,75,76,77] (λ_ h=>aI (aI (zD c0 E h) (aI (zD c1 E h) (aI (zD c2 b3 h) (zD c3 b3 h)))) (aI (aI (zD x2 U h) (aI (zD g0 gl h) (zD g1 gl h))) (aI (As E h.size) (aI (As b3 h.size) (aI (As U h.size) (As gl h.size)))))) ?h1 ?c1 ?f1
 case h1=>
  intro u;simp only[Df,Jm,↓reduceIte,Nat.reduceEqDiff];intros
  and_intros
  all_goals try (first|trivial|(intros;refine Fy (by assumption) ?_;go_simp <;> rfl))
  . intro A w1 e hb g f0 K k;have T1:=TK.1.below E hb;clear g;refine wp_append_lies _ _ _ 48 rfl W.heap.size 86 i0 (.agg #[.int .i64 0,.bool false]) 2 16 fF.ht g2 g3 g4 g5 rfl (by decide) (.slice none 0 0) 0 [] rfl (World.ownsRow_nil ..) (aD db b2) d.length dc (d.map Mz).flatten ((e.1 _).trans f0) (sD d) (EC T1) EG f9 (by unfold maxLen;omega) (by omega) hb.size w1.heap.size rfl ?_;intro g1 g8 w2 h1 h2 h3 h4;refine k.1 _ _ ⟨rW h2 rfl,?_⟩;simpa[Hj] using h1
  intro A w1 e hb g d1 g9 h0 h5 h6 h7 h8 K k;obtain⟨sa,sc,d1⟩:=Js d1;clear g;refine Fy k ?_;go_simp
 case c1=>kernel_rfl
 intro u w9 hb;simp only[Df,Hu,Jm,Act.put,O,↓reduceIte,Nat.reduceEqDiff];intro ow d2 d3 d4 d5 d6 d7 d8;obtain⟨sa,sc,b5⟩:=Js ow;rw[b5]at ow;rw[d8,b5,d2,d3,d4,d5,d6,d7];have a:=Ac hb d0.1;have h9:=I ow;have s0:=zm (j:=0) a rfl;have s1:=zm (j:=1) a rfl;have s2:=zm (j:=2) a rfl;have s3:=zm (j:=3) a rfl;have s4:=zm (j:=4) a rfl;have s5:=zm (j:=5) a rfl;have s6:=zm (j:=6) a rfl;have H:=zQ (j:=0) a;have L:=zQ (j:=1) a;have M:=zQ (j:=2) a;have N:=zQ (j:=3) a;have P:=zQ (j:=4) a;have Q:=zQ (j:=5) a;have R:=zQ (j:=6) a;have sl:=Ag a;have S:=I (Pr [.slice sa d.length sc,.int .i64 (Bm t c d).1,.int .i64 (Bm t c d).2,.string (Aa t.fs (fstN d)).fq,.string (Aa t.fs (lstN d)).to,.int .i64 (Wg t c d),.int .i64 (Xc t c d)] [] [.slice none 0 0,.int .i64 0,.int .i64 0,.string ⟨#[]⟩,.string ⟨#[]⟩,.int .i64 0,.int .i64 0] _ rfl a);have T:=I (Tt (show w.heap.size<=lb by have:=a4.1;omega) [.slice sa d.length sc,.int .i64 (Bm t c d).1,.int .i64 (Bm t c d).2,.string (Aa t.fs (fstN d)).fq,.string (Aa t.fs (lstN d)).to,.int .i64 (Wg t c d),.int .i64 (Xc t c d)] 0 _ (Ab D.1 hb));have d9:=I (Hj.sets (w:=w) (lo:=W.heap.size) (b:=lb) (show lb<W.heap.size from Ag d0.1) [.slice sa d.length sc,.int .i64 (Bm t c d).1,.int .i64 (Bm t c d).2,.string (Aa t.fs (fstN d)).fq,.string (Aa t.fs (lstN d)).to,.int .i64 (Wg t c d),.int .i64 (Xc t c d)] 0 ow);clear a ow b5 d2 d3 d4 d5 d6 d7 d8;simp only[stN,Nat.zero_add,Nat.reduceAdd,List.length_nil]at S T d9;go_simp;go_wp2_with fail;refine bP (Yi rfl rfl rfl S.1) rfl ?_;refine⟨_,_,_,_,_,_,_,_,_,_,rfl,(by rw[BB,iN (not_not_intro E0.1),iP E1.1]),λ_=>⟨⟨E0.1,E1.1,rfl,rfl,rfl,rfl,rfl,rfl⟩,rfl,?_⟩,T.1⟩;exact d9.1.base (by have:=D.1.size;omega)
end Go.Proofs.YtelojoopofolpaaGreat
