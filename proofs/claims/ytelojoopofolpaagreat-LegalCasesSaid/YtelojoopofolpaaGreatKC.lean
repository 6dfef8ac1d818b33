/- a part of the proof -/
import Derived.Test.YtelojoopofolpaaGreatKB
import Derived.Test.YtelojoopofolpaaGreatKA
import Derived.Test.YtelojoopofolpaaGreatH6
set_option linter.all false
set_option maxRecDepth 100000
set_option maxHeartbeats 3000000
namespace Go.Proofs.YtelojoopofolpaaGreat
open Go.RowKit Go.Sort Go.Proofs.Tryz
variable {d i lo n:Nat}{v:Value}{w:Wd}
theorem Kd.get{t:At}{c:Ad}(S:Kd t c lo v n w)(N:t.fs.length<=12)(p:i<n):∃(g vc:Nat) (f:Ae) (d:Ai) (h:Nat),v=sAa g 0 n vc/\g<w.heap.size/\w.cell? (aD g (i*7))=some (.slice f d.length h)/\d.length<=6/\Al Ei w f d:=by
 obtain⟨q,rfl,z,r⟩:=S;obtain⟨a,j,rfl,P,Q,A⟩:=Sw z;obtain⟨g,rfl,R,B,C⟩:=A.resolve_left (by omega);have b:∀c∈q,c.length=7:=λcs hcs=>by
  obtain⟨_,_,_,_,_,_,_,_,_,rfl,_⟩:=r cs hcs;rfl
 obtain⟨f,d,h,T,U,V,W,X,Y,e,D,E⟩:=r _ (gM p);have F:=(aR D.1).2.2;obtain⟨Z,G,H,-⟩:=Ka F;obtain⟨a',s,u,-,K⟩:=E.at λx hx=>by
  obtain⟨k,y,rfl⟩:=List.getElem_of_mem hx;have:=H k y;rw[show Cm d k=d[k] by simp[Cm,Cr,Cz y]]at this;obtain⟨m,L,M⟩:=Qh this;rw[L];exact cE (n:=12) ⟨by omega,by omega⟩ (by decide)
 simp only[Value.slice.injEq]at u;obtain⟨l,-,o⟩:=u;subst l o;refine⟨g,j,f,d,h,rfl,B,?_,G,K⟩;refine C _ _ ?_;have:=Zy q b i p 0 (by decide);rw[e]at this;simpa using this
theorem g_{P:Program}{ops:Array Oper}{Q:Exit->Act->Wd->Prop}{d:Act}{G:Wd->Prop}{o:Nat}(S:List Sp)(j f:List Nat)(p:∀w',Bw w w'->G w') 
 (H:∀u,Sx u d.tmps.toList (Sy P w S G u ops.pop.pop.pop.toList S) j) (c:(dG ops&&(dG ops.pop&&(dG ops.pop.pop&&dH ops.pop.pop.pop S j f d.tmps.size)))=true)
 (F:∀u w',Bw w w'->Ho w S u w' (Oper.wp P (Sv default ops.pop.pop.toList) (Gn u ops.pop.pop.pop.toList S d) w' (λa1 w1=>Oper.wp P (Sv default ops.pop.toList) a1 w1 (λa2 w2=>Oper.wp P (Sv default ops.toList) a2 w2 (Q .normal) Q) (Uz P ops Q)) (Uz P ops.pop (Uz P ops Q))) f) (q:P.follows .mixedOrders=true:=by kernel_rfl):(Code.region o ops true).wp P Q d w:=by
 simp only[Em]at c;have k:=rQ c.1;have a:=rQ c.2.1;have b:=rQ c.2.2.1;obtain⟨l,r⟩:=rR (ops:=ops.pop.pop.pop) (Q:=Uz P ops.pop.pop (Uz P ops.pop (Uz P ops Q))) S j f p H c.2.2.2 λu w' hb=>rV f (λh=>rT b (Oper.wp_mono (λ_ _ h=>rT a (Oper.wp_mono (λ_ _=>rT k) h)) h)) (F u w' hb);have m:∀i,i<ops.pop.pop.pop.size->(∀e∈Fn (Dn ops.pop.pop.pop i),e<i)/\(Dn ops.pop.pop.pop i).guard=none:=λi hi=>⟨(l i hi).lt,(l i hi).g⟩;have n:=DL b m;have s:=DL a n;exact wp_region_any q (rU k s (rU a n (rU b m r)))
theorem zzO{c:Ai}{a:Ae}{b:Nat}(q:w.heap[d]?=some (Obj.cells #[.slice a c.length b] 48))(e:Al Ei w a c)(f:c.length<=2^47):Al Ed w (some (aD d 0)) [c]:=by
 refine .inr ⟨d,0,rfl,Ag q,λi hi=>?_⟩;match i,hi with
 |0,_=>exact⟨[.slice a c.length b],λj hj=>(by obtain rfl:j=0:=(by simpa using hj);exact(zm (j:=0) q rfl)),⟨a,b,rfl,f,e⟩⟩
theorem zzL{f k:Ai}{b c:Ae}{e:Nat}(h:w.ownsRow lo 48 1 v 2 [.slice b f.length d,.slice c k.length e])(m:Al Ei w b f)(n:Al Ei w c k)(o:f.length<=2^47)(p:k.length<=2^47):∃la lc,v=.slice la 2 lc/\Al Ed w la [f,k]:=by
 obtain⟨a,q,rfl,t,u,r⟩:=Sw h;obtain⟨g,rfl,x,s,l⟩:=r.resolve_left (by omega);refine⟨_,_,rfl,.inr ⟨g,0,rfl,s,λi hi=>?_⟩⟩;match i,hi with
 |0,_=>exact⟨[.slice b f.length d],λj hj=>(by obtain rfl:j=0:=(by simpa using hj);exact l 0 _ rfl),⟨b,d,rfl,o,m⟩⟩
 |1,_=>exact⟨[.slice c k.length e],λj hj=>(by obtain rfl:j=0:=(by simpa using hj);exact l 1 _ rfl),⟨c,e,rfl,p,n⟩⟩
theorem zzN{a:Nat}{u:Value}{xs:LV}{k:Array Value}(h:w.ownsRow lo 48 1 v n xs)(q:w.heap[a]?=some (.cells k 53 (0,0))):(w.setCell (aD a i) u).ownsRow lo 48 1 v n xs:=by
 refine⟨h.1,?_⟩;rcases h.2 with h|⟨g,b,c,rfl,d,j,l⟩;exact .inl h;have f:g≠a:=λe=>by
  subst e;rw[j]at q;simp at q
 exact .inr ⟨g,b,c,rfl,d,(Below.heap_setCell w (aD a i) u g f).trans j,l⟩
theorem zzK:(prog.info? 48).map (λi=>(i.zero,i.size,i.bytes))=some (some sNa,1,24):=by kernel_rfl
theorem zzG(ls:LI)(ix:Int)(a:Ae)(cap:Nat)(w:Wd)(hl:ls.length<=140737488355328)(hz:Al RT.int w a ls):CV 4 #[.slice a ls.length cap,ix] w (.bool true):=by
 delta CV;go_in;go_wp2_with fail;refine(ZO ls a cap w hz hl).mono ?_;rintro e X ⟨zb,ab,ea,n,fc,c,p,bv,ol,oa,oc,rfl,d6,⟨fl,b2,N,d7,d8⟩,Y,a6,d9,f5,m7,B1⟩;obtain⟨t,R,S,T,U,V,hN,f9,C,g0⟩:∃(t:At) (R:Ae) (S:Nat) (T:Ae) (U:Nat) (V:Ae),t.fs.length<=7/\(#[.slice (some (aD zb 0)) 3 3,.slice (some (aD ab 0)) 3 3,.slice ea n fc]:Array Value)=#[.slice R t.zn.length S,.slice T t.ai.length U,.slice V t.fs.length fc]/\(t.zn.length<=S/\S<=140737488355328/\t.ai.length<=U/\U<=140737488355328)/\Ea X t c R T V p:=
  ⟨⟨bO,bX,fl⟩,some (aD zb 0),3,some (aD ab 0),3,ea,by rw[b2];exact d6,by rw[<-b2];rfl,⟨Jr rfl,by decide,Jr rfl,by decide⟩,⟨N,d7,d8,a6⟩⟩
 rw[f9];unfold Wb;have P:=I g0;have g1:=I d9;have g2:=I f5;have g3:=I B1;clear f9 g0 d9 f5 B1 N d7 d8 a6 b2 d6 hz;go_upto_region 2 with fail;obtain⟨hB,b3,b4⟩:=Uy X t c R S T U V fc p;obtain⟨tb,b5⟩:=xSa X.heap.size;obtain⟨cb,b6⟩:=xSa (X.heap.size+1);rw[<-b6]at b4;rw[<-b5]at b3;simp only[<-b6];simp only[<-b5];have HB:=I hB;have QT:=I b3;have QC:=I b4;clear b6 b5 hB b3 b4;generalize (X.alloc (Ap t R S T U V fc)).alloc (Aj c p)=W at*;obtain⟨y0,y1,y2,y3,y4,y5,y6,y7,y8,y9,b7,b8,b9,c0,yl⟩:=Ek QC.1;go_upto_region 3 with fail;have E:=zh W (Aj c p);have a7:=zd (o':=Aj c p) QT.1;have a8:=zd (o':=Aj c p) QC.1;have g4:=Ab HB.1 (J W (Aj c p));have c1:=HB.1.size;have c2:=Ag QT.1;have c3:=Ag QC.1;obtain⟨bb,c4⟩:=xSa W.heap.size;rw[<-c4]at E c1 c2 c3;simp only[<-c4];generalize W.alloc (Aj c p)=W3 at*;clear c4 y0 y1 y2 y3 y4 y5 y6 y7 y8 y9 b7 b8 b9 c0 yl;have z8:=(zm (j:=8) E rfl);have f8:=FA E;have zl:=Ag E;go_upto_region 4 with fail;clear z8 f8 zl;have F:=I (g4.setCell (p:=aD bb 8) c1 (.slice none 0 0));have c5:=I ((Below.heap_setCell W3 (aD bb 8) (.slice none 0 0) tb (Nat.ne_of_lt c2)).trans a7);have g5:=I ((Below.heap_setCell W3 (aD bb 8) (.slice none 0 0) cb (Nat.ne_of_lt c3)).trans a8);have d:=P.1.below F.1;have g6:=zg (i:=8) (u:=.slice none 0 0) E;generalize W3.setCell (aD bb 8) (.slice none 0 0)=W4 at*;obtain⟨c',p',hq,g7,g8⟩:∃(c':Ad) (p':Bd),W4.heap[bb]?=some (Aj c' p')/\Ea W4 t c' R T V p'/\c'.cs.length<=p'.cc/\p'.cc<=9223372036854775807:=
  ⟨⟨c.rp,c.rl,c.cn,c.sit,c.lv,c.nf,c.nt,c.cs, [],c.ks,c.xs,c.ls,c.oz,c.gu⟩,⟨p.ca,p.cc,none,0,p.ka,p.kc,p.xa,p.xc,p.la,p.lc,p.oa,p.oc⟩,g6,⟨d.z,d.a,d.f,⟨d.c.cs,⟨Bg _,.inl rfl⟩,d.c.ks,d.c.xs,d.c.creditN,d.c.creditF,d.c.ls,d.c.oz⟩⟩,Y⟩
 have QB:=I hq;have a9:=I g7;clear g6 hq g7 d E a7 a8 g4 c1 c2 c3 HB QT QC;obtain⟨q0,q1,q2,ql⟩:=Ev c5.1;obtain⟨y0,y1,y2,y3,y4,y5,y6,y7,y8,y9,b7,b8,b9,c0,yl⟩:=Ek QB.1;go_wp2_with fail;refine(YT t c' R S T U V fc p' W4 C g8 a9.1 (by omega) ol oa oc (g2.1.below F.1) (by omega) 1 (by decide)).mono ?_;rintro e w2 ⟨v,q,lo,er,rfl,n4,c8,-,B2⟩;have g9:=I c8;have Z:=jS g3 (Ab F.1 B2);have l:=I (P.1.below (Ab F.1 B2));have h4:=I (g1.1.below (Ab F.1 B2));have k5:=jT c5 B2;have k6:=jT g5 B2;obtain⟨va,vc,rfl⟩:∃va vc,v=.slice va q vc:=by
  obtain⟨LL,h1,h2,h3⟩:=c8;exact Js h2
 clear q0 q1 q2 ql y0 y1 y2 y3 y4 y5 y6 y7 y8 y9 b7 b8 b9 c0 yl c8 B2 P g1 g3 g2 c5 g5 QB a9 F;cases e0:(er !=0);rotate_left
 . go_wp2_with fail;refine(G_ _).mono ?_;rintro e w3 ⟨rfl,B3⟩;go_wp2;go_ret;exact⟨rfl,Ab Z.1 B3⟩
 by_cases h0:q=0
 . have h1:((q:Int)==0)=true:=by simp[h0]
   clear h0;go_wp2_with fail;refine(G_ _).mono ?_;rintro e w3 ⟨rfl,B3⟩;go_wp2;go_ret;exact⟨rfl,Ab Z.1 B3⟩
 have h1:((q:Int)==0)=false:=by simpa using h0
 have h2:¬ (q:Int)=0:=by omega
 obtain⟨r,hr,G⟩:=sC ix;obtain⟨i,c9⟩:=xSa (r%q);have t1:(r:Int).tmod q=i:=by rw[c9];rfl
 have k7:i<q:=by rw[c9];exact Nat.mod_lt _ (by omega)
 clear c9;go_wp2_with fail;clear t1 G hr;go_loopw [13] (λiv wr=>∃k:Nat,k<=q/\iv=.int .i64 k/\Af (Bw w2 wr)) (λiv _=>q-(intOf iv).toNat);exact⟨0,Bg _,rfl,I (An _ _)⟩;obtain⟨k,hk,rfl,BW⟩:=hrel;obtain⟨wk,k8⟩:∃v:Wd,v=wr:=⟨_,rfl⟩;subst k8;by_cases k9:k<q/\k<10;rotate_left
 . by_cases l0:k<q
   . have b0:(k:Int)<q:=by omega
     have l2:¬ (k:Int)<10:=by omega
     go_wp2_with fail;refine(G_ _).mono ?_;rintro e w3 ⟨rfl,B3⟩;go_wp2;go_ret;exact⟨rfl,Ab Z.1 (Ab BW.1 B3)⟩
   have b0:¬ (k:Int)<q:=by omega
   go_wp2_with fail;refine(G_ _).mono ?_;rintro e w3 ⟨rfl,B3⟩;go_wp2;go_ret;exact⟨rfl,Ab Z.1 (Ab BW.1 B3)⟩
 obtain⟨l0,l2⟩:=k9;have b0:(k:Int)<q:=by omega
 have m8:(k:Int)<10:=by omega
 obtain⟨m,hm⟩:=xSa (i+k);obtain⟨j,d0⟩:=xSa (m%q);have ew:IntKind.i64.wrap ((i:Int)+k)=(m:Int):=by rw[wI];omega
 have t2:(m:Int).tmod q=j:=by rw[d0];rfl
 have l3:j<q:=by rw[d0];exact Nat.mod_lt _ (by omega)
 obtain⟨b,h5⟩:=xSa (k%2);have t3:(k:Int).tmod 2=b:=by rw[h5];rfl
 have l4:b<2:=by omega
 clear d0 h5 hm;obtain⟨gb,l5,Q,h8⟩:=h4.1;subst l5;obtain⟨s,h9,b1⟩:=h8 b l4;obtain⟨lg,n5,a0,d1,a1,e1,D,i1,n6,i2⟩:=g9.1.get (by omega) k7;obtain⟨l6,m9,a2,d2,a3,e2,-,i3,n7,i4⟩:=g9.1.get (by omega) l3;simp only[Value.slice.injEq]at e1 e2;obtain⟨i5,-,l7⟩:=e1;obtain⟨d3,-,l8⟩:=e2;rw[i5]at d3;obtain rfl:lg=l6:=by simpa using d3
 clear d3 l8;subst i5 l7;have n0:(b:Int)<2:=by omega
 have n1:(i:Int)<q:=by omega
 have n3:(j:Int)<q:=by omega
 have FW:=I (λw' (h:Bw w2 w')=>aI (aI (Ac h k5.1) (Ac h k6.1)) (aI (zD h9 Q h) (aI (zD i1 D h) (aI (zD i3 D h) (aI (As Q h.size) (As D h.size))))));have d4:=I i2;have d5:=I i4;have l9:=I b1;clear h9 i1 i3 i2 i4 Q D h8 b1;obtain⟨-,sc,l1,-,n8,n9⟩:=FW.1 _ BW.1;go_wp2_with fail;refine' Wi [⟨61, [],.kn _⟩,⟨62, [],.kn _⟩,⟨63, [62],.kn _⟩,⟨64, [61,63],.kn _⟩,⟨65, [64],.kn _⟩,⟨66, [],.kn _⟩,⟨67, [],.kn _⟩,⟨68, [66,67],.kn _⟩,⟨69, [68],.kn _⟩,⟨70, [69],.kn _⟩,⟨71, [70],.bs 1 1 (.cells #[.slice a0 d1.length a1] 48)⟩,⟨72, [65,71],.ag [65,71]⟩,⟨15, [],.bx (.cells #[.string ⟨#[]⟩,.slice none 0 0] 53)⟩] [7,10,12,13] [65,71,72,15] (λ_ h=>(FW.1 _ (Ab BW.1 h))) ?h6 ?c6 ?f6
 case h6=>
  intro u;simp only[Df,Jm,↓reduceIte,Nat.reduceEqDiff];intros;and_intros
  all_goals try (first|trivial|(intros;refine Fy (by assumption) ?_;go_simp <;> rfl))
  intro A X e G g f0 K k;go_simp;exact k.1 _ _ ⟨J _ _,rfl,zh _ _⟩;rintro A X e G g f1 ⟨M,f2,f3,f4⟩ K k;clear g;refine Fy k ?_;go_simp;intro A X e G g K k;go_simp;exact k.1 _ _ ⟨J _ _,rfl,zh _ _⟩
 case c6=>kernel_rfl
 intro u wn G;simp only[Df,Hu,Jm,Act.put,O,↓reduceIte,Nat.reduceEqDiff];rintro i6 ⟨M,i7,i8,H⟩ i9 ⟨B,j0,a4,x⟩;rw[i9,i6,i7,j0];have a5:M≠B:=λe=>by
  subst e;rw[H]at x;simp at x
 have y0:=zm (j:=0) x rfl;have y1:=zm (j:=1) x rfl;have v0:=FA x;have yl:=Ag x;have QP:=I (show((wn.setCell (aD B 0) (.string s)).setCell (aD B 1) (.slice (some (aD M 0)) 1 1)).heap[B]?=some (oP s (some (aD M 0)) 1 1) from zg (i:=1) (zg (i:=0) x));have QD:=I (show((wn.setCell (aD B 0) (.string s)).setCell (aD B 1) (.slice (some (aD M 0)) 1 1)).heap[M]?=some (Obj.cells #[.slice a0 d1.length a1] 48) from(Below.heap_setCell _ (aD B 1) _ M a5).trans ((Below.heap_setCell _ (aD B 0) _ M a5).trans H));have BB:=I (show Bw wk ((wn.setCell (aD B 0) (.string s)).setCell (aD B 1) (.slice (some (aD M 0)) 1 1)) from(G.setCell (p:=aD B 0) a4 _).setCell (p:=aD B 1) a4 _);have PB:=I (Bf BW.1.size i8);have XB:=I (Bf BW.1.size a4);have m0:=I a5;clear i6 i7 i9 j0 H x G a5 i8 a4;go_upto_region 13 with fail;clear y0 y1 v0 yl;generalize ((wn.setCell (aD B 0) (.string s)).setCell (aD B 1) (.slice (some (aD M 0)) 1 1))=wp at*;have BP:=jS BW BB.1;clear BB;go_upto_if 74 with(fail);go_cut [] (λo=>∃(L:List Ai) (la:Ae) (lc:Nat),L.length<=2/\Af (o.heap[B]?=some (oP s la L.length lc))/\Af (Al Ed o la L)/\Af (Bw w2 o))
 case first=>
  by_cases j1:k=0
  . subst j1;go_wp2;go_meet;exact⟨[d1],_,1,by simp,QP,I (zzO QD.1 (d4.1.below BP.1) (by omega)),BP⟩
  have hp:decide ((0:Int)<(k:Int))=true:=decide_eq_true (by omega);have o0:(0:Int)<(k:Int):=by omega
  have o3:decide (0<k)=true:=decide_eq_true (by omega);have o4:0<k:=by omega
  have y1:=(zm (j:=1) QP.1 rfl);have yl:=Ag QP.1;obtain⟨-,-,-,m1,-,ml⟩:=FW.1 _ BP.1;clear j1;go_wp2_with fail;refine' g_ [⟨75, [],.kn _⟩,⟨76, [75],.kn _⟩,⟨77, [],.kn _⟩,⟨78, [],.kn _⟩,⟨79, [77,78],.kn _⟩,⟨80, [79],.kn _⟩,⟨81, [80],.kn _⟩,⟨82, [81],.bs 1 1 (.cells #[.slice a2 d2.length a3] 48)⟩] [10,14,15] [76,82] (λ_ h=>(aI (zD y1 yl h) (aI (zD m1 ml h) (As ml h.size)))) ?h7 ?c7 ?f7
  case h7=>
   intro u;simp only[Df,Jm,↓reduceIte,Nat.reduceEqDiff];intros;and_intros
   all_goals try (first|trivial|(intros;refine Fy (by assumption) ?_;go_simp <;> rfl))
   intro A X e G g f0 K k;go_simp;exact k.1 _ _ ⟨J _ _,rfl,zh _ _⟩
  case c7=>kernel_rfl
  intro u wn G;simp only[Df,Hu,Jm,Act.put,O,↓reduceIte,Nat.reduceEqDiff];rintro j2 ⟨qb,j3,H,j4⟩;rw[j2,j3];have j5:=jT QP G;have j6:=Ac G QD.1;have Bn:=jS BP G;have j7:=Bf BP.1.size H;obtain⟨i0,hi,j8,N,j9⟩:=info_parts zzK;clear j2 j3 H G y1 yl m1 ml;refine t_ (Operand.tmp 76) (Operand.tmp 82) 51 rfl w2.heap.size 48 i0 (.slice none 0 0) 1 24 underlying51 hi j8 N j9 rfl (by decide) (.slice (some (aD M 0)) 1 1) 1 [.slice a0 d1.length a1] rfl ⟨rfl,.inr ⟨M,1,_,rfl,PB.1,j6,by decide,by decide,rfl,rfl⟩⟩ (.slice (some (aD qb 0)) 1 1) 1 [.slice a2 d2.length a3] w2.heap.size rfl ⟨rfl,.inr ⟨qb,1,_,rfl,j7,j4,by decide,by decide,rfl,rfl⟩⟩ (λu hu=>by simp at hu;subst hu;rfl) (by decide) (by decide) Bn.1.size λv' w' o1 o2=>?_;have B5:=Bn.1.grown o2 Bn.1.size (λj hj=>by cases hj;exact PB.1);have Q5:=(o2.block B (Ag j5.1) (by simp[Value.ownBlock];exact λe=>m0.1 e.symm)).trans j5.1;have Q6:=zzN (i:=1) (u:=v') o1 Q5;have Q7:=zg (i:=1) (u:=v') Q5;have B6:=B5.setCell (p:=aD B 1) XB.1 v';obtain⟨la,lc,rfl,S6⟩:=zzL Q6 (d4.1.below B6) (d5.1.below B6) (by omega) (by omega);have z1:=(zm (j:=1) Q5 rfl);have zf:=FA Q5;have zl:=Ag Q5;have m2:=I Q7;have m3:=I B6;have m4:=I S6;clear j7 j4 j6 hi j8 N j9 o1 o2 B5 Q5 Q6 Q7 B6 S6;go_simp;go_wp2;go_meet;exact⟨[d1,d2],la,lc,by simp,I (show _=some (oP s la 2 lc) from m2.1),m4,m3⟩
 obtain⟨L,la,lc,hL,QX,SX,y⟩:=hcut;obtain⟨o,m5⟩:∃v:Wd,v=wc:=⟨_,rfl⟩;subst m5;obtain⟨⟨qt,qc⟩,m6,k0,k1,k2,k3⟩:=FW.1 _ y.1;have C1:=I (λdd os=>Fa (zzF t c s L R S T U V fc p la lc (grow (redrawn o dd) os) ⟨C,by omega⟩ (l.1.below (Ab y.1 (bR o dd os))).z (l.1.below (Ab y.1 (bR o dd os))).a (l.1.below (Ab y.1 (bR o dd os))).f Y (l.1.below (Ab y.1 (bR o dd os))).c (Bf l9.1 (by decide)) (by omega) (SX.1.below (bR o dd os))));have C2:=I (λdd os=>Fa (zzH t c d2 R S T U V fc p a2 a3 (grow (redrawn o dd) os) ⟨C,by omega⟩ (l.1.below (Ab y.1 (bR o dd os))).z (l.1.below (Ab y.1 (bR o dd os))).a (l.1.below (Ab y.1 (bR o dd os))).f Y (l.1.below (Ab y.1 (bR o dd os))).c (by omega) (d5.1.below (Ab y.1 (bR o dd os)))));have C3:=I (λdd os=>Fa (zzJ t c s d1 d2 R S T U V fc p a0 a1 a2 a3 (grow (redrawn o dd) os) ⟨C,by omega⟩ (l.1.below (Ab y.1 (bR o dd os))).z (l.1.below (Ab y.1 (bR o dd os))).a (l.1.below (Ab y.1 (bR o dd os))).f Y (l.1.below (Ab y.1 (bR o dd os))).c (by omega) (d4.1.below (Ab y.1 (bR o dd os))) (by omega) (d5.1.below (Ab y.1 (bR o dd os)))));have r0:=rQa qt;have r1:=rQa qc;have r2:=rQa QX.1;clear qt qc m6 k2 k3;go_wp2_with fail;have r3:=cR k0;have r4:=cR k1;refine wRa ?_;repeat (first|go_big_quiet_step (with_reducible first|exact C1.1 _ _|exact C2.1 _ _|exact C3.1 _ _)|quiet_step (with_reducible first|exact C1.1 _ _|exact C2.1 _ _|exact C3.1 _ _))
 refine wpQuiet_nil ?_;intro _ hq;obtain⟨⟨dq,k4⟩,e9⟩:=hq;subst e9;have BW:=jS y (bR o dq k4);clear r0 r1 r2 r3 r4 k0 k1 C1 C2 C3 QX SX y;generalize grow (redrawn o dq) k4=w9 at*;go_wp2;go_roundw;exact⟨k+1,by omega,by go_num,BW⟩;simp[intOf];omega
end Go.Proofs.YtelojoopofolpaaGreat
