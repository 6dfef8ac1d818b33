/- a part of the proof -/
import Derived.Test.YtbhhejkolnigfaaGreatGU
set_option linter.unusedVariables false
set_option linter.unusedSimpArgs false
set_option maxRecDepth 100000
set_option maxHeartbeats 51200000
namespace Go.Proofs.YtbhhejkolnigfaaGreat
open Go.RowKit Go.Sort Go.Proofs.Tryz
def exG:zaw:=⟨⟨#[88,49]⟩,⟨#[65,65,65]⟩,⟨#[66,66,66]⟩,10560,10740,⟨#[98,55,51,55]⟩,0,0,0⟩
def exT1:TTM:=⟨zhM,zlk, [exG]⟩
def exSpan:ByteArray:=⟨#[115,112,97,110]⟩
def zmp:ByteArray:=⟨#[115,104,111,114,116]⟩
def exE1:zH:=.mk 6 0 exSpan []
def exE2:zH:=.mk 2 240 ByteArray.empty []
def exX:zH:=.mk 17 0 ByteArray.empty [exE1,exE2]
def exK:zH:=.mk 1 7 ByteArray.empty []
def exR:ConM:=⟨60,30,0,1440,0,0,0, [], [⟨1,zmp,exX⟩], [⟨1,exK⟩], [], [], [],0⟩
def exD1:Duty:= [(0,false)]
theorem zs8:zY exT1=0:=by decide+kernel
theorem exR_ok:valT exR=0:=by decide+kernel
theorem ztc:za6 exT1 exR exD1=0:=by decide+kernel
theorem exV1:zaZ exT1 exR exD1= [1,0,1,180,270,0,0,1440,60,420,750]:=by decide+kernel
theorem zrI:dErr exT1 exR exD1=0:=by rw[zlq zs8 exR_ok];exact ztc
theorem exB1:brkV exR 1 [1,0,1,180,270,0,0,1440,60,420,750]= [zmp]:=by decide+kernel
theorem exC1:zoy exR 1 [1,0,1,180,270,0,0,1440,60,420,750]=7:=by decide+kernel
abbrev oF16:Obj:=.cells #[.string ⟨#[88,49]⟩,.string ⟨#[65,65,65]⟩,.string ⟨#[66,66,66]⟩,.int .i64 10560,.int .i64 10740,.string ⟨#[98,55,51,55]⟩,.int .i64 0,.int .i64 0,.int .i64 0] 82
abbrev oE16:Obj:=.cells #[.int .i64 6,.int .i64 0,.string ⟨#[115,112,97,110]⟩,.slice none 0 0,.int .i64 2,.int .i64 240,.string ⟨#[]⟩,.slice none 0 0] 86
abbrev oX16(eb:Nat):Obj:=.cells #[.int .i64 17,.int .i64 0,.string ⟨#[]⟩,.slice (some ⟨eb,0,none⟩) 2 2] 86
abbrev oR16(eb:Nat):Obj:=.cells #[.int .i64 1,.string ⟨#[115,104,111,114,116]⟩,.int .i64 17,.int .i64 0,.string ⟨#[]⟩,.slice (some ⟨eb,0,none⟩) 2 2] 88
abbrev oK16:Obj:=.cells #[.int .i64 1,.int .i64 1,.int .i64 7,.string ⟨#[]⟩,.slice none 0 0] 90
abbrev oC16(rb:Nat)(kb:Nat):Obj:=.cells #[.int .i64 60,.int .i64 30,.int .i64 0,.int .i64 1440,.int .i64 0,.int .i64 0,.int .i64 0,.slice none 0 0,.slice (some ⟨rb,0,none⟩) 1 1,.slice (some ⟨kb,0,none⟩) 1 1,.slice none 0 0,.slice none 0 0,.slice none 0 0,.int .i64 0] 34
theorem zba{w:World}{a:Nat}(q:w.heap[a]?=some oF16):w.cell? ⟨a,0,none⟩=some (.string ⟨#[88,49]⟩)/\w.cell? ⟨a,1,none⟩=some (.string ⟨#[65,65,65]⟩)/\w.cell? ⟨a,2,none⟩=some (.string ⟨#[66,66,66]⟩)/\w.cell? ⟨a,3,none⟩=some (.int .i64 10560)/\w.cell? ⟨a,4,none⟩=some (.int .i64 10740)/\w.cell? ⟨a,5,none⟩=some (.string ⟨#[98,55,51,55]⟩)/\w.cell? ⟨a,6,none⟩=some (.int .i64 0)/\w.cell? ⟨a,7,none⟩=some (.int .i64 0)/\w.cell? ⟨a,8,none⟩=some (.int .i64 0):=
 ⟨zm (j:=0) q rfl,zm (j:=1) q rfl,zm (j:=2) q rfl,zm (j:=3) q rfl,zm (j:=4) q rfl,zm (j:=5) q rfl,zm (j:=6) q rfl,zm (j:=7) q rfl,zm (j:=8) q rfl⟩
theorem zgG{g w:World}{l m n h o p d:Nat}(a b c:Value)(f:zcO w l m n)(q:zem w h)(r:w.heap[o]?=some oF16)(s:w.heap[p]?=some oF16)(e:w.heap[d]?=some (.cells #[.slice none 0 0,.slice none 0 0,.slice none 0 0] 26 (0,0)))(t:Bw g w)(u:g.heap.size<=d):
 zcO (((w.setCell ⟨d,0,none⟩ a).setCell ⟨d,1,none⟩ b).setCell ⟨d,2,none⟩ c) l m n/\zem (((w.setCell ⟨d,0,none⟩ a).setCell ⟨d,1,none⟩ b).setCell ⟨d,2,none⟩ c) h/\(((w.setCell ⟨d,0,none⟩ a).setCell ⟨d,1,none⟩ b).setCell ⟨d,2,none⟩ c).heap[o]?=some oF16/\(((w.setCell ⟨d,0,none⟩ a).setCell ⟨d,1,none⟩ b).setCell ⟨d,2,none⟩ c).heap[p]?=some oF16/\(((w.setCell ⟨d,0,none⟩ a).setCell ⟨d,1,none⟩ b).setCell ⟨d,2,none⟩ c).heap[d]?=some (.cells #[a,b,c] 26 (0,0))/\Bw g (((w.setCell ⟨d,0,none⟩ a).setCell ⟨d,1,none⟩ b).setCell ⟨d,2,none⟩ c):=by
 have i:=neb f.q0 e (by decide);have j:=neb f.q1 e (by decide);have k:=neb f.q2 e (by decide);have v:=neb (show w.heap[h]?=some _ from q) e (by decide);have x:=neb r e (by decide);have y:=neb s e (by decide);exact⟨⟨zcF f.q0 i 0 1 2 a b c,zcF f.q1 j 0 1 2 a b c,zcF f.q2 k 0 1 2 a b c⟩,zcF q v 0 1 2 a b c,zcF r x 0 1 2 a b c,zcF s y 0 1 2 a b c,zm2 (.slice none 0 0) (.slice none 0 0) (.slice none 0 0) a b c e,ziI u a b c t⟩
theorem zs5{w:World}{b:Nat}(h:w.heap[b]?=some oF16):SlAt zam w (some ⟨b,0,none⟩) [exG]:=by
 refine SlAt.of_block h _ (λi hi=>?_);rcases i with _|i
 . exact⟨[.string ⟨#[88,49]⟩,.string ⟨#[65,65,65]⟩,.string ⟨#[66,66,66]⟩,.int .i64 10560,.int .i64 10740,.string ⟨#[98,55,51,55]⟩,.int .i64 0,.int .i64 0,.int .i64 0],λj hj=>by rcases j with _|_|_|_|_|_|_|_|_|j <;> first|rfl|(simp at hj;omega),rfl,⟨zt7 rfl,zt7 rfl,zt7 rfl,zt7 rfl⟩,rfl,rfl⟩
 simp at hi
theorem ztb{w:World}{b:Nat}(h:w.heap[b]?=some (.cells #[.int .i64 0,.bool false] 65 (0,0))):SlAt za3 w (some ⟨b,0,none⟩) exD1:=by
 refine SlAt.of_block h exD1 (λi hi=>?_);rcases i with _|i
 . exact⟨[.int .i64 0,.bool false],λj hj=>by rcases j with _|_|j <;> first|rfl|(simp at hj;omega), [_], [_],rfl,⟨rfl,rfl⟩,rfl⟩
 simp[exD1]at hi
def exQ(rb kb:Nat):ConP:=⟨none,0,some ⟨rb,0,none⟩,1,some ⟨kb,0,none⟩,1,none,0,none,0,none,0⟩
theorem exR_at{w:World}{B d f g:Nat}(b:w.heap[d]?=some oE16)(c:w.heap[f]?=some (oR16 d))(e:w.heap[g]?=some oK16)(k:d<B)(l:f<B)(m:g<B):zdr B w exR (exQ f g) where
 consts:=⟨by simp[exR],.inl rfl⟩
 rules:=by
  refine⟨by simp[exR],.inr ⟨f,0,rfl,l,λi hi=>?_⟩⟩;obtain rfl:i=0:=by simp[exR]at hi;omega
  refine⟨zm (j:=0) c rfl,zm (j:=1) c rfl,zt7 rfl,rfl,some ⟨d,0,none⟩,2,⟨zm (j:=2) c rfl,zm (j:=3) c rfl,zm (j:=4) c rfl,zm (j:=5) c rfl⟩,⟨zt7 rfl,zt7 rfl,rfl,rfl⟩,d,0,λ_=>rfl,?_⟩;exact .cons (b':=0) (off':=0) (a:=none) (cap:=0) k (zm (j:=0) b rfl) (zm (j:=1) b rfl) (zm (j:=2) b rfl) (zm (j:=3) b rfl) (zt7 rfl) (zt7 rfl) rfl rfl (λh=>absurd rfl h) (.nil _ _)
   (.cons (b':=0) (off':=0) (a:=none) (cap:=0) k (zm (j:=4) b rfl) (zm (j:=5) b rfl) (zm (j:=6) b rfl) (zm (j:=7) b rfl) (zt7 rfl) (zt7 rfl) rfl rfl (λh=>absurd rfl h) (.nil _ _) (.nil _ _))
 costs:=by
  refine⟨by simp[exR],.inr ⟨g,0,rfl,m,λi hi=>?_⟩⟩;obtain rfl:i=0:=by simp[exR]at hi;omega
  exact⟨zm (j:=0) e rfl,rfl,none,0,⟨zm (j:=1) e rfl,zm (j:=2) e rfl,zm (j:=3) e rfl,zm (j:=4) e rfl⟩,⟨zt7 rfl,zt7 rfl,rfl,rfl⟩,0,0,λh=>absurd rfl h,.nil _ _⟩
 credit:=by
  show zaz B w none []
  exact⟨0,0,λh=>absurd rfl h,.nil _ _⟩
 creditN:=by simp[exR]
 creditF:=λx hx=>by simp[exR]at hx
 lims:=⟨by simp[exR],.inl rfl⟩
 offs:=⟨by simp[exR],.inl rfl⟩
theorem exDV:zjU exT1 exR exD1= [(1,0,zmp)]:=by rw[zg2 zrI,exV1,exB1];rfl
theorem exDC:zmr exT1 exR exD1=7:=by rw[zjY zrI,exV1,exC1]
theorem zfp(w:World):Calls prog 14 #[] w λe w'=>e=.returned (.bool true)/\Bw w w':=by
 go_enter func14,ntmps14
 go_upto_region 2 with fail
 have n:=I (zh w oF16);have q:=I (J w oF16);obtain⟨fb,r⟩:∃fb,fb=w.heap.size:=⟨_,rfl⟩;rw[<-r]at n;simp only[<-r];clear r;generalize w.alloc oF16=W at*;refine' zw6 [⟨11, [],.ow (λv w'=>∃s1 s2 l,v=.slice (some ⟨l,0,none⟩) 3 3/\zcO w' s1 s2 l) (λ_ _ _ ⟨a,b,c,e,h⟩ h'=>⟨a,b,c,e,h.keep (λ_ _ _ h=>zA h' h)⟩)⟩,⟨12, [],.ow (λv w'=>∃m,v=.slice (some ⟨m,0,none⟩) 3 3/\zem w' m) (λ_ _ _ ⟨a,e,h⟩ h'=>⟨a,e,zA h' h⟩)⟩,⟨13, [],.kn _⟩,⟨14, [13],.bs 1 1 oF16⟩,⟨15, [11,12,14],.ag [11,12,14]⟩,⟨2, [],.bx jK⟩] [1] [11,12,14,15,2] (λ_ h=>zba (zA h n.1)) ?h1 ?c1 ?f1
 case h1=>
  intro u;simp only[rlE,rlL,↓reduceIte,Nat.reduceEqDiff];intros
  refine⟨?_,?_,?_,?_,?_,?_,trivial⟩
  all_goals try (intros;refine rlK (by assumption) ?_;go_simp <;> rfl)
  . intro A G e p g K k;go_simp;refine(zdN G).mono ?_;rintro e' w3 ⟨s1,s2,l,rfl,_,h1,h2⟩;exact k.1 _ _ ⟨h2,s1,s2,l,rfl,h1⟩
  . intro A G e p g K k;go_simp;refine(zaQ G).mono ?_;rintro e' w3 ⟨m,rfl,_,h1,h2⟩;exact k.1 _ _ ⟨h2,m,rfl,h1⟩
  . intro A G e p g q1 K k;go_simp;exact k.1 _ _ ⟨J _ _,rfl,zh _ _⟩
  . intro A G e p g q1 q2 q3 K k;obtain⟨_,_,_,s,_⟩:=q1;obtain⟨_,t,_⟩:=q2;obtain⟨_,x,_⟩:=q3;refine rlK k ?_;go_simp
  intro A G e p g K k;go_simp;exact k.1 _ _ ⟨J _ _,rfl,zh _ _⟩
 case c1=>kernel_rfl
 intro u d p;simp only[rlE,rlF,rlL,Act.put,O,↓reduceIte,Nat.reduceEqDiff];rintro⟨s1,s2,l,s,hz⟩ ⟨m,t,ha⟩ ⟨y,x,_,hs⟩ P ⟨tb,e2,Q,ht⟩;rw[s,t,x]at P;rw[e2];obtain⟨RZ,RA,RS,_,RT,RB⟩:=zgG (.slice (some ⟨l,0,none⟩) 3 3) (.slice (some ⟨m,0,none⟩) 3 3) (.slice (some ⟨y,0,none⟩) 1 1) hz ha hs (zA p n.1) ht (ztS q.1 p) (ztV q.1.size Q);obtain⟨z0,z1,z2,g0,g1,g2,gl⟩:=zc3 ht;go_simp;clear z0 z1 z2 g0 g1 g2 gl s t x P e2 hz ha hs ht Q p q n;generalize (((d.setCell ⟨tb,0,none⟩ (.slice (some ⟨l,0,none⟩) 3 3)).setCell ⟨tb,1,none⟩ (.slice (some ⟨m,0,none⟩) 3 3)).setCell ⟨tb,2,none⟩ (.slice (some ⟨y,0,none⟩) 1 1))=d at*;have HZ:=I RZ;have HA:=I RA;have HS:=I RS;have HT:=I RT;have HB:=I RB;clear RZ RA RS RT RB;go_upto_region 6 with fail
 have H:=I (show Bw d ((((((d.alloc oE16).alloc (oX16 (d.heap.size))).alloc (oR16 (d.heap.size))).alloc oK16).alloc (oC16 (d.heap.size+1+1) (d.heap.size+1+1+1))).alloc jI) from ztS (ztS (ztS (ztS (ztS (J _ _) (J _ _)) (J _ _)) (J _ _)) (J _ _)) (J _ _));have N0:=I (zd (o':=jI) (zd (o':=(oC16 (d.heap.size+1+1) (d.heap.size+1+1+1))) (zd (o':=oK16) (zd (o':=(oR16 (d.heap.size))) (zd (o':=(oX16 (d.heap.size))) (zh d oE16))))));have N1:=I (zd (o':=jI) (zd (o':=(oC16 (d.heap.size+1+1) (d.heap.size+1+1+1))) (zd (o':=oK16) (zd (o':=(oR16 (d.heap.size))) (zh (d.alloc oE16) (oX16 (d.heap.size)))))));rw[zr]at N1;have L:=I (zd (o':=jI) (zd (o':=(oC16 (d.heap.size+1+1) (d.heap.size+1+1+1))) (zd (o':=oK16) (zh ((d.alloc oE16).alloc (oX16 (d.heap.size))) (oR16 (d.heap.size))))));rw[zr,zr]at L;have R:=I (zd (o':=jI) (zd (o':=(oC16 (d.heap.size+1+1) (d.heap.size+1+1+1))) (zh (((d.alloc oE16).alloc (oX16 (d.heap.size))).alloc (oR16 (d.heap.size))) oK16)));rw[zr,zr,zr]at R;have M:=I (zd (o':=jI) (zh ((((d.alloc oE16).alloc (oX16 (d.heap.size))).alloc (oR16 (d.heap.size))).alloc oK16) (oC16 (d.heap.size+1+1) (d.heap.size+1+1+1))));rw[zr,zr,zr,zr]at M;have N5:=I (zh (((((d.alloc oE16).alloc (oX16 (d.heap.size))).alloc (oR16 (d.heap.size))).alloc oK16).alloc (oC16 (d.heap.size+1+1) (d.heap.size+1+1+1))) jI);rw[zr,zr,zr,zr,zr]at N5;generalize ((((((d.alloc oE16).alloc (oX16 (d.heap.size))).alloc (oR16 (d.heap.size))).alloc oK16).alloc (oC16 (d.heap.size+1+1) (d.heap.size+1+1+1))).alloc jI)=w3 at*;obtain⟨db,S⟩:∃b,b=d.heap.size+1+1+1+1+1:=⟨_,rfl⟩;obtain⟨cb,T⟩:∃b,b=d.heap.size+1+1+1+1:=⟨_,rfl⟩;obtain⟨U,V⟩:∃b,b=d.heap.size+1+1+1:=⟨_,rfl⟩;obtain⟨X,Y⟩:∃b,b=d.heap.size+1+1:=⟨_,rfl⟩;obtain⟨xb,Z⟩:∃b,b=d.heap.size+1:=⟨_,rfl⟩;obtain⟨eb,a0⟩:∃b,b=d.heap.size:=⟨_,rfl⟩;simp only[<-S]at N5 ⊢;simp only[<-T]at M ⊢;simp only[<-V]at R M ⊢;simp only[<-Y]at L M ⊢;simp only[<-Z]at N1 ⊢;simp only[<-a0]at N0 N1 L ⊢;have a1:=ztW N0.1;have a2:=ztW L.1;have a3:=ztW R.1;clear a0 Z Y V T S;have a4:=I (ztS HB.1 H.1);have TC:=I (show TCAt w3 exT1 exR (some ⟨l,0,none⟩) (some ⟨m,0,none⟩) (some ⟨y,0,none⟩) (exQ X U) from⟨HZ.1.at.below H.1,HA.1.at.below H.1,(zs5 HS.1).below H.1,exR_at N0.1 L.1 R.1 a1 a2 a3⟩);have HD:=I (ztb N5.1);have N:=I (zA H.1 HT.1);have i:=I M.1;clear N0 N1 L R M N5 a1 a2 a3 HZ HA HS HT HB H;have CC:=I (ze4 exT1 exR (some ⟨l,0,none⟩) 3 (some ⟨m,0,none⟩) 3 (some ⟨y,0,none⟩) 1 (exQ X U) w3 (zd9 exT1 (some ⟨l,0,none⟩) (some ⟨m,0,none⟩) (some ⟨y,0,none⟩) 3 3 1 exR (exQ X U)) TC.1 exD1 (some ⟨db,0,none⟩) 1 (by decide) HD.1);rw[exDV,zrI]at CC;have x0:=zw N.1;have x1:=zu N.1;have x2:=zC N.1;have xl:=ztW N.1;have y0:=zw i.1;have y1:=zu i.1;have y2:=zC i.1;have y3:=zaj i.1;have y4:=zbe i.1;have y5:=zbn i.1;have y6:=zbm i.1;have y7:=zaK i.1;have y8:=zaX i.1;have y9:=zbr i.1;have z:=zbb i.1;have B:=zby i.1;have C:=zbx i.1;have D:=zcq i.1;have yl:=ztW i.1;go_wp2_with fail;clear x0 x1 x2 xl y0 y1 y2 y3 y4 y5 y6 y7 y8 y9 z B C D yl;refine(CC.1).mono ?_;rintro e w4 ⟨va,vc,rfl,hv,j⟩;have a6:=I (ztS a4.1 j);have o:=I (zA j N.1);have f:=I (zA j i.1);have HV:=I hv;have CD:=I (zfP exT1 exR (some ⟨l,0,none⟩) 3 (some ⟨m,0,none⟩) 3 (some ⟨y,0,none⟩) 1 (exQ X U) w4 (zd9 exT1 (some ⟨l,0,none⟩) (some ⟨m,0,none⟩) (some ⟨y,0,none⟩) 3 3 1 exR (exQ X U)) (TC.1.below j) exD1 (some ⟨db,0,none⟩) 1 (by decide) (HD.1.below j));rw[exDC,zrI]at CD;clear hv j CC a4 N i;have x0:=zw o.1;have x1:=zu o.1;have x2:=zC o.1;have xl:=ztW o.1;have y0:=zw f.1;have y1:=zu f.1;have y2:=zC f.1;have y3:=zaj f.1;have y4:=zbe f.1;have y5:=zbn f.1;have y6:=zbm f.1;have y7:=zaK f.1;have y8:=zaX f.1;have y9:=zbr f.1;have z:=zbb f.1;have B:=zby f.1;have C:=zbx f.1;have D:=zcq f.1;have yl:=ztW f.1;go_wp2_with fail;refine(CD.1).mono ?_;rintro e w5 ⟨rfl,E⟩;have a7:=I (ztS a6.1 E);obtain⟨b,F,rfl,a8,a5⟩:=(HV.1.below E).cells (by decide);obtain⟨p0,p1,p2⟩:=a5 0 (by decide);simp only[Nat.zero_mul,Nat.add_zero]at p0 p1 p2;replace p0:w5.cell? ⟨b,F,none⟩=some (.int .i64 1):=p0;replace p1:w5.cell? ⟨b,F+1,none⟩=some (.int .i64 0):=p1;replace p2:w5.cell? ⟨b,F+2,none⟩=some (.string ⟨#[115,104,111,114,116]⟩):=p2;clear E CD a5 x0 x1 x2 xl y0 y1 y2 y3 y4 y5 y6 y7 y8 y9 z B C D yl;go_wp2_with fail;go_ret;exact⟨rfl,a7.1⟩
end Go.Proofs.YtbhhejkolnigfaaGreat
