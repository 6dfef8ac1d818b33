/- a part of the proof -/
import Derived.Test.YtafdcbmgdfliiaaGreatK7
import Derived.Test.YtafdcbmgdfliiaaGreatG9
set_option linter.all false
set_option maxRecDepth 100000
set_option maxHeartbeats 3000000
namespace Go.Proofs.YtafdcbmgdfliiaaGreat
open Go.RowKit Go.Sort Go.Proofs.Tryz
variable {b lo n:Nat}{c e p v v0 v1 v2 v3:Value}{W w w':Wd}{f:Nat×Nat}
theorem lL{r:Nat}(h:r<=1000000):(Lit.int .i64 (r:Int)).wf=true:=by
 have e:=Wm (r:Int);grind[wrap64]
def Kz(lo:Nat)(v:Value)(n:Nat)(w:Wd):Prop:=∃L:LI,L.length=n/\(∀x∈L,(Lit.int .i64 x).wf=true)/\w.ownsRow lo 3 1 v n (L.map (Value.int .i64))
theorem Kz.at(h:Kz lo v n w):∃(L:LI) (a:Ae) (b:Nat),L.length=n/\v=CU a L.length b/\(L.length<=b/\b<=9223372036854775807)/\Al RT.int w a L:=by
 obtain⟨L,rfl,c,d⟩:=h;obtain⟨a,b,rfl,e,f,k⟩:=Sw d;refine⟨L,a,b,rfl,rfl,⟨e,f⟩,?_⟩;rcases k with l|⟨g,rfl,p,m,o⟩;exact .inl (List.eq_nil_of_length_eq_zero l);refine .inr ⟨g,0,rfl,m,λi hi=>⟨[Bn L[i]],λj hj=>?_,rfl,c _ (gM hi)⟩⟩;grind[RT.int]
def Kz.nil(lo:Nat)(w:Wd):Kz lo Ls 0 w:=⟨[],rfl,(λx hx=>by cases hx),World.ownsRow_nil ..⟩
def fL(u v:Value):Prop:=∀b,u.ownBlock=some b->v.ownBlock≠some b
structure T3(w0:Wd)(u v z:Value)(n m p:Nat)(w:Wd):Prop where
 o1:Kz w0.heap.size u n w
 o2:Kz w0.heap.size v m w
 o3:Kz w0.heap.size z p w
 a12:fL u v
 a23:fL v z
 a31:fL z u
 bel:Below w0.heap.size w0 w
def Kz.keep{r:Option Nat}(h:Kz lo v n w)(a:w.grownBy w' r)(b:v.ownBlock=none\/v.ownBlock≠r):Kz lo v n w':=by
 obtain⟨L,c,d,e⟩:=h;exact⟨L,c,d,e.kept a b⟩
theorem Kz.call(h:Kz lo v n w)(a:Bw w w'):Kz lo v n w':=h.keep (Sj (r:=none) a) (by grind)
def Kz.lt(h:Kz lo v n w)(a:v.ownBlock=some b):b<w.heap.size:=by
 obtain⟨L,_,_,h⟩:=h;exact(h.lt b a).2
section
variable {w0:Wd} {u v z:Value} {n m p:Nat} {w w':Wd} (S:T3 w0 u v z n m p w)
include S
def T3.rot:T3 w0 v z u m p n w:=⟨S.o2,S.o3,S.o1,S.a23,S.a31,S.a12,S.bel⟩
def T3.call(a:Bw w w'):T3 w0 u v z n m p w':=⟨S.o1.call a,S.o2.call a,S.o3.call a,S.a12,S.a23,S.a31,Ab S.bel a⟩
theorem T3.push{L:LI}{x:Int}{g c:Nat}(i:L.length=n)(j:∀x∈L,(Lit.int .i64 x).wf=true)(l:w.ownsRow w0.heap.size 3 1 u n (L.map (Value.int .i64)))(o:(Lit.int .i64 x).wf=true) 
 (q:w'.ownsRow w0.heap.size 3 1 (Kx g 0 (n+1) c) (n+1) (L.map (Value.int .i64)++ [Bn x])) (d:(w.alloc (.cells #[x] 3)).grownBy w' u.ownBlock) (a:u.ownBlock=some g\/g=w.heap.size+1):
 T3 w0 (Kx g 0 (n+1) c) v z (n+1) m p w':=by
 have K:∀{y:Value} {k:Nat},Kz w0.heap.size y k w->fL u y->Kz w0.heap.size y k w'/\y.ownBlock≠some g:=fun{y k} hy hu=>by
  refine⟨(hy.call (J w _)).keep d ?_,λe=>?_⟩;cases e:y.ownBlock with
  |none=>exact .inl rfl
  |some b=>exact .inr λe2=>hu b e2.symm e
  rcases a with a|a;exact hu g a e;have:=hy.lt e;omega
 have f:=K S.o2 S.a12;have h:=K S.o3 λb h1 h2=>S.a31 b h2 h1;refine⟨⟨L++ [x],by simp[i],fK j o,by simpa using q⟩,f.1,h.1,λb h1 h2=>?_,S.a23,λb h1 h2=>?_,Ld (e':=0) S.bel rfl l d⟩;all_goals grind[Value.ownBlock]
end
theorem T3.nil(w:Wd):T3 w Ls Ls Ls 0 0 0 w:=⟨.nil _ _,.nil _ _,.nil _ _,λb h=>by grind[Value.ownBlock],λb h=>by grind[Value.ownBlock],λb h=>by grind[Value.ownBlock],An _ _⟩
def EU(n:Nat)(w:Wd)(e:Ending)(w':Wd):Prop:=∃(v:Value) (m:Nat),e=.returned v/\m<=n/\Fr w w' (Kz w.heap.size v m)/\Below w.heap.size w w'
def YE(p:LI)(a:Ae)(cap:Nat)(w:Wd)(z:Al RT.int w a p)(F:p.length<=2^47)(h l:Value)(fa:Ae)(n fc:Nat)(X:n<=10000):Calls prog 34 #[.agg #[h,l,CU fa n fc],CU a p.length cap] w (EU n w):=by
 have G:=I z;go_in;go_wp2_with fail;have A:=I (J w (Obj.cells #[h,l,CU fa n fc] 27));have B:=I (zh w (Obj.cells #[h,l,CU fa n fc] 27));have H:=zr w (Obj.cells #[h,l,CU fa n fc] 27);generalize w.alloc (Obj.cells #[h,l,CU fa n fc] 27)=q at*;go_loopw [5,6] (λv i wr=>∃(k m:Nat),k<=n/\i=Bn k/\m<=k/\Af (Kz q.heap.size v m wr)/\Af (Bw q wr)) (λ_ i _=>n-(intOf i).toNat);exact⟨0,0,Bg _,rfl,Bv _,I (.nil _ _),I (An _ _)⟩;obtain⟨k,m,Y,rfl,K,b,d⟩:=hrel;have M:=D_ (Ac d.1 B.1);have N:=As (Ag B.1) d.1.size;by_cases P:k<n
 . have o:(k:Int)<n:=by omega
   go_wp2_with fail;refine(Ng p a cap wr (G.1.below (Ab A.1 d.1)) F k (by omega)).mono ?_;rintro e Z ⟨r,rfl,hr,u⟩;have x:=fE d u;have C:=b.1.call u;have y:=I C;obtain⟨L,s,t,f⟩:=C;go_wp2_with (at_builtin;refine Zw cF x.1.size f [Bn (k:Nat)] rfl rfl rfl rfl rfl (by simp[Value.oneCell']) (by omega) ?_;intro g c Q b D _;have R:Af (Kz q.heap.size (Kx g 0 (m+1) c) (m+1) Q):=I ⟨L++ [(k:Int)],by simp[s],fK t (lL (by omega)),by simpa using b⟩;have S:=I (Ld (e':=0) x.1 rfl f D);clear b D)
   all_goals go_roundw
   all_goals first
   |(simp[intOf];omega)
   |exact⟨k+1,m+1,by omega,by go_num,by omega,R,S⟩
   |exact⟨k+1,m,by omega,by go_num,by omega,y,x⟩
 obtain rfl:k=n:=by omega
 have⟨L,s,t,f⟩:=b.1;obtain⟨va,vc,rfl⟩:=Js f;have o:¬ (k:Int)<k:=by omega
 have T:=I t;have U:=I f;have V:=I s;go_wp2;go_ret;refine⟨_,m,rfl,K,λW h1 h2=>⟨L,V.1,T.1,?_⟩,Ab A.1 d.1⟩;have E:=rZ (w:=w) U.1 (by omega) W h1 h2;exact⟨E.1,E.2.imp_right λ⟨g,cap,cur,h4,h5,h6⟩=>⟨g,cap,cur,h4,by omega,h6⟩⟩
def sF(w:Wd)(e:Ending)(w':Wd):Prop:=∃v:Value,e=.returned v/\Fr w w' (cH v)/\Below w.heap.size w w'
def Yj{i:Func}{g:Array Value}{k l m n o a d:Value}(r:i.results=#[.cell 2 35])(s:g.getD 2 undef=Ua b 0) 
 (q:W.heap[b]?=some (.cells #[v0,v1,v2,v3,k,l,m,n,o,p,a,c,d,e] 35 f)):(results i g).run prog W=.ok (.agg #[v0,v1,v2,v3,k,l,m,n,o,p,a,c,d,e]) W:=by
 have h:g[2]?.getD undef=Ua b 0:=by simpa using s
 simp[results,r,go_sem,h,D_ q]
def YW(l:LI)(a:Ae)(cap:Nat)(w:Wd)(y:Al RT.int w a l)(W:l.length<=2^47):Calls prog 32 #[CU a l.length cap] w (sF w):=by
 have z:=I y;clear y;go_in;go_wp2_with fail;have⟨h,f⟩:=aT w.heap.size;have n:=J w jA;have o:=zh w jA;have X:=zr w jA;simp only[<-f]at o ⊢;have q:=I f;have A:w.heap.size<=h/\h<=w.heap.size:=by omega
 clear f;generalize w.alloc jA=w0 at*;refine(ZH l a cap w0 (z.1.below n) W).mono ?_;rintro e Y ⟨s,rfl,hs,m⟩;go_wp2_with fail;refine(XT s Y (by omega)).mono ?_;rintro e i ⟨v,k,er,rfl,r,t⟩;have B:=Ac t (Ac m o);have C:=I (Ab n (Ab m t));obtain⟨c,p,rfl,-,-⟩:=r.self;have u:=m.size;have x:=(r.old (w0:=w0) u).next (J i (Aj c p));clear r n m t z;unfold Wb at x ⊢;go_upto_region 2 with fail
 have b:(i.alloc (Aj c p)).heap[h]?=some jA:=zd B;have d:=zh i (Aj c p);have D:=J i (Aj c p);have⟨E,g⟩:=aT i.heap.size;rw[<-g]at d;simp only[<-g];clear g;generalize i.alloc (Aj c p)=Z at*;have a0:=D_ b;have b0:=CH b;have rl:=Ag b;have c0:=D_ d;have cl:=Ag d;have U:=I (Pr [Bn c.rp,Bn c.rl,Bn c.cn,Bn c.sit,Bn c.lv,Bn c.nf,Bn c.nt,CU p.ca c.cs.length p.cc,CU p.ra c.rs.length p.rc,CU p.ka c.ks.length p.kc,CU p.xa c.xs.length p.xc,CU p.la c.ls.length p.lc,CU p.oa c.oz.length p.oc,Bn c.gu] [] [Bn 0,Bn 0,Bn 0,Bn 0,Bn 0,Bn 0,Bn 0,Ls,Ls,Ls,Ls,Ls,Ls,Bn 0] _ rfl b);have V:Af (sF w (.returned (.agg #[c.rp,c.rl,c.cn,c.sit,c.lv,c.nf,c.nt,CU p.ca c.cs.length p.cc,CU p.ra c.rs.length p.rc,CU p.ka c.ks.length p.kc,CU p.xa c.xs.length p.xc,CU p.la c.ls.length p.lc,CU p.oa c.oz.length p.oc,c.gu])) (stN h 0 [Bn c.rp,Bn c.rl,Bn c.cn,Bn c.sit,Bn c.lv,Bn c.nf,Bn c.nt,CU p.ca c.cs.length p.cc,CU p.ra c.rs.length p.rc,CU p.ka c.ks.length p.kc,CU p.xa c.xs.length p.xc,CU p.la c.ls.length p.lc,CU p.oa c.oz.length p.oc,Bn c.gu] Z)):=I ⟨_,rfl,(x.sets (by omega) _ _).old (by omega),Tt (Nat.le_of_eq q.1.symm) _ _ _ (Ab C.1 D)⟩;clear B b d o x C D;simp only[stN,Nat.zero_add,Nat.reduceAdd,List.length_nil]at U V;go_wp2_with fail;refine bP (Yj rfl rfl U.1) rfl ?_;exact V.1
def BasX(w:Wd)(v:Value):Prop:=∃g,v=.slice (some (aD g 0)) 2 2/\w.heap[g]?=some (.cells #[.string ⟨#[65,65,65]⟩,.string ⟨#[66,66,66]⟩] 9 (0,0))
def BasX.below(h:BasX w v)(a:Bw w w'):BasX w' v:=h.imp λg h=>⟨h.1,Ac a h.2⟩
def BasX.strs(h:BasX w v):Lm 2 3 w v:=by
 obtain⟨g,rfl,h⟩:=h;exact Lm.of h rfl rfl
def EO(w:Wd)(e:Ending)(w':Wd):Prop:=∃(zb ab:Nat) (fa:Ae) (n fc:Nat) (c:Ad) (p:Bd) (bv:Value) (ol:LI) (oa:Ae) (oc:Nat),e=.returned (.tuple #[.agg #[.slice (some (aD zb 0)) 3 3,.slice (some (aD ab 0)) 3 3,.slice fa n fc],.agg (Wb c p),bv,.slice oa ol.length oc])/\n<=7/\mC zb ab fa n w'/\
 (c.cs.length<=p.cc/\p.cc<=9223372036854775807)/\Kb w'.heap.size w' c p/\BasX w' bv/\Al RT.int w' oa ol/\ol.length<=7/\Below w.heap.size w w'
def YM(w:Wd):Calls prog 33 #[] w λe w'=>∃v,e=.returned v/\Fr w w' (λW=>BasX W v)/\Bw w w':=by
 go_in;go_wp2;go_ret;exact⟨_,rfl,λW h1 h2=>⟨_,rfl,(h2 w.heap.size (Bv _) (by simp)).trans (zh _ _)⟩,J _ _⟩
def mO{o:Func}{a:Array Value}{d:Nat}{s t u w z A B h i x y:Value}{g:Nat×Nat}(C:o.results=#[.cell 2 27,.cell 3 35,.tmp 4,.tmp 5])(D:a.getD 2 undef=Ua b 0)(hd:a.getD 3 undef=Ua d 0)(E:a.getD 4 undef=x)(F:a.getD 5 undef=y) 
 (r:W.heap[b]?=some (.cells #[p,s,t] 27 g)) (q:W.heap[d]?=some (.cells #[v0,v1,v2,v3,u,v,w,z,A,B,c,e,h,i] 35 f)):(results o a).run prog W=.ok (.tuple #[.agg #[p,s,t],.agg #[v0,v1,v2,v3,u,v,w,z,A,B,c,e,h,i],x,y]) W:=by
 have k:a[2]?.getD undef=Ua b 0:=by simpa using D
 have l:a[3]?.getD undef=Ua d 0:=by simpa using hd
 have m:a[4]?.getD undef=x:=by simpa using E
 have n:a[5]?.getD undef=y:=by simpa using F
 simp[results,C,go_sem,k,l,m,n,D_ r,D_ q]
def ZO(zs:LI)(a:Ae)(cap:Nat)(w:Wd)(hz:Al RT.int w a zs)(hl:zs.length<=2^47):Calls prog 7 #[CU a zs.length cap] w (EO w):=by
 have HZ:=I hz;clear hz;go_in;go_wp2_with fail;have⟨T,U⟩:=aT w.heap.size;have⟨W,X⟩:=aT (w.heap.size+1);have B0:=I (Ab (J w jL) (J _ jA));have QT:=I (show((w.alloc jL).alloc jA).heap[T]?=some jL by rw[U];exact zd (zh _ _));have QC:=I (show((w.alloc jL).alloc jA).heap[W]?=some jA by have:=zh (w.alloc jL) jA;rwa [zr,<-X]at this);simp only[<-X];simp only[<-U];have a4:=I (aI U X);clear U X;generalize (w.alloc jL).alloc jA=w0 at*;have T0:=I (T3.nil w0);go_loopw [6,7,8,9] (λx y z i wr=>∃k:Nat,k<=60/\i=Bn k/\Af (T3 w0 x y z k k k wr)) (λ_ _ _ i _=>60-(intOf i).toNat);exact⟨0,Bg _,rfl,T0⟩;obtain⟨k,hk,rfl,S⟩:=hrel;by_cases d4:k<60
 . have g7:(k:Int)<60:=by omega
   go_wp2_with fail;refine(Ng zs a cap _ (HZ.1.below (Ab B0.1 S.1.bel)) hl k (by omega)).mono ?_;rintro e w1 ⟨r,rfl,hr,E⟩;have C:=I (S.1.call E);have⟨L,hL,hw,G⟩:=C.1.o1;clear S E;go_wp2_with (at_builtin;refine Zw cF C.1.bel.size G [Bn (r:Nat)] rfl rfl rfl rfl rfl (by simp[Value.oneCell']) (by omega) ?_;intro g0 c0 w2 hO hG hA;have S2:=I ((C.1.push hL hw G (lL (by omega)) hO hG hA).rot);clear hO hG hA G hL hw L C hr);refine(Ng zs a cap _ (HZ.1.below (Ab B0.1 S2.1.bel)) hl (60+k) (by omega)).mono ?_;rintro e w1 ⟨r,rfl,hr,E⟩;have C:=I (S2.1.call E);have⟨L,hL,hw,G⟩:=C.1.o1;clear S2 E;go_wp2_with (at_builtin;refine Zw cF C.1.bel.size G [Bn (r:Nat)] rfl rfl rfl rfl rfl (by simp[Value.oneCell']) (by omega) ?_;intro g1 c1 w2 hO hG hA;have S3:=I ((C.1.push hL hw G (lL (by omega)) hO hG hA).rot);clear hO hG hA G hL hw L C hr);refine(Ng zs a cap _ (HZ.1.below (Ab B0.1 S3.1.bel)) hl (120+k) (by omega)).mono ?_;rintro e w1 ⟨r,rfl,hr,E⟩;have C:=I (S3.1.call E);have⟨L,hL,hw,G⟩:=C.1.o1;clear S3 E;go_wp2_with (at_builtin;refine Zw cF C.1.bel.size G [Bn (r:Nat)] rfl rfl rfl rfl rfl (by simp[Value.oneCell']) (by omega) ?_;intro g2 c2 w2 hO hG hA;have S4:=I ((C.1.push hL hw G (lL (by omega)) hO hG hA).rot);clear hO hG hA G hL hw L C hr);go_roundw;exact⟨k+1,by omega,by go_num,S4⟩;simp[intOf];omega
 obtain rfl:k=60:=by omega
 obtain⟨L1,a1,c1,h1,rfl,b0,x1⟩:=S.1.o1.at;obtain⟨L2,a2,c2,h2,rfl,b1,x2⟩:=S.1.o2.at;obtain⟨L3,a3,c3,h3,rfl,g8,x3⟩:=S.1.o3.at;have g9:L1.length<=60/\L2.length<=60/\L3.length<=60:=by omega
 clear h1 h2 h3 d4;have E:=fE B0 S.1.bel;have a5:=Ac S.1.bel QT.1;have a6:=Ac S.1.bel QC.1;have X1:=I x1;have X2:=I x2;have X3:=I x3;clear S x1 x2 x3 T0 B0 QT QC;go_wp2_with fail;refine(YR L1 a1 c1 _ X1.1 (by omega)).mono ?_;rintro e w4 ⟨s,u,q,n,B,rfl,d5,hF,B4⟩;go_upto_region 7 with fail;have H:=Ab B4 (J w4 (Obj.cells #[Kx s 0 3 3,Kx u 0 3 3,CU q n B] 27));have FT:=I (hF.next (J w4 (Obj.cells #[Kx s 0 3 3,Kx u 0 3 3,CU q n B] 27)));have QX:=zh w4 (Obj.cells #[Kx s 0 3 3,Kx u 0 3 3,CU q n B] 27);have d6:=I (X2.1.below H);have d7:=I (X3.1.below H);have a7:=Ac H a5;have a8:=Ac H a6;have h0:=H.size;have B6:=fE E H;have d8:=Ag a5;have d9:=Ag a6;clear B4 H hF a5 a6 E X1 X2 X3;have⟨M,b2⟩:=aT w4.heap.size;simp only[<-b2]at QX ⊢;generalize w4.alloc (Obj.cells #[Kx s 0 3 3,Kx u 0 3 3,CU q n B] 27)=wc at*;have b3:=EE 0 QX rfl;have b4:=EE 1 QX rfl;have b5:=EE 2 QX rfl;have tl:=Ag QX;have b6:=I a7;have b7:=I a8;have HS:=I (dr wc 1);have b8:=Ag a7;have b9:=Ag a8;clear b2 QX a7 a8;refine aE λa ha=>?_;have D:a.tmps.size=44:=by rw[ha];rfl
 refine aF [7,8] [(10,(Ua M 0)),(7,(CU a2 L2.length c2)),(8,(CU a3 L3.length c3)),(2,(Ua T 0)),(3,(Ua W 0))] D (by rw[ha];rfl) ?_;have HA:=I ha;clear ha;refine Vk 0 37 (.agg #[Kx s 0 3 3,Kx u 0 3 3,CU q n B]) [[], []] rfl D HS.1 ?_ ?_;intro A w' e Y;have⟨f,g,l⟩:=F_ 10 (Ua M 0) e rfl;have c0:=(Y.cell (p:=aD M 0) tl).trans (b3);have c1:=(Y.cell (p:=aD M 1) tl).trans (b4);have c2:=(Y.cell (p:=aD M 2) tl).trans (b5);have cl:=As tl Y.size;go_simp;refine De 1 38 (CU a2 L2.length c2) rfl D ?_;refine Vk 4 41 (.agg #[Kx s 0 3 3,Kx u 0 3 3,CU q n B]) [[6], [7,6]] rfl D HS.1 ?_ ?_;intro A w' e Y;have⟨f,g,l⟩:=F_ 10 (Ua M 0) e rfl;have c0:=(Y.cell (p:=aD M 0) tl).trans (b3);have c1:=(Y.cell (p:=aD M 1) tl).trans (b4);have c2:=(Y.cell (p:=aD M 2) tl).trans (b5);have cl:=As tl Y.size;go_simp;refine De 5 42 (CU a3 L3.length c3) rfl D ?_;refine Rz 2 39 rfl D (λA e K hK=>?_);have⟨f,g,l⟩:=F_ 38 (CU a2 L2.length c2) e rfl;go_simp;refine(YW L2 a2 c2 _ (d6.1.below HS.1) (by omega)).mono ?_;rintro e' w5 ⟨v,rfl,F5,H⟩;obtain⟨c,p,rfl,h4,-⟩:=F5.self;unfold Wb at F5 ⊢;refine hK.1 _ _ (λ_ h=>Ab h H) ?_;have h5:=HS.1.size;have a9:=fE HS H;have c4:=I (F5.old (w0:=wc) HS.1.size);clear H F5 HS;clear hK f g l e A K;refine Rz 3 40 rfl D (λA e K hK=>?_);go_simp;refine(YM _).mono ?_;rintro e' w6 ⟨bv,rfl,F6,Z⟩;refine hK.1 _ _ (λ_ h=>Ab h Z) ?_;have c5:=I (c4.1.next Z);have c6:=I (F6.old (w0:=wc) a9.1.size);have a0:=fE a9 Z;clear Z F6 c4 a9;clear hK e A K;refine Rz 6 43 rfl D (λA e K hK=>?_);have⟨f,g,l⟩:=F_ 41 (.agg #[Kx s 0 3 3,Kx u 0 3 3,CU q n B]) e rfl;have⟨N,P,Q⟩:=F_ 42 (CU a3 L3.length c3) e rfl;go_simp;refine(YE L3 a3 c3 _ (d7.1.below a0.1) (by omega) _ _ q n B (by omega)).mono ?_;rintro e' w7 ⟨ov,m,rfl,hm,F7,B7⟩;refine hK.1 _ _ (λ_ h=>Ab h B7) ?_;have c7:=I (c5.1.next B7);have c8:=I (c6.1.next B7);have c9:=I (F7.old (w0:=wc) a0.1.size);have R:=fE a0 B7;have o:=fO b6 R.1;have d0:=fO b7 R.1;have d1:=I (FT.1.next R.1);clear B7 F7 c5 c6 a0 FT b6 b7;clear hK f g l N P Q e A K;refine Ub 7 rfl D (λA e K hK=>?_);have⟨f,g,l⟩:=F_ 2 (Ua T 0) e rfl;have⟨N,P,Q⟩:=F_ 37 (.agg #[Kx s 0 3 3,Kx u 0 3 3,CU q n B]) e rfl;have s0:=D_ o.1;have y0:=CH o.1;have sl:=Ag o.1;go_simp;refine hK.1 _ (λh=>aB (by decide) h) ?_;have d:=I ((lG (show W≠T by have:=a4.1;omega) [Kx s 0 3 3,Kx u 0 3 3,CU q n B] 0 w7).trans d0.1);have d2:=I (Pr [Kx s 0 3 3,Kx u 0 3 3,CU q n B] [] [Ls,Ls,Ls] w7 rfl o.1);have h6:=DP (b:=T) [Kx s 0 3 3,Kx u 0 3 3,CU q n B] 0 w7;change Jd _ _ _ _ _ _ _ _ _ (stN T 0 [Kx s 0 3 3,Kx u 0 3 3,CU q n B] w7);clear s0 y0 sl o d0;generalize hw8:stN T 0 [Kx s 0 3 3,Kx u 0 3 3,CU q n B] w7=w8 at*;clear hK f g l N P Q e A K;refine Ub 8 rfl D (λA e K hK=>?_);have⟨f,g,l⟩:=F_ 3 (Ua W 0) e rfl;have⟨N,P,Q⟩:=F_ 39 (.agg #[c.rp,c.rl,c.cn,c.sit,c.lv,c.nf,c.nt,CU p.ca c.cs.length p.cc,CU p.ra c.rs.length p.rc,CU p.ka c.ks.length p.kc,CU p.xa c.xs.length p.xc,CU p.la c.ls.length p.lc,CU p.oa c.oz.length p.oc,c.gu]) e rfl;have s0:=D_ d.1;have y0:=CH d.1;have sl:=Ag d.1;go_simp;refine hK.1 _ (λh=>aB (by decide) h) ?_;have f8:=I ((lG (show T≠W by have:=a4.1;omega) [Bn c.rp,Bn c.rl,Bn c.cn,Bn c.sit,Bn c.lv,Bn c.nf,Bn c.nt,CU p.ca c.cs.length p.cc,CU p.ra c.rs.length p.rc,CU p.ka c.ks.length p.kc,CU p.xa c.xs.length p.xc,CU p.la c.ls.length p.lc,CU p.oa c.oz.length p.oc,Bn c.gu] 0 w8).trans d2.1);have f9:=I (Pr [Bn c.rp,Bn c.rl,Bn c.cn,Bn c.sit,Bn c.lv,Bn c.nf,Bn c.nt,CU p.ca c.cs.length p.cc,CU p.ra c.rs.length p.rc,CU p.ka c.ks.length p.kc,CU p.xa c.xs.length p.xc,CU p.la c.ls.length p.lc,CU p.oa c.oz.length p.oc,Bn c.gu] [] [Bn 0,Bn 0,Bn 0,Bn 0,Bn 0,Bn 0,Bn 0,Ls,Ls,Ls,Ls,Ls,Ls,Bn 0] w8 rfl d.1);change Jd _ _ _ _ _ _ _ _ _ (stN W 0 [Bn c.rp,Bn c.rl,Bn c.cn,Bn c.sit,Bn c.lv,Bn c.nf,Bn c.nt,CU p.ca c.cs.length p.cc,CU p.ra c.rs.length p.rc,CU p.ka c.ks.length p.kc,CU p.xa c.xs.length p.xc,CU p.la c.ls.length p.lc,CU p.oa c.oz.length p.oc,Bn c.gu] w8);clear s0 y0 sl d2 d;generalize hw9:stN W 0 [Bn c.rp,Bn c.rl,Bn c.cn,Bn c.sit,Bn c.lv,Bn c.nf,Bn c.nt,CU p.ca c.cs.length p.cc,CU p.ra c.rs.length p.rc,CU p.ka c.ks.length p.kc,CU p.xa c.xs.length p.xc,CU p.la c.ls.length p.lc,CU p.oa c.oz.length p.oc,Bn c.gu] w8=w9 at*;clear hK f g l N P Q e A K;refine Kr 9 4 bv rfl D ?_ ?_;intro A w' e;have⟨f,g,l⟩:=F_ 40 bv e rfl;go_simp;refine Kr 10 5 ov rfl D ?_ ?_;intro A w' e;have⟨f,g,l⟩:=F_ 43 ov e rfl;go_simp;refine Wn ?_;rw[HA.1];simp only[Dj,Act.put,O];clear D HA;have K:∀(F:Wd->Prop),Fr wc w7 F->Fr wc w9 F:=λF h=>by
  rw[<-hw9,<-hw8];exact(h.sets b8 _ _).sets b9 _ _
 have P4:Fr wr w9 (mC s u q n):=by
  rw[<-hw9,<-hw8];exact(d1.1.sets d8 _ _).sets d9 _ _
 have BW:=I (show Bw w w9 by
  rw[<-hw9,<-hw8];have hr:=a4.1;exact Tt (by omega) _ _ _ (Tt (by omega) _ _ _ (Ab B6.1 R.1)))
 have g3:=I (K _ c7.1).self;have g4:=I (K _ c8.1).self;obtain⟨OL,oa,oc,h7,rfl,-,d3⟩:=(K _ c9.1).self.at;have g5:=I d3;have g6:=I P4.self;clear K P4 d3 hw8 hw9 R c7 c8 c9 d1 B6;go_wp2_with fail;refine bP (mO rfl rfl rfl rfl rfl f8.1 f9.1) rfl ?_;have⟨c',p',e1,b0,b1⟩:=g3.1;exact⟨s,u,q,n,B,c',p',bv,OL,oa,oc,by rw[e1];rfl,d5,g6.1,b0,b1,g4.1,g5.1,by omega,BW.1⟩
end Go.Proofs.YtafdcbmgdfliiaaGreat
namespace Go.Proofs.YtafdcbmgdfliiaaGreat
open Go.ChangeShapes Go.WideShapes Go.ChangeAt Go.RowKit Go.Deep Go.Joins Go.Proofs.Tryz
variable {W:Wd}{v:Value}
def YJ:fX 22 (RT.sl RT.int):=
 FC underlying22 (by kernel_rfl) (by decide) (Jr (by kernel_rfl)) (FF underlying3)
theorem XY{H:Type}{enc:TypeId×Value->H}{r:Reach}{c:Nat}{d:DataW H}{p:List MemPlace}(f:Value.okWide prog W r c 22 v)(h:DataW.Trod enc prog W 0 (λ_=>true) true 22 v d p)(g:∀n∈DataW.weights prog 22 d,n<=reachBytes):
 ∃(l:LI) (a:Ae) (b:Nat),v=CU a l.length b/\l.length<=2^47/\Al RT.int W a l:=by
 obtain⟨i,j,k,rfl⟩:=okWide_slice underlying22 f;obtain⟨u,m⟩:=h;have⟨l,a,b,e,o,q,s⟩:=YJ m g;have t: [CU i j k]= [CU a l.length b]:=e;grind
theorem XZ{H:Type}{enc:TypeId×Value->H}{r:Reach}{a:Nat}{d:DataW H}{p:List MemPlace}(b:Value.okWide prog W r a 3 v)(h:DataW.Trod enc prog W 0 (λ_=>true) true 3 v d p)(e:∀n∈DataW.weights prog 3 d,n<=reachBytes):∃x:Int,v=Bn x:=by
 grind[okWide_int,underlying3]
