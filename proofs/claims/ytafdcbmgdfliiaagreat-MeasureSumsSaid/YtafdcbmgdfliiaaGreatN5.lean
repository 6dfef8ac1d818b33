/- a part of the proof -/
import Derived.Test.YtafdcbmgdfliiaaGreatN4
import Derived.Test.YtafdcbmgdfliiaaGreatKB
set_option linter.all false
set_option maxRecDepth 100000
set_option maxHeartbeats 3000000
namespace Go.Proofs.YtafdcbmgdfliiaaGreat
open Go.RowKit Go.Sort Go.Proofs.Tryz
variable {L:List (BA×Int)}{v:Value}{w w':Wd}{c:Int}
def Lo(L:List (BA×Int))(v:Value)(w:Wd):Prop:=∃a b,v=.slice a L.length b/\Jk w a L
def Lp(L:List (BA×Int))(er:Int)(v:Value)(w:Wd):Prop:=∃a b,v=.tuple #[.slice a L.length b,er]/\Jk w a L
def Lo.below(h:Lo L v w)(c:Bw w w'):Lo L v w':=by
 obtain⟨a,b,d,e⟩:=h;exact⟨a,b,d,e.below c⟩
def Lp.below(h:Lp L c v w)(d:Bw w w'):Lp L c v w':=by
 obtain⟨a,b,e,f⟩:=h;exact⟨a,b,e,f.below d⟩
def ZK(t:At)(c:Ad)(s:BA)(x y:Ai):(Pq t c s x y).length<=2^47:=by
 unfold Pq;split;rw[Rf (show(Pp t c s x y).length=(zk 2).length from rfl),show(Pp t c s x y).length=25 from rfl];decide;simp
theorem ZL(t:At)(c:Ad)(s:BA)(L:List Ai):(cA t c s L).length<=2^47:=by
 unfold cA;split;show 7<=_;decide;simp
theorem ZF(t:At)(c:Ad)(d:Ai):(Pn t c d).length<=2^47:=by
 grind[Pn,Rd]
theorem zEh(x:Int):∃r:Nat,r<=255/\bits .and .i64 x 255=(r:Int):=by
 refine⟨(BitVec.ofInt 64 x &&& BitVec.ofInt 64 255).toNat,?_,?_⟩;exact Bf Nat.and_le_right (by decide);have h:(BitVec.ofInt 64 x &&& BitVec.ofInt 64 255).toNat<=255:=by
  rw[BitVec.toNat_and];exact Bf Nat.and_le_right (by decide)
 show IntKind.i64.wrap ((BitVec.ofInt 64 x &&& BitVec.ofInt 64 255).toNat:Int)=_;rw[wI];omega
def zEb{t:At}{c:Ad}{D:List Ai}(a:zY t=0)(b:Ax c=0)(hd:∀k,k<D.length->Cc t c (Ba D k)=0):∀k:Nat,k<=D.length->-100000000<=sumS t c D k/\sumS t c D k<=100000000
 |0,_=>by simp[sumS]
 |k+1,h=>by
  have d:=Tq a b (hd k (by omega));have e:=Tq a b (hd 0 (by omega));rw[zDq];omega
theorem zDP{t:At}{c:Ad}{p:BA}{L:List Ai}(h:Fu t c p L=0):Mo t p=true:=by
 grind[Fu]
theorem int5{a b d e:Int}{k:Nat}(h:#[Bn a,Bn b,Bn c,Bn d,Bn e][k]?=some v):∃n,v=Bn n:=by
 grind
theorem zC6{sb j:Nat}{o p q r s:Int}{T:TypeId}{f:Nat×Nat}{l:List (BA×Int)}{a:Ae}(t:w.heap[sb]?=some (Obj.cells #[o,p,q,r,s] T f))(h:Jk w a l):Jk (w.setCell (aD sb j) v) a l:=by
 rcases h with h|⟨g,b,u,x,c⟩
 . exact .inl h
 by_cases k:l= []
 . exact .inl k
 have d:g≠sb:=λe=>by
  subst e;have m:=(c 0 (List.length_pos_iff.2 k)).1;rw[cell_of_row w g _ _ _ _ t]at m;obtain⟨n,y⟩:=int5 m;cases y
 refine .inr ⟨g,b,u,by simpa using x,λi hi=>?_⟩;have e:=Below.heap_setCell w (aD sb j) v g d;exact⟨(World.cell?_of_block (a:=aD g _) e).trans (c i hi).1,(World.cell?_of_block (a:=aD g _) e).trans (c i hi).2⟩
def RwO.low{A:Type}{e a:TypeId}{s:Nat}{n:A->Nat}{enc:A->LV}{lo lo':Nat}{R:List A}(S:RwO e a s n enc lo w v R)(h:lo'<=lo):RwO e a s n enc lo' w v R:=by
 obtain⟨X,d,b,c⟩:=S;exact⟨X,d,⟨b.1,b.2.imp_right λ⟨g,cap,cur,h4,h5,h6⟩=>⟨g,cap,cur,h4,Bf h h5,h6⟩⟩,λi x r hx hr=>⟨(c i x r hx hr).1,(c i x r hx hr).2.imp_right λ⟨g,cap,cur,h4,h5,h6⟩=>⟨g,cap,cur,h4,Bf h h5,h6⟩⟩⟩
def NetW(t:At)(c:Ad)(v:Value)(w:Wd):Prop:=∃(b:BA) (L:List gF) (K:List CP) (S E:LI) (a1 a3 a5 a7:Ae) (c1 c3 c5 c7:Nat),v=.agg #[.string b,.slice a1 L.length c1,.slice a3 K.length c3,.slice a5 S.length c5,.slice a7 E.length c7]/\NetA L K S E a1 a3 a5 a7 w/\
 ((L= []/\K= []/\S= []/\E= [])\/(NetG t c b L/\K=SB t c b L L.length/\S=zzW b L/\E=zzZ b L/\L.length<=2000/\K.length<=20000/\∀k,k<L.length->lgE t c L k=0))
def NetW.below{t:At}{c:Ad}(h:NetW t c v w)(a:Bw w w'):NetW t c v w':=by
 obtain⟨b,L,K,S,E,d,e,f,g,i,j,k,l,m,n,o⟩:=h;exact⟨b,L,K,S,E,d,e,f,g,i,j,k,l,m,n.below a,o⟩
theorem zDQ{t:At}{c:Ad}{b:BA}{L:List gF}{K:List CP}{S E:LI}(h:(L= []/\K= []/\S= []/\E= [])\/(NetG t c b L/\K=SB t c b L L.length/\S=zzW b L/\E=zzZ b L/\L.length<=2000/\K.length<=20000/\∀k,k<L.length->lgE t c L k=0)):
 (∀l∈K,0<=l.k/\l.k<(L.length:Int))/\RngP L S/\(MI K (zC0 L K S E) S).length<=5000000000000/\(∀i,i<L.length->(Qa L i).duty≠ []/\(Qa L i).duty.length<=6)/\∀q∈MI K (zC0 L K S E) S,RngP L q/\1<=q.length/\q.length<=6/\zY t=0/\Ax c=0/\Fu t c b (CC L q)=0:=by
 rcases h with⟨rfl,rfl,rfl,rfl⟩|⟨G,rfl,rfl,rfl,j,m,n⟩;exact⟨λl h=>(by cases h),λx h=>(by cases h),(by simp[MI]),λi h=>(by cases h),λq h=>(by simp[MI]at h)⟩;refine⟨λl hl=>?_,λx hx=>?_,?_,λi hi=>?_,λq hq=>?_⟩;have⟨_,_,a,b,_⟩:=zC3 _ l hl;exact⟨a,b⟩;have⟨a,b,_⟩:=zDc _ hx;exact⟨a,b⟩;exact Bf (zD8 (zEe G n) j m _ _) (by decide);have⟨g,o,_⟩:=Ka (G.lg i hi).d;exact⟨λe=>(by simp_all),o⟩;have f:=zC4.1 (allP_B hq);exact⟨zDu f,f.1.1,f.1.2,G.tt,G.tc,zDC G f⟩
theorem zDH(ls:LI)(ix:Int)(a:Ae)(cap:Nat)(w:Wd)(hl:ls.length<=2^47)(hz:Al RT.int w a ls):CV 3 #[CU a ls.length cap,ix] w (.bool true):=by
 go_enter func3,ntmps3
 go_wp2_with fail;refine(ZO ls a cap w hz hl).mono ?_;rintro e w1 ⟨zb,ab,ea,n,fc,c,p,bv,ol,oa,oc,rfl,r1,⟨fl,l7,r4,r5,r6⟩,r7,k8,r8,r9,F5,B1⟩;obtain⟨t,za,zc,aa,ac,fa,hN,s0,k9,s1⟩:∃(t:At) (za:Ae) (zc:Nat) (aa:Ae) (ac:Nat) (fa:Ae),t.fs.length<=7/\(#[Kx zb 0 3 3,Kx ab 0 3 3,CU ea n fc]:Array Value)=#[CU za t.zn.length zc,CU aa t.ai.length ac,CU fa t.fs.length fc]/\(t.zn.length<=zc/\zc<=2^47/\t.ai.length<=ac/\ac<=2^47)/\Ea w1 t c za aa fa p:=
  ⟨⟨bO,bX,fl⟩,some (aD zb 0),3,some (aD ab 0),3,ea,by rw[l7];exact r1,by rw[<-l7];rfl,⟨Jr rfl,by decide,Jr rfl,by decide⟩,⟨r4,r5,r6,k8⟩⟩
 rw[s0];unfold Wb
 have g4:=I s1;have C4:=I r8.strs;have l8:=I r9;have s2:=I B1;clear s0 s1 r8 r9 B1 r4 r5 r6 k8 l7 r1 hz;go_upto_region 2 with fail
 obtain⟨hB,l9,m5⟩:=Uy w1 t c za zc aa ac fa fc p;obtain⟨tb,m6⟩:∃tb,tb=w1.heap.size:=⟨_,rfl⟩;obtain⟨cb,m7⟩:∃cb,cb=w1.heap.size+1:=⟨_,rfl⟩;rw[<-m7]at m5;rw[<-m6]at l9;simp only[<-m7];simp only[<-m6];have HB:=I hB;have QT:=I l9;have QC:=I m5;clear m7 m6 hB l9 m5;generalize (w1.alloc (Ap t za zc aa ac fa fc)).alloc (Aj c p)=W at*;obtain⟨q0,q1,q2,ql⟩:=Ev QT.1;obtain⟨y0,y1,y2,y3,y4,y5,y6,y7,y8,y9,g5,g6,g7,g8,yl⟩:=Ek QC.1;go_wp2_with fail;obtain⟨gb,C5,s4,s5⟩:=C4.1.below HB.1;subst C5;obtain⟨r,hr,m8⟩:=zEh (ix/256);obtain⟨r2,s6⟩:∃r2,r2=r%2:=⟨_,rfl⟩;have t1:(r:Int).tmod 2=r2:=by rw[s6];rfl
 have i8:r2<2:=by omega
 have C6:(r2:Int)<2:=by omega
 obtain⟨s,hs,-⟩:=s5 r2 i8;clear s6;go_wp2_with fail;refine aE λA0 hA0=>?_
 have Z:A0.tmps.size=207:=by rw[hA0];rfl
 have f5:=I (dr W 1);obtain⟨lw,s7⟩:∃lw,lw=W.heap.size:=⟨_,rfl⟩;have m9:=I s7;clear s7;refine rgCut (λa' F=>∃(mb:Nat) (b:BA) (L:List gF) (K:List CP) (S E:LI) (H a3 a5 a7:Ae) (c1 c3 c5 c7:Nat),a'=Dj A0 [(9,Ua mb 0),(49,.agg #[B_ b,CU H L.length c1,CU a3 K.length c3,CU a5 S.length c5,CU a7 E.length c7]),(48,CU oa ol.length oc),(47,B_ s),(46,Ua gb r2),(45,Bn (r2:Nat)),(44,Bn (r:Nat)),(43,Bn (ix/256)),(42,Bn ix),(41,Kx gb 0 2 2),(40,.agg #[c.rp,c.rl,c.cn,c.sit,c.lv,c.nf,c.nt,CU p.ca c.cs.length p.cc,CU p.ra c.rs.length p.rc,CU p.ka c.ks.length p.kc,CU p.xa c.xs.length p.xc,CU p.la c.ls.length p.lc,CU p.oa c.oz.length p.oc,c.gu]),(39,.agg #[CU za t.zn.length zc,CU aa t.ai.length ac,CU fa t.fs.length fc]),(1,Bn ix),(5,Ua tb 0),(6,Ua cb 0),(7,Kx gb 0 2 2),(8,CU oa ol.length oc)]/\F.heap[mb]?=some (Obj.cells #[B_ b,CU H L.length c1,CU a3 K.length c3,CU a5 S.length c5,CU a7 E.length c7] 42)/\NetA L K S E H a3 a5 a7 F/\Below lw W F/\lw<=mb/\((L= []/\K= []/\S= []/\E= [])\/(NetG t c b L/\K=SB t c b L L.length/\S=zzW b L/\E=zzZ b L/\L.length<=2000/\K.length<=20000/\∀k,k<L.length->lgE t c L k=0))) [] [(1,Bn ix),(5,Ua tb 0),(6,Ua cb 0),(7,Kx gb 0 2 2),(8,CU oa ol.length oc)] Z (by rw[hA0];rfl) ?main ?rest
 case main=>
  refine Vk 0 39 (.agg #[CU za t.zn.length zc,CU aa t.ai.length ac,CU fa t.fs.length fc]) [] rfl Z f5.1 ?_ ?_
  . intro A F e hS;obtain⟨b8,b9,c0⟩:=e.at (t:=5) (V:=(Ua tb 0)) rfl;obtain⟨x0,x1,x2,xl⟩:=Ev (Ac hS QT.1);clear q0 q1 q2 ql y0 y1 y2 y3 y4 y5 y6 y7 y8 y9 g5 g6 g7 g8 yl;go_simp
  refine Vk 1 40 (.agg #[c.rp,c.rl,c.cn,c.sit,c.lv,c.nf,c.nt,CU p.ca c.cs.length p.cc,CU p.ra c.rs.length p.rc,CU p.ka c.ks.length p.kc,CU p.xa c.xs.length p.xc,CU p.la c.ls.length p.lc,CU p.oa c.oz.length p.oc,c.gu]) [] rfl Z f5.1 ?_ ?_
  . intro A F e hS;obtain⟨b8,b9,c0⟩:=e.at (t:=6) (V:=(Ua cb 0)) rfl;clear q0 q1 q2 ql y0 y1 y2 y3 y4 y5 y6 y7 y8 y9 g5 g6 g7 g8 yl;obtain⟨y0,y1,y2,y3,y4,y5,y6,y7,y8,y9,g5,g6,g7,g8,yl⟩:=Ek (Ac hS QC.1);go_simp
  clear q0 q1 q2 ql y0 y1 y2 y3 y4 y5 y6 y7 y8 y9 g5 g6 g7 g8 yl;refine De 2 41 (Kx gb 0 2 2) rfl Z ?_;refine De 3 42 (Bn ix) rfl Z ?_;refine Kr 4 43 (Bn (ix/256)) rfl Z ?_ ?_
  . intro A F e;obtain⟨b8,b9,c0⟩:=e.at (t:=42) (V:=(Bn ix)) rfl;go_simp
  refine Kr 5 44 (Bn r) rfl Z ?_ ?_
  . intro A F e;obtain⟨b8,b9,c0⟩:=e.at (t:=43) (V:=(Bn (ix/256))) rfl;go_simp
  refine Kr 6 45 (Bn r2) rfl Z ?_ ?_
  . intro A F e;obtain⟨b8,b9,c0⟩:=e.at (t:=44) (V:=(Bn r)) rfl;go_simp
  refine Kr 7 46 (Ua gb r2) rfl Z ?_ ?_
  . intro A F e;obtain⟨b8,b9,c0⟩:=e.at (t:=41) (V:=(Kx gb 0 2 2)) rfl;obtain⟨g9,h5,h6⟩:=e.at (t:=45) (V:=(Bn r2)) rfl;go_simp
  refine Nk 8 47 46 (B_ s) [] rfl Z f5.1 hs s4 ?_;refine De 9 48 (CU oa ol.length oc) rfl Z ?_;refine rgDuo 10 11 49 9 rfl rfl Z (λA e K9 hK=>?fa) (λA e K9 hK=>?fb)
  case' fa=>
   obtain⟨b8,b9,c0⟩:=e.at (t:=39) (V:=(.agg #[CU za t.zn.length zc,CU aa t.ai.length ac,CU fa t.fs.length fc])) rfl;obtain⟨g9,h5,h6⟩:=e.at (t:=40) (V:=(.agg #[c.rp,c.rl,c.cn,c.sit,c.lv,c.nf,c.nt,CU p.ca c.cs.length p.cc,CU p.ra c.rs.length p.rc,CU p.ka c.ks.length p.kc,CU p.xa c.xs.length p.xc,CU p.la c.ls.length p.lc,CU p.oa c.oz.length p.oc,c.gu])) rfl;obtain⟨n5,n6,n7⟩:=e.at (t:=47) (V:=(B_ s)) rfl;obtain⟨n8,o0,o1⟩:=e.at (t:=48) (V:=(CU oa ol.length oc)) rfl;go_simp;refine(zC7 t c za zc aa ac fa fc p _ k9 r7 (g4.1.below (Ab HB.1 f5.1)) (by omega) s ol oa oc (l8.1.below (Ab HB.1 f5.1)) (by omega) 1 (by decide)).mono ?_;rintro e' w3 ⟨b,L,K,S,E,H,a3,a5,a7,c1,c3,c5,c7,rfl,hA,h2,hC⟩;have s8:=I hC;clear hC;refine hK.1 _ _ (λ_ h0=>Ab h0 h2) ?_;have FK:=I (λ(F:Wd) (h:Bw w3 F)=>NetA.below (hA w3 ⟨Bv _,λ_ _ _=>rfl⟩) h);have B3:=fE f5 h2;clear hK b8 b9 c0 g9 h5 h6 n5 n6 n7 n8 o0 o1 e A K9 hA h2;refine Rz 11 9 rfl Z (λA e K9 hK=>?_);go_simp;refine hK.1 _ _ (λ_ h=>Ab h (J _ _)) ?_;clear hK e A K9;have B5:=fE B3 (J w3 jD);have Q5:=zh w3 jD;obtain⟨mb,d9⟩:∃g,g=w3.heap.size:=⟨_,rfl⟩;rw[<-d9]at Q5;simp only[<-d9];have o2:=I (show W.heap.size<=mb by have:=B3.1.size;omega);have HS:=I (show NetA L K S E H a3 a5 a7 (stN mb 0 [B_ b,CU H L.length c1,CU a3 K.length c3,CU a5 S.length c5,CU a7 E.length c7] (w3.alloc jD)) from FK.1 _ (Tt (by omega) _ 0 _ (J _ _)));replace Q5:=I Q5;clear d9 FK B3;generalize w3.alloc jD=w5 at*
  case' fb=>
   go_simp;refine hK.1 _ _ (λ_ h=>Ab h (J _ _)) ?_;clear hK e A K9;have B2:=fE f5 (J W.drew jD);have Q2:=zh W.drew jD;obtain⟨mb,d9⟩:∃g,g=W.heap.size:=⟨_,rfl⟩;rw[show W.drew.heap.size=mb from d9.symm]at Q2;simp only[<-d9];have o2:=I (show W.heap.size<=mb by omega);clear d9;try simp only[show(W.alloc jD).drew=W.drew.alloc jD from rfl]
   generalize W.drew.alloc jD=w4 at*;replace Q2:=I Q2;refine Rz 10 49 rfl Z (λA e K9 hK=>?_);obtain⟨b8,b9,c0⟩:=e.at (t:=39) (V:=(.agg #[CU za t.zn.length zc,CU aa t.ai.length ac,CU fa t.fs.length fc])) rfl;obtain⟨g9,h5,h6⟩:=e.at (t:=40) (V:=(.agg #[c.rp,c.rl,c.cn,c.sit,c.lv,c.nf,c.nt,CU p.ca c.cs.length p.cc,CU p.ra c.rs.length p.rc,CU p.ka c.ks.length p.kc,CU p.xa c.xs.length p.xc,CU p.la c.ls.length p.lc,CU p.oa c.oz.length p.oc,c.gu])) rfl;obtain⟨n5,n6,n7⟩:=e.at (t:=47) (V:=(B_ s)) rfl;obtain⟨n8,o0,o1⟩:=e.at (t:=48) (V:=(CU oa ol.length oc)) rfl;go_simp;refine(zC7 t c za zc aa ac fa fc p _ k9 r7 (g4.1.below (Ab HB.1 B2.1)) (by omega) s ol oa oc (l8.1.below (Ab HB.1 B2.1)) (by omega) 1 (by decide)).mono ?_;rintro e' w3 ⟨b,L,K,S,E,H,a3,a5,a7,c1,c3,c5,c7,rfl,hA,h2,hC⟩;have s8:=I hC;clear hC;refine hK.1 _ _ (λ_ h0=>Ab h0 h2) ?_;have B5:=fE B2 h2;have HS:=I (show NetA L K S E H a3 a5 a7 (stN mb 0 [B_ b,CU H L.length c1,CU a3 K.length c3,CU a5 S.length c5,CU a7 E.length c7] w3) from hA _ (Agr.stN (lo:=w4.heap.size) (Ag Q2.1) [B_ b,CU H L.length c1,CU a3 K.length c3,CU a5 S.length c5,CU a7 E.length c7] 0 w3));have Q5:=fO Q2 h2;clear hK b8 b9 c0 g9 h5 h6 n5 n6 n7 n8 o0 o1 e A K9 hA h2 B2 Q2;generalize w3=w5 at*
  all_goals
   refine Ub 12 rfl Z (λA e K9 hK=>?_);obtain⟨b8,b9,c0⟩:=e.at (t:=9) (V:=(Ua mb 0)) rfl;obtain⟨g9,h5,h6⟩:=e.at (t:=49) (V:=(.agg #[B_ b,CU H L.length c1,CU a3 K.length c3,CU a5 S.length c5,CU a7 E.length c7])) rfl;have m0:=zm (j:=0) Q5.1 rfl;have m1:=zm (j:=1) Q5.1 rfl;have m2:=zm (j:=2) Q5.1 rfl;have m3:=zm (j:=3) Q5.1 rfl;have m4:=zm (j:=4) Q5.1 rfl;have v0:=zQ (j:=0) Q5.1;have v1:=zQ (j:=1) Q5.1;have v2:=zQ (j:=2) Q5.1;have v3:=zQ (j:=3) Q5.1;have v4:=zQ (j:=4) Q5.1;have ml:=Ag Q5.1;have QW:=I (Pr [B_ b,CU H L.length c1,CU a3 K.length c3,CU a5 S.length c5,CU a7 E.length c7] [] [B_ ⟨#[]⟩,Ls,Ls,Ls,Ls] _ rfl Q5.1);have HW:=I (Tt o2.1 [B_ b,CU H L.length c1,CU a3 K.length c3,CU a5 S.length c5,CU a7 E.length c7] 0 _ B5.1);simp only[stN,Nat.zero_add,Nat.reduceAdd,List.length_nil]at QW HW HS;go_simp;refine hK.1 _ (λ_ _=>HW.1) ?_;clear hK b8 b9 c0 g9 h5 h6 e A K9 m0 m1 m2 m3 m4 v0 v1 v2 v3 v4 ml B5 Q5;refine Wn ?_;refine⟨mb,b,L,K,S,E,H,a3,a5,a7,c1,c3,c5,c7,?_,QW.1,HS.1,(by rw[m9.1];exact HW.1),(by rw[m9.1];exact o2.1),s8.1⟩;first|with_reducible rfl|with_reducible exact zBq (by decide)
 rintro a' w5 ⟨mb,b,L,K,S,E,H,a3,a5,a7,c1,c3,c5,c7,rfl,QW,hA,h7,d9,hC⟩;rw[m9.1]at h7 d9;rw[hA0];simp only[Dj,Act.put,O];have BW:=fE s2 (Ab HB.1 h7);have t0:=I (g4.1.below (Ab HB.1 h7));have t2:=fO QT h7;have t3:=fO QC h7;have QM:=I QW;have HA:=I hA;have t4:=I hC;clear QW hA h7 hC Z hA0 f5 QT QC HB g4 s2 hs s5 s4 t1 i8 C6 hr m8 l8;obtain⟨k1,k2,k3,k4,k5⟩:=zDQ t4.1;have AP:=I (zDp b L K S E H a3 a5 a7 c1 c3 c5 c7 w5 HA.1 k1 k2 k3);have t5:=I k4;obtain⟨R,hR⟩:∃R,R=MI K (zC0 L K S E) S:=⟨_,rfl⟩;rw[<-hR]at AP k3 k5;have t6:=I k5;have C7:R.length<=5000000000000:=k3;have m0:=zm (j:=0) QM.1 rfl;have m1:=zm (j:=1) QM.1 rfl;have m2:=zm (j:=2) QM.1 rfl;have m3:=zm (j:=3) QM.1 rfl;have m4:=zm (j:=4) QM.1 rfl;have ml:=Ag QM.1;clear k1 k2 k3 k4 k5 hR t4;go_wp2_with fail;refine AP.1.mono ?_;rintro e w6 ⟨v,rfl,o3,B6⟩;obtain⟨va,vc,rfl⟩:∃a c,v=CU a R.length c:=by
  obtain⟨X,_,h,_⟩:=o3;exact Js h
 have t7:=I o3;have o4:=fE BW B6;have l0:=I (t0.1.below B6);have t8:=fO t2 B6;have t9:=fO t3 B6;have f7:=fO QM B6;have u0:=I (HA.1.below B6);clear m0 m1 m2 m3 m4 ml o3 B6 AP BW t0 t2 t3 QM HA;by_cases h0:R.length=0
 . have h1:((R.length:Int)==0)=true:=by simp[h0]
   clear h0;go_wp2_with fail;refine(iO _).mono ?_;rintro e w7 ⟨rfl,B7⟩;go_wp2;go_ret;exact⟨rfl,Ab o4.1 B7⟩
 have h1:((R.length:Int)==0)=false:=by simpa using h0
 have h2:¬ (R.length:Int)=0:=by omega
 have h3:¬ R= []:=λe=>h0 (by rw[e];rfl)
 obtain⟨r3,i8,C8⟩:=sC ix;obtain⟨i,o5⟩:∃i,i=r3%R.length:=⟨_,rfl⟩;have t1:(r3:Int).tmod R.length=i:=by rw[o5];rfl
 have o6:i<R.length:=by rw[o5];exact Nat.mod_lt _ (by omega)
 have u1:(i:Int)<R.length:=by omega
 clear o5;obtain⟨X,x1,x2,x3⟩:=t7.1;obtain⟨_,_,u2,C9,D0,x4⟩:=Sw x2;simp only[Value.slice.injEq]at u2;obtain⟨rfl,-,rfl⟩:=u2;obtain⟨gx,D1,u3,h8,l1⟩:=x4.resolve_left h0;subst D1;obtain⟨pq,o7⟩:∃q,q=R[i]:=⟨_,rfl⟩;have u4:pq∈R:=by rw[o7];exact gM o6
 obtain⟨j1,j2,j3,j4,j5,j6⟩:=t6.1 pq u4;have l2:=x3 i X[i] pq (Cz (by omega)) (by rw[o7];exact Cz o6);obtain⟨pb,pc,u5,-,u6,u7⟩:=(show PatC w5.heap.size w6 X[i] pq from l2).form j2;have cx:w6.cell? (aD gx i)=some (Kx pb 0 pq.length pc):=by
  rw[<-u5];exact l1 i X[i] (Cz (by omega))
 have u8:=I (patIA u6 u7);have u9:=I j1;have v5:=I (aI j4 (aI j5 j6));have v6:=j3;clear x1 x2 x3 x4 C9 D0 u3 l1 u4 o7 l2 u5 u6 u7 j1 j2 j3 j4 j5 j6 t6 t7 h0;obtain⟨D,hD⟩:∃D,D=CC L pq:=⟨_,rfl⟩;obtain⟨Q,b5⟩:∃v:Wd,v=w6:=⟨_,rfl⟩;subst b5;have n0:=zm (j:=0) f7.1 rfl;have n1:=zm (j:=1) f7.1 rfl;have n2:=zm (j:=2) f7.1 rfl;have n3:=zm (j:=3) f7.1 rfl;have n4:=zm (j:=4) f7.1 rfl;have nl:=Ag f7.1;have a9:=I hD;clear hD;go_wp2_with fail;refine' Wi [⟨56, [],.kn _⟩,⟨57, [],.kn _⟩,⟨58, [],.kn _⟩,⟨59, [58],.kn _⟩,⟨60, [],.kn _⟩,⟨61, [60],.kn _⟩,⟨62, [59,61],.kn _⟩,⟨63, [57,62],.kn _⟩,⟨64, [63],.kn _⟩,⟨65, [56,64],.ow (λv F=>∃dv,v=.agg #[B_ b,dv]/\DuR Q.heap.size F dv D) (λ_ _ _ ⟨dv,h1,h2⟩ h=>⟨dv,h1,RwO.call h2 h⟩)⟩,⟨11, [],.bx jX⟩] [1,9,10] [65,11] (λ_ h=>aI (zD n0 nl h) (aI (zD n1 nl h) (aI (zD n2 nl h) (aI (zD n3 nl h) (aI (zD n4 nl h) (aI (zD cx h8 h) (aI (As nl h.size) (As h8 h.size)))))))) ?h4 ?c4 ?f4
 case h4=>
  intro u;simp only[Df,Jm,↓reduceIte,Nat.reduceEqDiff];intros
  and_intros
  all_goals try (first|trivial|(intros;refine Fy (by assumption) ?_;go_simp <;> rfl))
  . intro A w8 e M g f0 f1 K9 k;clear g;go_simp;refine(zDD b L K S E H a3 a5 a7 c1 c3 c5 c7 pq (some (aD pb 0)) pc w8 (u0.1.below M) (u8.1.below M) u9.1 v6 t5.1).mono ?_;rintro e' w9 ⟨dv,rfl,q1,q2⟩;refine k.1 _ _ ⟨q2,dv,rfl,?_⟩;rw[a9.1];exact RwO.low q1 M.size
  intro A w8 e M g K9 k;go_simp;exact k.1 _ _ ⟨J _ _,rfl,zh _ _⟩
 case c4=>kernel_rfl
 intro u w7 M;simp only[Df,Hu,Jm,Act.put,O,↓reduceIte,Nat.reduceEqDiff];rintro⟨dv,v7,o8⟩ ⟨xb,v8,a8,c6⟩;obtain⟨f6,c8,rfl⟩:∃a c,dv=CU a D.length c:=by
  obtain⟨X,_,h,_⟩:=o8;exact Js h
 rw[v7,v8];have y0:=zm (j:=0) c6 rfl;have y1:=zm (j:=1) c6 rfl;have v0:=zQ (j:=0) c6;have v1:=zQ (j:=1) c6;have yl:=Ag c6;have QP:=I (show((w7.setCell (aD xb 0) (B_ b)).setCell (aD xb 1) (CU f6 D.length c8)).heap[xb]?=some (oP b f6 D.length c8) from zg (i:=1) (zg (i:=0) c6));have BB:=I (show Bw Q ((w7.setCell (aD xb 0) (B_ b)).setCell (aD xb 1) (CU f6 D.length c8)) from(M.setCell (p:=aD xb 0) a8 _).setCell (p:=aD xb 1) a8 _);have DD:=I (show DuR Q.heap.size ((w7.setCell (aD xb 0) (B_ b)).setCell (aD xb 1) (CU f6 D.length c8)) (CU f6 D.length c8) D from RwO.same (RwO.same o8 (zC1 c6 (by decide)) (zC1 c6 (by decide))) (zC1 (zg (i:=0) c6) (by decide)) (zC1 (zg (i:=0) c6) (by decide)));clear v7 v8 c6 M a8 o8 n0 n1 n2 n3 n4 nl cx h8 t1 o6 u1 i8 C8 h1 h2 h3 C7;go_upto_region 7 with fail
 clear y0 y1 v0 v1 yl;generalize ((w7.setCell (aD xb 0) (B_ b)).setCell (aD xb 1) (CU f6 D.length c8))=wp at*;obtain⟨jt,jc,je⟩:=v5.1;rw[<-a9.1]at je;have D2:=I (zDP je);obtain⟨p1,p2,p3,p4⟩:=zD0 je;have hw:∀d∈D,d.length<=2^47/\∀x∈d,(Lit.int .i64 x.1).wf=true:=λd hd=>by
  obtain⟨k,hk,rfl⟩:=List.getElem_of_mem hd;have hE:=p3 k hk;rw[show Ba D k=D[k] by simp[Ba,Cr,hk]]at hE;obtain⟨k1,k2,k3,-⟩:=Ka hE;refine⟨by omega,λx hx=>?_⟩;obtain⟨m,hm,rfl⟩:=List.getElem_of_mem hx;have:=k3 m hm;rw[show Cm D[k] m=D[k][m] by simp[Cm,Cr,Cz hm]]at this;obtain⟨z,hz,F8⟩:=Qh this;rw[hz];exact cE (n:=12) ⟨by omega,by omega⟩ (by decide)
 obtain⟨_,_,e9,x5⟩:=DuR.sl DD.1 hw;simp only[Value.slice.injEq]at e9;obtain⟨D3,-,D4⟩:=e9;subst D3 D4;have o9:=I x5;have f8:=I p3;have D5:=I p4;have HJ:=I (aI jt jc);have PE:Hs t c b D=0:=(Pd jt jc).trans je;have h9:=I PE;have x6:=fE o4 BB.1;have i0:=I (l0.1.below BB.1);have p0:=fO t8 BB.1;have p5:=fO t9 BB.1;have PA:=I (WC t c za zc aa ac fa fc p (gI t za aa fa zc ac fc c p) wp i0.1 b D f6 c8 (by omega) o9.1);rw[PE]at PA;obtain⟨x0,x1,x2,xl⟩:=Ev p0.1;obtain⟨y0,y1,y2,y3,y4,y5,y6,y7,y8,y9,g5,g6,g7,g8,yl⟩:=Ek p5.1;have w0:=zm (j:=0) QP.1 rfl;have i1:=zm (j:=1) QP.1 rfl;have wl:=Ag QP.1;clear hw x5 p3 p4 jt jc je PE DD BB v5 a9 o4 l0 t8 t9 f7 u0 u8 u9 t5;go_wp2_with fail;refine PA.1.mono ?_;rintro e w8 ⟨ta,tc,rfl,x7,B8⟩;have i2:=I x7;have D6:=fE x6 B8;have i3:=I (i0.1.below B8);have x8:=fO p0 B8;have A1:=fO p5 B8;have i9:=fO QP B8;have D7:=I (o9.1.below B8);clear x0 x1 x2 xl y0 y1 y2 y3 y4 y5 y6 y7 y8 y9 g5 g6 g7 g8 yl w0 i1 wl x7 B8 PA x6 i0 p0 p5 QP o9;go_upto_region 12 with fail
 obtain⟨N,p6⟩:∃s,s=w8.heap.size:=⟨_,rfl⟩;obtain⟨d7,p7⟩:∃s,s=w8.heap.size+1:=⟨_,rfl⟩;have b1:=J w8 jS;have b2:=J (w8.alloc jS) jI;have g1:=zh w8 jS;have g2:=zh (w8.alloc jS) jI;rw[zr,<-p7]at g2;rw[<-p6]at g1;simp only[<-p7];simp only[<-p6];have b6:=I (show w8.heap.size<=N/\N≠d7 by omega);have A2:=I (Ab b1 b2);have A3:=I (Ac b2 g1);have A4:=I g2;clear b1 b2 g1 g2 p6 p7;generalize (w8.alloc jS).alloc jI=w9 at*;obtain⟨gd,d8,ed,p8,A5⟩:=fC D7.1 (by omega);have D8:f6=some (aD gd d8):=ed;clear ed;subst D8;have A6:=I A5;have F9:=Ag i9.1;have G0:=Ag x8.1;have G1:=Ag A1.1;clear A5;go_wp2_with fail;go_loopw [16] (λiv wr=>∃(i:Nat) (b0 b1 b2 b3 b4:Int),i<=D.length/\iv=Bn i/\Af (wr.heap[N]?=some (Obj.cells #[b0,b1,b2,b3,b4] 56))/\Af (wr.heap[d7]?=some jI)/\Af (Bw w8 wr)/\Af (b0=Be t c D 0 i/\b1=Be t c D 1 i/\b2=Be t c D 3 i/\b3=Dp t c D i/\b4=sumS t c D i)) (λiv _=>D.length-(intOf iv).toNat)
 case atStart=>exact⟨0,0,0,0,0,0,Bg _,rfl,A3,A4,A2,I ⟨rfl,rfl,rfl,rfl,rfl⟩⟩
 obtain⟨i,b0,b1,b2,b3,b4,hi,rfl,y,l,f,HV⟩:=hrel;clear A2 A3 A4;obtain⟨Q,b5⟩:∃v:Wd,v=wr:=⟨_,rfl⟩;subst b5;by_cases j0:i<D.length
 rotate_left
 . obtain rfl:i=D.length:=by omega
   have D9:=I (show sumS t c D D.length=(Bm t c (Ba D (D.length-1))).2-(Bm t c (Ba D 0)).1 by
    obtain⟨n9,E0⟩:∃n,D.length=n+1:=⟨D.length-1,by omega⟩;rw[E0];exact zDq t c D n9)
   have i1:=zm (j:=1) (Ac f.1 i9.1) rfl;have wl:=Ag (Ac f.1 i9.1);clear j0;go_wp2_with fail;clear i1 wl;go_loopw [29] (λjv wr=>∃(j:Nat),j<=5/\jv=Bn j/\Af (wr.heap[N]?=some (Obj.cells #[b0,b1,b2,b3,b4] 56))/\Af (wr.heap[d7]?=some jI)/\Af (Bw w8 wr)) (λjv _=>5-(intOf jv).toNat)
   case atStart=>exact⟨0,by decide,rfl,y,l,f⟩
   obtain⟨j,hj,rfl,y,l,f⟩:=hrel;obtain⟨Q,b5⟩:∃v:Wd,v=wr:=⟨_,rfl⟩;subst b5;by_cases E1:j<5
   rotate_left
   . obtain rfl:j=5:=by omega
     clear hj E1;go_wp2_with fail;refine(iO _).mono ?_;rintro e T ⟨rfl,o⟩;go_wp2;go_ret;exact⟨rfl,Ab D6.1 (Ab f.1 o)⟩
   rcases(show j=0\/j=1\/j=2\/j=3\/j=4 by omega) with rfl|rfl|rfl|rfl|rfl
   . have nk:=zw l.1;have U:=Ag l.1;have G:=I (tK (cA t c b D) ⟨#[108,101,103,115]⟩ ta tc Q (i2.1.below f.1) (ZL ..));rw[show Nh (cA t c b D) ⟨#[108,101,103,115]⟩=(b0,0) by rw[CO h9.1,show b0=Be t c D 0 D.length from HV.1.1];rfl]at G;go_wp2_with fail;refine G.1.mono ?_;rintro e T ⟨rfl,o⟩;have f:=fE f o;have y:=fO y o;have l:=fO l o;have s9:=zm (j:=0) y.1 rfl;have sl:=Ag y.1;have j7:(b0 !=b0)=false:=by simp
     clear nk U G o;go_wp2;go_roundw
     case rel=>exact⟨1,by decide,by go_num,y,l,f⟩
     case measure=>simp[intOf]
   . have nk:=zu l.1;have U:=Ag l.1;have G:=I (tK (cA t c b D) ⟨#[104,101,97,100,115]⟩ ta tc Q (i2.1.below f.1) (ZL ..));rw[show Nh (cA t c b D) ⟨#[104,101,97,100,115]⟩=(b1,0) by rw[CO h9.1,show b1=Be t c D 1 D.length from HV.1.2.1];rfl]at G;go_wp2_with fail;refine G.1.mono ?_;rintro e T ⟨rfl,o⟩;have f:=fE f o;have y:=fO y o;have l:=fO l o;have s9:=zm (j:=1) y.1 rfl;have sl:=Ag y.1;have j7:(b1 !=b1)=false:=by simp
     clear nk U G o;go_wp2;go_roundw
     case rel=>exact⟨2,by decide,by go_num,y,l,f⟩
     case measure=>simp[intOf]
   . have nk:=zC l.1;have U:=Ag l.1;have G:=I (tK (cA t c b D) ⟨#[98,108,111,99,107]⟩ ta tc Q (i2.1.below f.1) (ZL ..));rw[show Nh (cA t c b D) ⟨#[98,108,111,99,107]⟩=(b2,0) by rw[CO h9.1,show b2=Be t c D 3 D.length from HV.1.2.2.1];rfl]at G;go_wp2_with fail;refine G.1.mono ?_;rintro e T ⟨rfl,o⟩;have f:=fE f o;have y:=fO y o;have l:=fO l o;have s9:=zm (j:=2) y.1 rfl;have sl:=Ag y.1;have j7:(b2 !=b2)=false:=by simp
     clear nk U G o;go_wp2;go_roundw
     case rel=>exact⟨3,by decide,by go_num,y,l,f⟩
     case measure=>simp[intOf]
   . have nk:=Hk l.1;have U:=Ag l.1;have G:=I (tK (cA t c b D) ⟨#[99,114,101,100,105,116]⟩ ta tc Q (i2.1.below f.1) (ZL ..));rw[show Nh (cA t c b D) ⟨#[99,114,101,100,105,116]⟩=(b3,0) by rw[CO h9.1,show b3=Dp t c D D.length from HV.1.2.2.2.1];rfl]at G;go_wp2_with fail;refine G.1.mono ?_;rintro e T ⟨rfl,o⟩;have f:=fE f o;have y:=fO y o;have l:=fO l o;have s9:=zm (j:=3) y.1 rfl;have sl:=Ag y.1;have j7:(b3 !=b3)=false:=by simp
     clear nk U G o;go_wp2;go_roundw
     case rel=>exact⟨4,by decide,by go_num,y,l,f⟩
     case measure=>simp[intOf]
   have nk:=Ks l.1;have U:=Ag l.1;have G:=I (tK (cA t c b D) ⟨#[115,112,97,110]⟩ ta tc Q (i2.1.below f.1) (ZL ..));rw[show Nh (cA t c b D) ⟨#[115,112,97,110]⟩=(b4,0) by rw[CO h9.1,show b4=(Bm t c (Ba D (D.length-1))).2-(Bm t c (Ba D 0)).1 from HV.1.2.2.2.2.trans D9.1];rfl]at G;go_wp2_with fail;refine G.1.mono ?_;rintro e T ⟨rfl,o⟩;have f:=fE f o;have y:=fO y o;have l:=fO l o;have s9:=zm (j:=4) y.1 rfl;have sl:=Ag y.1;have j7:(b4 !=b4)=false:=by simp
   clear nk U G o;go_wp2;go_roundw
   case rel=>exact⟨5,by decide,by go_num,y,l,f⟩
   case measure=>simp[intOf]
 have F6:(i:Int)<(D.length:Int):=by omega
 obtain⟨d,hd⟩:∃d,d=Ba D i:=⟨_,rfl⟩;obtain⟨da,dc,i4,dl,p9⟩:=A6.1 i j0;rw[<-hd]at i4 dl p9;have i5:=I p9;have hE:=f8.1 i j0;rw[<-hd]at hE;have a9:=I hE;have A7:Bk t c d=0:=(pX HJ.1.1 HJ.1.2).trans hE;have g0:=I A7;have q5:=I hd;clear p9 hE hd A7;have WK:=I (show ∀F,Bw w8 F->(F.heap[tb]?=some (Ap t za zc aa ac fa fc)/\F.heap[cb]?=some (Aj c p))/\F.heap[xb]?=some (oP b (some (aD gd d8)) D.length c8)/\F.cell? (aD gd (d8+i))=some (CU da d.length dc)/\gd<F.heap.size from λF h=>⟨⟨Ac h x8.1,Ac h A1.1⟩,Ac h i9.1,zD i4 p8 h,As p8 h.size⟩);have FA:=I (λF (h:Bw Q F)=>(show(_/\_)/\((F.cell? (aD xb 1)=some (Kx gd d8 D.length c8)/\xb<F.heap.size)/\F.cell? (aD gd (d8+i))=some (CU da d.length dc)/\gd<F.heap.size) from have q:=WK.1 F (Ab f.1 h);⟨⟨Ev q.1.1,Ek q.1.2⟩,⟨zm (j:=1) q.2.1 rfl,Ag q.2.1⟩,q.2.2⟩));obtain⟨-,⟨i1,wl⟩,-,-⟩:=FA.1 Q (An _ _);go_wp2_with fail;clear i1 wl;refine' Gf [⟨84, [],.kn _⟩,⟨85, [],.kn _⟩,⟨86, [],.kn _⟩,⟨87, [86],.kn _⟩,⟨88, [],.kn _⟩,⟨89, [87,88],.kn _⟩,⟨90, [89],.kn _⟩,⟨91, [84,85,90],.ow (Lp (Pn t c d) (Bk t c d)) (λ_ _ _=>Lp.below)⟩,⟨83, [91],.ow (Lp (Pn t c d) (Bk t c d)) (λ_ _ _=>Lp.below)⟩,⟨92, [83],.ow (Lo (Pn t c d)) (λ_ _ _=>Lo.below)⟩,⟨93, [83],.kn (Bn (Bk t c d))⟩,⟨17, [92],.ow (Lo (Pn t c d)) (λ_ _ _=>Lo.below)⟩,⟨18, [93],.kn (Bn (Bk t c d))⟩] [5,6,11,16] [17,18] (λ_ h=>(FA.1 _ h)) ?h1 ?c1 ?f1
 case h1=>
  intro u;simp only[Df,↓reduceIte,Nat.reduceEqDiff];intros
  and_intros
  all_goals try (first|trivial|(intros;refine Fy (by assumption) ?_;go_simp <;> rfl))
  . intro A w1 e M g f0 f1 f2 K k;go_simp;refine(Calls.mono (sP t c za zc aa ac fa fc p (gI t za aa fa zc ac fc c p) w1 (i3.1.below (Ab f.1 M)) d da dc dl (i5.1.below (Ab f.1 M))) λ_ _=>gU.list).mono ?_;rintro e' w2 ⟨a,b,rfl,hA,h2⟩;exact k.1 _ _ ⟨h2,a,b,rfl,hA⟩
  . rintro A w1 e M g ⟨a,b,e1,hA⟩ K k;go_simp;exact k.1 _ _ ⟨An _ _,a,b,rfl,hA⟩
  . rintro A w1 e M g ⟨a,b,e1,hA⟩ K k;go_simp;exact k.1 _ _ ⟨An _ _,a,b,rfl,hA⟩
  . rintro A w1 e M g ⟨a,b,e1,hA⟩ K k;go_simp;exact k.1 _ _ ⟨An _ _,rfl⟩
  rintro A w1 e M g ⟨a,b,e1,hA⟩ K k;go_simp;exact k.1 _ _ ⟨An _ _,a,b,rfl,hA⟩
 case c1=>kernel_rfl
 intro u E2 M;simp only[Df,Hu,Act.put,O,↓reduceIte,Nat.reduceEqDiff];intro E3 A8;obtain⟨ya,yc,l3,yA⟩:=E3;rw[l3,A8,g0.1];have f:=fE f M;have y:=fO y M;have l:=fO l M;have YA:=I yA;clear l3 A8 yA M FA;obtain⟨Q,b5⟩:∃v:Wd,v=E2:=⟨_,rfl⟩;subst b5;have FA:=I (λF (h:Bw Q F)=>(show(_/\_)/\((F.cell? (aD xb 1)=some (Kx gd d8 D.length c8)/\xb<F.heap.size)/\F.cell? (aD gd (d8+i))=some (CU da d.length dc)/\gd<F.heap.size) from have q:=WK.1 F (Ab f.1 h);⟨⟨Ev q.1.1,Ek q.1.2⟩,⟨zm (j:=1) q.2.1 rfl,Ag q.2.1⟩,q.2.2⟩));go_wp2_with fail;refine' Gf [⟨95, [],.kn _⟩,⟨96, [],.kn _⟩,⟨97, [],.kn _⟩,⟨98, [97],.kn _⟩,⟨99, [],.kn _⟩,⟨100, [98,99],.kn _⟩,⟨101, [100],.kn _⟩,⟨102, [95,96,101],.kn (.tuple #[(Xc t c d),(Bk t c d)])⟩,⟨94, [102],.kn (.tuple #[(Xc t c d),(Bk t c d)])⟩,⟨103, [94],.kn (Bn (Xc t c d))⟩,⟨104, [94],.kn (Bn (Bk t c d))⟩,⟨19, [103],.kn (Bn (Xc t c d))⟩,⟨20, [104],.kn (Bn (Bk t c d))⟩] [5,6,11,16] [19,20] (λ_ h=>(FA.1 _ h)) ?h2 ?c2 ?f2
 case h2=>
  intro u;simp only[Df,↓reduceIte,Nat.reduceEqDiff];intros
  and_intros
  all_goals try (first|trivial|(intros;refine Fy (by assumption) ?_;go_simp <;> rfl))
  intro A w1 e M g f0 f1 f2 K k;go_simp;refine(zmw t c za zc aa ac fa fc p w1 (gI t za aa fa zc ac fc c p) (i3.1.below (Ab f.1 M)) d da dc dl (i5.1.below (Ab f.1 M))).mono ?_;rintro e' w2 ⟨rfl,h2⟩;exact k.1 _ _ ⟨h2,rfl⟩
 case c2=>kernel_rfl
 intro u E4 M;simp only[Df,Hu,Act.put,O,↓reduceIte,Nat.reduceEqDiff];intro A9 B0;rw[A9,B0,g0.1];obtain⟨kv,j8⟩:∃k,k=Nw c (Bo t c d):=⟨_,rfl⟩;rw[show Xc t c d=kv from(iP g0.1).trans j8.symm];have B4:=I j8;have G2:-1099511627776<=kv/\kv<=1099511627776:=by rw[j8];exact rO HJ.1.1 HJ.1.2 a9.1
 have f:=fE f M;have y:=fO y M;have l:=fO l M;have YA:=I (YA.1.below M);clear A9 B0 M FA j8;obtain⟨Q,b5⟩:∃v:Wd,v=E4:=⟨_,rfl⟩;subst b5;have E5:-10000000000000<=b3/\b3<=10000000000000:=by have:=rN HJ.1.1 HJ.1.2 f8.1 i (by omega);rw[HV.1.2.2.2.1];omega
 obtain⟨Y,l4⟩:∃x,x=b3+kv:=⟨_,rfl⟩;have E6:IntKind.i64.wrap (b3+kv)=Y:=by rw[wI];omega
 have B9:=I l4;have s3:=zm (j:=3) y.1 rfl;have f3:=zQ (j:=3) y.1;have sl:=Ag y.1;clear l4;go_upto_region 20 with fail
 have YA:=I (zC6 (j:=3) (v:=Bn Y) y.1 YA.1);have l:=I ((Below.heap_setCell _ (aD N 3) (Bn Y) d7 (λe=>b6.1.2 e.symm)).trans l.1);have y:=I (show(Q.setCell (aD N 3) (Bn Y)).heap[N]?=some (Obj.cells #[b0,b1,b2,Y,b4] 56) from zg y.1);have f:=I (f.1.setCell (p:=aD N 3) b6.1.1 (Bn Y));clear s3 f3 sl E6 E5;generalize Q.setCell (aD N 3) (Bn Y)=wq at*;obtain⟨Q,b5⟩:∃v:Wd,v=wq:=⟨_,rfl⟩;subst b5;have i6:=J Q jV;have g1:=zh Q jV;go_upto_region 21 with fail
 obtain⟨ib,q6⟩:∃g,g=Q.heap.size:=⟨_,rfl⟩;rw[<-q6]at g1;simp only[<-q6];have B:=I g1;have i7:=I (show ib≠N by have:=Ag y.1;omega);have f:=fE f i6;have y:=fO y i6;have l:=fO l i6;have YA:=I (YA.1.below i6);clear g1 i6 q6;generalize Q.alloc jV=wq at*;go_wp2_with fail;go_loopw [118] (λcv wr=>∃(k:Nat) (a0 H a2 a4:Int),k<=4/\cv=Bn k/\Af (wr.heap[N]?=some (Obj.cells #[a0,H,a2,Y,a4] 56))/\Af (wr.heap[d7]?=some jI)/\Af (wr.heap[ib]?=some jV)/\Af (Bw w8 wr)/\Af (Jk wr ya (Pn t c d))/\Af (a0=b0+(if 0<k then Am (Bo t c d) 0 else 0)/\H=b1+(if 1<k then Am (Bo t c d) 1 else 0)/\a2=b2+(if 2<k then Am (Bo t c d) 3 else 0)/\a4=b4+(if 3<k then Am (Bo t c d) 4 else 0))) (λcv _=>4-(intOf cv).toNat)
 case atStart=>exact⟨0,b0,b1,b2,b4,by decide,rfl,y,l,B,f,YA,I (by simp)⟩
 obtain⟨k,a0,H,a2,a4,hk,rfl,y,l,B,f,YA,c9⟩:=hrel;obtain⟨Q,b5⟩:∃v:Wd,v=wr:=⟨_,rfl⟩;subst b5
 have d2:=I (show(-1000000000000<=a0/\a0<=1000000000000)/\(-1000000000000<=H/\H<=1000000000000)/\(-1000000000000<=a2/\a2<=1000000000000)/\(-1000000000000<=a4/\a4<=1000000000000) by
  have q0:=rM HJ.1.1 HJ.1.2 f8.1 0 (by decide) i (by omega);have q1:=rM HJ.1.1 HJ.1.2 f8.1 1 (by decide) i (by omega);have q3:=rM HJ.1.1 HJ.1.2 f8.1 3 (by decide) i (by omega);have q4:=zEb HJ.1.1 HJ.1.2 f8.1 i (by omega);have d0:=fB HJ.1.1 HJ.1.2 a9.1 0 (by decide);have d1:=fB HJ.1.1 HJ.1.2 a9.1 1 (by decide);have d3:=fB HJ.1.1 HJ.1.2 a9.1 3 (by decide);have d4:=fB HJ.1.1 HJ.1.2 a9.1 4 (by decide);obtain⟨e0,e1,e2,e4⟩:=c9.1;obtain⟨f0,f1,f2,f3,f4⟩:=HV.1;rw[<-f0]at q0;rw[<-f1]at q1;rw[<-f2]at q3;rw[<-f4]at q4;split at e0 <;> split at e1 <;> split at e2 <;> split at e4 <;> omega)
 by_cases E7:k<4
 rotate_left
 . obtain rfl:k=4:=by omega
   have b7:=I (show a0=b0+Am (Bo t c d) 0/\H=b1+Am (Bo t c d) 1/\a2=b2+Am (Bo t c d) 3/\a4=b4+Am (Bo t c d) 4 by simpa using c9.1);clear c9 B i7 hk E7;by_cases j9:0<i
   rotate_left
   . have k0:=I (show a0=Be t c D 0 (i+1)/\H=Be t c D 1 (i+1)/\a2=Be t c D 3 (i+1)/\Y=Dp t c D (i+1)/\a4=sumS t c D (i+1) by
      obtain⟨e0,e1,e2,e4⟩:=b7.1;obtain⟨f0,f1,f2,f3,f4⟩:=HV.1;rw[e0,e1,e2,B9.1,B4.1,e4,f0,f1,f2,f3,f4,Be,Be,Be,Dp,sumS,iN j9,<-q5.1];simp)
     have E8:¬ (0:Int)<(i:Int):=by omega
     clear b7 HV d2 j9;go_wp2;go_roundw
     case rel=>exact⟨i+1,a0,H,a2,Y,a4,by omega,by go_num,y,l,f,k0⟩
     case measure=>simp[intOf];omega
   have E8:(0:Int)<(i:Int):=by omega
   obtain⟨m,hm⟩:∃m,i=m+1:=⟨i-1,by omega⟩;have ek:IntKind.i64.wrap ((i:Int)-1)=(m:Int):=by rw[wI];omega
   have C0:m<D.length:=by omega
   have F7:(m:Int)<(D.length:Int):=by omega
   obtain⟨x,hx⟩:∃x,x=Ba D m:=⟨_,rfl⟩;obtain⟨xa,xc,g3,xl,q7⟩:=A6.1 m C0;rw[<-hx]at g3 xl q7;have C1:=I q7;have hF:=D5.1 i (by omega) j0;rw[show i-1=m by omega,<-hx,<-q5.1]at hF;have q8:=f8.1 m C0;rw[<-hx]at q8
   have q9:=I (show Kc t c b x d=0 by
    unfold Kc
    rw[iP D2.1,Pd HJ.1.1 HJ.1.2];unfold Gw
    rw[iN (not_not_intro q8),iN (not_not_intro a9.1),iN (by rw[hF];decide)])
   obtain⟨C,a6⟩:∃v,v=(Bm t c d).1-(Bm t c x).2:=⟨_,rfl⟩;have E9:0<=C/\C<=c.lv:=by
    unfold Ll at hF
    simp only[Em,decide_eq_true_eq]at hF;rw[a6];exact⟨hF.1.2,hF.2⟩
   have F0:c.lv<=1000000000:=by have:=Ul HJ.1.2;omega
   have l5:=I (show Nh (Pq t c b x d) ⟨#[114,101,115,116]⟩=(C,0) by rw[CF q9.1,a6];rfl)
   have k0:=I (show a0=Be t c D 0 (i+1)/\H=Be t c D 1 (i+1)/\a2=Be t c D 3 (i+1)/\Y=Dp t c D (i+1)/\a4+C=sumS t c D (i+1) by
    obtain⟨e0,e1,e2,e4⟩:=b7.1;obtain⟨f0,f1,f2,f3,f4⟩:=HV.1;rw[e0,e1,e2,B9.1,B4.1,e4,f0,f1,f2,f3,f4,Be,Be,Be,Dp,sumS,iP j9,show i-1=m by omega,<-q5.1,<-hx,a6];simp)
   have FA:=I (λF (h:Bw Q F)=>(show(_/\_)/\((F.cell? (aD xb 0)=some (B_ b)/\F.cell? (aD xb 1)=some (Kx gd d8 D.length c8)/\xb<F.heap.size)/\F.cell? (aD gd (d8+i))=some (CU da d.length dc)/\F.cell? (aD gd (d8+m))=some (CU xa x.length xc)/\gd<F.heap.size) from have q:=WK.1 F (Ab f.1 h);⟨⟨Ev q.1.1,Ek q.1.2⟩,⟨zm (j:=0) q.2.1 rfl,zm (j:=1) q.2.1 rfl,Ag q.2.1⟩,q.2.2.1,zD g3 p8 (Ab f.1 h),q.2.2.2⟩));clear hx q7 hF q8 a6 b7 HV j9 hm g3;go_wp2_with fail;refine' Gf [⟨142, [],.kn _⟩,⟨143, [],.kn _⟩,⟨144, [],.kn _⟩,⟨145, [144],.kn _⟩,⟨146, [],.kn _⟩,⟨147, [146],.kn _⟩,⟨148, [],.kn _⟩,⟨149, [148],.kn _⟩,⟨150, [147,149],.kn _⟩,⟨151, [150],.kn _⟩,⟨152, [],.kn _⟩,⟨153, [152],.kn _⟩,⟨154, [],.kn _⟩,⟨155, [153,154],.kn _⟩,⟨156, [155],.kn _⟩,⟨157, [142,143,145,151,156],.ow (Lp (Pq t c b x d) (Kc t c b x d)) (λ_ _ _=>Lp.below)⟩,⟨141, [157],.ow (Lp (Pq t c b x d) (Kc t c b x d)) (λ_ _ _=>Lp.below)⟩,⟨158, [141],.ow (Lo (Pq t c b x d)) (λ_ _ _=>Lo.below)⟩,⟨159, [141],.kn (Bn (Kc t c b x d))⟩,⟨25, [158],.ow (Lo (Pq t c b x d)) (λ_ _ _=>Lo.below)⟩,⟨26, [159],.kn (Bn (Kc t c b x d))⟩] [5,6,11,16] [25,26] (λ_ h=>(FA.1 _ h)) ?h3 ?c3 ?f3
   case h3=>
    intro u;simp only[Df,↓reduceIte,Nat.reduceEqDiff];intros
    and_intros
    all_goals try (first|trivial|(intros;refine Fy (by assumption) ?_;go_simp <;> rfl))
    . intro A w1 e M g f0 f1 f2 f3 f4 K k;go_simp;refine(WH t c za zc aa ac fa fc p (gI t za aa fa zc ac fc c p) w1 (i3.1.below (Ab f.1 M)) b x d xa da xc dc xl dl (C1.1.below (Ab f.1 M)) (i5.1.below (Ab f.1 M))).mono ?_;rintro e' w2 ⟨a,b,rfl,hA,h2⟩;exact k.1 _ _ ⟨h2,a,b,rfl,hA⟩
    . rintro A w1 e M g ⟨a,b,e1,hA⟩ K k;go_simp;exact k.1 _ _ ⟨An _ _,a,b,rfl,hA⟩
    . rintro A w1 e M g ⟨a,b,e1,hA⟩ K k;go_simp;exact k.1 _ _ ⟨An _ _,a,b,rfl,hA⟩
    . rintro A w1 e M g ⟨a,b,e1,hA⟩ K k;go_simp;exact k.1 _ _ ⟨An _ _,rfl⟩
    rintro A w1 e M g ⟨a,b,e1,hA⟩ K k;go_simp;exact k.1 _ _ ⟨An _ _,a,b,rfl,hA⟩
   case c3=>kernel_rfl
   intro u F1 M;simp only[Df,Hu,Act.put,O,↓reduceIte,Nat.reduceEqDiff];intro F2 C2;obtain⟨ra,rc,l6,rA⟩:=F2;rw[l6,C2,q9.1];have G:=I (tK (Pq t c b x d) ⟨#[114,101,115,116]⟩ ra rc F1 rA (ZK ..));rw[l5.1]at G;have f:=fE f M;have y:=fO y M;have l:=fO l M;clear l6 C2 rA M FA ek;go_wp2_with fail;refine G.1.mono ?_;rintro e k6 ⟨rfl,k7⟩;have f:=fE f k7;have y:=fO y k7;have l:=fO l k7;have F3:¬ C<0:=by omega
   have F4:¬ c.lv<C:=by omega
   have q4:=zm (j:=4) (WK.1 k6 f.1).1.2 rfl;have cl:=Ag (WK.1 k6 f.1).1.2;clear G k7 l5 q9;obtain⟨a5,C3⟩:∃v,v=a4+C:=⟨_,rfl⟩;have ew:IntKind.i64.wrap (a4+C)=a5:=by have:=d2.1;rw[wI];omega
   rw[<-C3]at k0;clear C3 d2;have s9:=zm (j:=4) y.1 rfl;have f9:=zQ (j:=4) y.1;have sl:=Ag y.1;go_upto_region 31 with fail
   go_upto_region 14 with fail
   have l:=I ((Below.heap_setCell _ (aD N 4) (Bn a5) d7 (λe=>b6.1.2 e.symm)).trans l.1);have y:=I (show(k6.setCell (aD N 4) (Bn a5)).heap[N]?=some (Obj.cells #[a0,H,a2,Y,a5] 56) from zg y.1);have f:=I (f.1.setCell (p:=aD N 4) b6.1.1 (Bn a5));clear s9 f9 sl ew F3 F4 q4 cl E9 F0;generalize k6.setCell (aD N 4) (Bn a5)=G3 at*;go_wp2;go_roundw
   case rel=>exact⟨i+1,a0,H,a2,Y,a5,by omega,by go_num,y,l,f,k0⟩
   case measure=>simp[intOf];omega
 rcases(show k=0\/k=1\/k=2\/k=3 by omega) with rfl|rfl|rfl|rfl
 . have d5:=I (zm (j:=0) B.1 rfl);have ik:Q.cell? (aD ib 0)=some (Bn 0):=d5.1;have il:=Ag B.1;have nk:=zw l.1;have U:=Ag l.1;have G:=I (tK (Pn t c d) ⟨#[108,101,103,115]⟩ ya yc Q YA.1 (ZF t c d));rw[show Nh (Pn t c d) ⟨#[108,101,103,115]⟩=(Am (Bo t c d) 0,0) by rw[Uj g0.1];rfl]at G;obtain⟨x9,P⟩:∃x,x=Am (Bo t c d) 0:=⟨_,rfl⟩;rw[<-P]at G;have a8:=fB HJ.1.1 HJ.1.2 a9.1 0 (by decide);rw[<-P]at a8;obtain⟨C,a6⟩:∃v,v=a0+x9:=⟨_,rfl⟩;have ew:IntKind.i64.wrap (a0+x9)=C:=by have:=d2.1;rw[wI];omega
   have d6:=I (show C=a0+Am (Bo t c d) 0 from by rw[a6,P]);clear P a6 a8;go_wp2_with fail;refine G.1.mono ?_;rintro e T ⟨rfl,o⟩;have f:=fE f o;have y:=fO y o;have l:=fO l o;have B:=fO B o;have YA:=I (YA.1.below o);clear ik il nk U G o d5;have s9:=zm (j:=0) y.1 rfl;have f9:=zQ (j:=0) y.1;have sl:=Ag y.1;go_upto_region 25 with fail
   have YA:=I (zC6 (j:=0) (v:=Bn C) y.1 YA.1);have l:=I ((Below.heap_setCell _ (aD N 0) (Bn C) d7 (λe=>b6.1.2 e.symm)).trans l.1);have B:=I ((Below.heap_setCell _ (aD N 0) (Bn C) ib i7.1).trans B.1);have y:=I (show(T.setCell (aD N 0) (Bn C)).heap[N]?=some (Obj.cells #[C,H,a2,Y,a4] 56) from zg y.1);have f:=I (f.1.setCell (p:=aD N 0) b6.1.1 (Bn C));clear s9 f9 sl ew;generalize T.setCell (aD N 0) (Bn C)=r0 at*
   have b7:=I (show C=b0+(if 0<1 then Am (Bo t c d) 0 else 0)/\H=b1+(if 1<1 then Am (Bo t c d) 1 else 0)/\a2=b2+(if 2<1 then Am (Bo t c d) 3 else 0)/\a4=b4+(if 3<1 then Am (Bo t c d) 4 else 0) by
    have h1:=c9.1;have h2:=d6.1;simp at h1 h2 ⊢
    omega)
   clear c9 d6 d2;go_wp2;go_roundw
   case rel=>exact⟨1,C,H,a2,a4,by decide,by go_num,y,l,B,f,YA,b7⟩
   case measure=>simp[intOf]
 . have d5:=I (zm (j:=1) B.1 rfl);have ik:Q.cell? (aD ib 1)=some (Bn 1):=d5.1;have il:=Ag B.1;have nk:=zu l.1;have U:=Ag l.1;have G:=I (tK (Pn t c d) ⟨#[104,101,97,100,115]⟩ ya yc Q YA.1 (ZF t c d));rw[show Nh (Pn t c d) ⟨#[104,101,97,100,115]⟩=(Am (Bo t c d) 1,0) by rw[Uj g0.1];rfl]at G;obtain⟨x9,P⟩:∃x,x=Am (Bo t c d) 1:=⟨_,rfl⟩;rw[<-P]at G;have a8:=fB HJ.1.1 HJ.1.2 a9.1 1 (by decide);rw[<-P]at a8;obtain⟨C,a6⟩:∃v,v=H+x9:=⟨_,rfl⟩;have ew:IntKind.i64.wrap (H+x9)=C:=by have:=d2.1;rw[wI];omega
   have d6:=I (show C=H+Am (Bo t c d) 1 from by rw[a6,P]);clear P a6 a8;go_wp2_with fail;refine G.1.mono ?_;rintro e T ⟨rfl,o⟩;have f:=fE f o;have y:=fO y o;have l:=fO l o;have B:=fO B o;have YA:=I (YA.1.below o);clear ik il nk U G o d5;have s9:=zm (j:=1) y.1 rfl;have f9:=zQ (j:=1) y.1;have sl:=Ag y.1;go_upto_region 25 with fail
   have YA:=I (zC6 (j:=1) (v:=Bn C) y.1 YA.1);have l:=I ((Below.heap_setCell _ (aD N 1) (Bn C) d7 (λe=>b6.1.2 e.symm)).trans l.1);have B:=I ((Below.heap_setCell _ (aD N 1) (Bn C) ib i7.1).trans B.1);have y:=I (show(T.setCell (aD N 1) (Bn C)).heap[N]?=some (Obj.cells #[a0,C,a2,Y,a4] 56) from zg y.1);have f:=I (f.1.setCell (p:=aD N 1) b6.1.1 (Bn C));clear s9 f9 sl ew;generalize T.setCell (aD N 1) (Bn C)=r0 at*
   have b7:=I (show a0=b0+(if 0<2 then Am (Bo t c d) 0 else 0)/\C=b1+(if 1<2 then Am (Bo t c d) 1 else 0)/\a2=b2+(if 2<2 then Am (Bo t c d) 3 else 0)/\a4=b4+(if 3<2 then Am (Bo t c d) 4 else 0) by
    have h1:=c9.1;have h2:=d6.1;simp at h1 h2 ⊢
    omega)
   clear c9 d6 d2;go_wp2;go_roundw
   case rel=>exact⟨2,a0,C,a2,a4,by decide,by go_num,y,l,B,f,YA,b7⟩
   case measure=>simp[intOf]
 . have d5:=I (zm (j:=2) B.1 rfl);have ik:Q.cell? (aD ib 2)=some (Bn 2):=d5.1;have il:=Ag B.1;have nk:=zC l.1;have U:=Ag l.1;have G:=I (tK (Pn t c d) ⟨#[98,108,111,99,107]⟩ ya yc Q YA.1 (ZF t c d));rw[show Nh (Pn t c d) ⟨#[98,108,111,99,107]⟩=(Am (Bo t c d) 3,0) by rw[Uj g0.1];rfl]at G;obtain⟨x9,P⟩:∃x,x=Am (Bo t c d) 3:=⟨_,rfl⟩;rw[<-P]at G;have a8:=fB HJ.1.1 HJ.1.2 a9.1 3 (by decide);rw[<-P]at a8;obtain⟨C,a6⟩:∃v,v=a2+x9:=⟨_,rfl⟩;have ew:IntKind.i64.wrap (a2+x9)=C:=by have:=d2.1;rw[wI];omega
   have d6:=I (show C=a2+Am (Bo t c d) 3 from by rw[a6,P]);clear P a6 a8;go_wp2_with fail;refine G.1.mono ?_;rintro e T ⟨rfl,o⟩;have f:=fE f o;have y:=fO y o;have l:=fO l o;have B:=fO B o;have YA:=I (YA.1.below o);clear ik il nk U G o d5;have s9:=zm (j:=2) y.1 rfl;have f9:=zQ (j:=2) y.1;have sl:=Ag y.1;go_upto_region 25 with fail
   have YA:=I (zC6 (j:=2) (v:=Bn C) y.1 YA.1);have l:=I ((Below.heap_setCell _ (aD N 2) (Bn C) d7 (λe=>b6.1.2 e.symm)).trans l.1);have B:=I ((Below.heap_setCell _ (aD N 2) (Bn C) ib i7.1).trans B.1);have y:=I (show(T.setCell (aD N 2) (Bn C)).heap[N]?=some (Obj.cells #[a0,H,C,Y,a4] 56) from zg y.1);have f:=I (f.1.setCell (p:=aD N 2) b6.1.1 (Bn C));clear s9 f9 sl ew;generalize T.setCell (aD N 2) (Bn C)=r0 at*
   have b7:=I (show a0=b0+(if 0<3 then Am (Bo t c d) 0 else 0)/\H=b1+(if 1<3 then Am (Bo t c d) 1 else 0)/\C=b2+(if 2<3 then Am (Bo t c d) 3 else 0)/\a4=b4+(if 3<3 then Am (Bo t c d) 4 else 0) by
    have h1:=c9.1;have h2:=d6.1;simp at h1 h2 ⊢
    omega)
   clear c9 d6 d2;go_wp2;go_roundw
   case rel=>exact⟨3,a0,H,C,a4,by decide,by go_num,y,l,B,f,YA,b7⟩
   case measure=>simp[intOf]
 have d5:=I (zm (j:=3) B.1 rfl);have ik:Q.cell? (aD ib 3)=some (Bn 4):=d5.1;have il:=Ag B.1;have nk:=Ks l.1;have U:=Ag l.1;have G:=I (tK (Pn t c d) ⟨#[115,112,97,110]⟩ ya yc Q YA.1 (ZF t c d));rw[show Nh (Pn t c d) ⟨#[115,112,97,110]⟩=(Am (Bo t c d) 4,0) by rw[Uj g0.1];rfl]at G;obtain⟨x9,P⟩:∃x,x=Am (Bo t c d) 4:=⟨_,rfl⟩;rw[<-P]at G;have a8:=fB HJ.1.1 HJ.1.2 a9.1 4 (by decide);rw[<-P]at a8;obtain⟨C,a6⟩:∃v,v=a4+x9:=⟨_,rfl⟩;have ew:IntKind.i64.wrap (a4+x9)=C:=by have:=d2.1;rw[wI];omega
 have d6:=I (show C=a4+Am (Bo t c d) 4 from by rw[a6,P]);clear P a6 a8;go_wp2_with fail;refine G.1.mono ?_;rintro e T ⟨rfl,o⟩;have f:=fE f o;have y:=fO y o;have l:=fO l o;have B:=fO B o;have YA:=I (YA.1.below o);clear ik il nk U G o d5;have s9:=zm (j:=4) y.1 rfl;have f9:=zQ (j:=4) y.1;have sl:=Ag y.1;go_upto_region 25 with fail
 have YA:=I (zC6 (j:=4) (v:=Bn C) y.1 YA.1);have l:=I ((Below.heap_setCell _ (aD N 4) (Bn C) d7 (λe=>b6.1.2 e.symm)).trans l.1);have B:=I ((Below.heap_setCell _ (aD N 4) (Bn C) ib i7.1).trans B.1);have y:=I (show(T.setCell (aD N 4) (Bn C)).heap[N]?=some (Obj.cells #[a0,H,a2,Y,C] 56) from zg y.1);have f:=I (f.1.setCell (p:=aD N 4) b6.1.1 (Bn C));clear s9 f9 sl ew;generalize T.setCell (aD N 4) (Bn C)=r0 at*
 have b7:=I (show a0=b0+(if 0<4 then Am (Bo t c d) 0 else 0)/\H=b1+(if 1<4 then Am (Bo t c d) 1 else 0)/\a2=b2+(if 2<4 then Am (Bo t c d) 3 else 0)/\C=b4+(if 3<4 then Am (Bo t c d) 4 else 0) by
  have h1:=c9.1;have h2:=d6.1;simp at h1 h2 ⊢
  omega)
 clear c9 d6 d2;go_wp2;go_roundw
 case rel=>exact⟨4,a0,H,a2,C,by decide,by go_num,y,l,B,f,YA,b7⟩
 case measure=>simp[intOf]
