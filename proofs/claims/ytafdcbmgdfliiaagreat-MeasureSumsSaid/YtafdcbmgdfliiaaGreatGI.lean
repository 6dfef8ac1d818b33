/- a part of the proof -/
import Derived.Test.YtafdcbmgdfliiaaGreatGH
set_option linter.all false
set_option maxRecDepth 100000
set_option maxHeartbeats 3000000
namespace Go.Proofs.YtafdcbmgdfliiaaGreat
open Go.RowKit Go.Sort Go.Proofs.Tryz
variable {w w':Wd}{b j n o:Nat}{e t:TypeId}{v:Value}{c:Array Value}{f:Nat×Nat}{a:LV}{l:List zB}{s:BA}
theorem zW.of_own{l:LI}(h:w.ownsRow b e 1 v l.length (l.map (Value.int .i64))):∃a c,v=CU a l.length c/\zW w a l:=by
 rcases h.2 with⟨f,j⟩|⟨g,c,d,rfl,f,k,m,n,o,p⟩;exact⟨none,0,by rw[f,j],.inl (List.length_eq_zero_iff.1 j)⟩;refine⟨_,_,rfl,.inr ⟨g,0,rfl,Ag k,λi hi=>?_⟩⟩;have e:(d.toList.take (l.length*1))[i]?=some (Bn (Am l i)):=by
  rw[p];simp[Am,hi]
 grind[zm]
theorem Ma{a:Nat}{k:LV}(h:w.ownsRow a e b v n k)(l:w.heap[j]?=some (.cells c t f))(d:t≠e):some j≠v.ownBlock:=by
 rcases h.2 with⟨rfl,_⟩|⟨g,m,o,rfl,p,i,_⟩;all_goals grind[Value.ownBlock]
def bV:(prog.info? 3).map (λi=>(i.zero,i.size,i.bytes))=some (some (Bn 0),1,8):=by kernel_rfl
def Uw(w:Wd)(ka ea:Ae)(T:List (Int×Int)):Prop:=zW w ka (T.map Prod.fst)/\zW w ea (T.map Prod.snd)
def Uw.below{a b:Ae}{T:List (Int×Int)}(h:Uw w a b T)(c:Bw w w'):Uw w' a b T:=⟨h.1.below c,h.2.below c⟩
def Og(T:List (Int×Int))(i:Nat):Int×Int:=T.getD i (0,0)
theorem TB(T:List (Int×Int))(i:Nat):Am (T.map Prod.fst) i=(Og T i).1:=by
 grind[Am,Og]
theorem TH(T:List (Int×Int))(i:Nat):Am (T.map Prod.snd) i=(Og T i).2:=by
 grind[Am,Og]
theorem eQ(s:BA):∀(l:List zB) (n:Nat),fi (l.take n) s=(fi l s).bind λi=>if i<n then some i else none
 |[],n=>by simp[fi]
 |x::l,0=>by
  simp_all[List.take_zero,fi]
 |x::l,n+1=>by
  have a:=eQ s l n;unfold fi at a ⊢
  rw[List.take_succ_cons,List.findIdx?_cons,List.findIdx?_cons];by_cases h:x.name=s
  . simp[h]
  simp only[h,decide_false,Mn,if_false,a];cases l.findIdx? (λx=>decide (x.name=s))<;>simp_all
theorem UA(T:List (Int×Int))(h:Qx (l.take n) s<0):Co l T n s=none:=by
 grind[Qx,eQ,Co]
theorem TZ(T:List (Int×Int))(h:¬ Qx (l.take n) s<0):∃i:Nat,Qx (l.take n) s=i/\i<n/\Co l T n s=some (Og T i):=by
 grind[Qx,eQ,Co,Og]
def zo6(b:BA->Option (Int×Int))(a c:Int)(s:BA)(d:List zH):Bt b a (.mk 6 c s d)=if Cl a s≠0 then(Cl a s,0) else(b s).getD (0,6):=by rw[Bt,iP rfl]
def qM(a:BA->Option (Int×Int))(b o d:Int)(s:BA)(c:List zH)(h:o≠6):Bt a b (.mk o d s c)=if(Cn a b c).1≠0 then(0,(Cn a b c).1) else if Ch o (Cn a b c).2≠0 then(Ch o (Cn a b c).2,0) else(0,9):=by rw[Bt,iN h]
def Ww(B:Nat)(l:List zB)(n:Nat)(la:Ae)(lc:Nat)(T:List (Int×Int))(ka:Ae)(kc:Nat)(ea:Ae)(ec:Nat)(k:Nat)(x:zH):Prop:=∀(xa:Ae) (xc:Nat) (w:Wd),B<=w.heap.size->Ia x->Db x=true->Bq x<=200->Et B w xa x.args->Uw w ka ea T->Me B w la (l.take n)->
 Calls prog 104 #[.agg #[.slice ka n kc,.slice ea n ec],.slice la n lc,k,.agg #[x.op,x.num,.string x.name,.slice xa x.args.length xc]] w λe w'=>e=.returned (.tuple #[Bn (Bt (Co l T n) k x).1,Bn (Bt (Co l T n) k x).2])/\Below w.heap.size w w'
def MB(B:Nat)(l:List zB)(n:Nat)(hn:n<=l.length)(la:Ae)(lc:Nat)(T:List (Int×Int))(g9:T.length=n)(S:Ae)(K:Nat)(U:Ae)(L:Nat)(k:Nat)(f4:k<4)(o z:Int)(s:BA)(c:List zH)(IH:∀j,j<c.length->Ww B l n la lc T S K U L k (Au c j)):Ww B l n la lc T S K U L k (.mk o z s c):=by
 intro xa xc w g C a7 D ha a8 Y;obtain⟨hs,f5,_,_⟩:=C;simp only[zH.op,zH.num,zH.name,zH.args]at f5 ha hs ⊢;have a9:(l.take n).length=n:=by rw[List.length_take];omega
 have h0:n<=140737488355328:=by have:=Y.1;omega
 have g7:1+Dc c<=200:=by rw[Bq]at D;exact D
 have f6:c.length<=200:=by have:=iM c;omega
 have⟨hh,b0⟩:=Zb a7;simp only[Nr,Em]at hh;obtain⟨⟨⟨g1,h3⟩,_⟩,_⟩:=hh;have⟨h1,h2⟩:=Om.1 g1;have b3:o=6->c= []:=λe=>by subst e;simp[zL]at h3;exact h3
 have H3:=I h3;have H6:=I b3;have HW:=I b0;have HI:=I IH;have HA:=I ha;have b4:=I a8;have b5:=I Y;have⟨i0,hi,f7,f8,f9⟩:=info_parts bV;clear IH ha a8 Y h3 b3 b0 g1 a7 D;go_enter func104,ntmps104;go_wp2_with fail;have HB:=I (Ab (J w (oJ S n K U n L)) (J _ (Dq o z s xa c.length xc)));have QK:=I (zd (o':=(Dq o z s xa c.length xc)) (zh w (oJ S n K U n L)));have QX:=I (zh (w.alloc (oJ S n K U n L)) (Dq o z s xa c.length xc));rw[zr]at QX;have HO:Af (World.ownsRow ((w.alloc (oJ S n K U n L)).alloc (Dq o z s xa c.length xc)) w.heap.size 3 1 (.slice none 0 0) 0 (([]:LI).map (Value.int .i64))):=I ⟨rfl,.inl ⟨rfl,rfl⟩⟩;have⟨xb,Z⟩:=aT (w.heap.size+1);rw[<-Z]at QX;simp only[<-Z];clear Z;generalize (w.alloc (oJ S n K U n L)).alloc (Dq o z s xa c.length xc)=W at*;go_loopw [10,11] (λt i wr=>∃(j:Nat) (v:Value) (h:LI),j<=c.length/\i=.int .i64 j/\t=v/\h.length=j/\Af (Cn (Co l T n) k c=((Cn (Co l T n) k (c.drop j)).1,h++(Cn (Co l T n) k (c.drop j)).2))/\Af (wr.ownsRow w.heap.size 3 1 v h.length (h.map (Value.int .i64)))/\Af (wr.heap[w.heap.size]?=some (oJ S n K U n L))/\Af (wr.heap[xb]?=some (Dq o z s xa c.length xc))/\Af (Bw w wr)) (λ_ i _=>c.length-(intOf i).toNat);exact⟨0,_, [],Bg _,rfl,rfl,rfl,I (by simp),HO,QK,QX,HB⟩;clear HO QK QX HB;obtain⟨j,v,h,hj,rfl,rfl,M,p,hO,A,q,a⟩:=hrel;have y0:=zw A.1;have y1:=zu A.1;have yl:=Ag A.1;have x0:=zw q.1;have x2:=zC q.1;have x3:=Hk q.1;have b6:=Ag q.1;by_cases r:j<c.length
 . have⟨b,h4,b7,hb,b8⟩:=HA.1.cells (by omega);have⟨a2,b9,g0,⟨c0,c1,c2,c3⟩,C,E⟩:=(b8.keep (a.1.mono g)).at j r;have g2:b<wr.heap.size:=As g0 (Bf g a.1.size);rw[b7]at x3;have V:o≠6:=λe=>by have:=H6.1 e;rw[this]at r;simp at r
   have O6:=I V;have C1:=I (λdd os=>Fa (HI.1 j r a2 b9 (grow (redrawn wr dd) os) (Bf (Bf g a.1.size) (bR wr dd os).size) C (kI HW.1 j r) (by have:=iQ (l:=c) j r;omega) (E.keep ((bR wr dd os).mono (Bf g a.1.size))) ((b4.1.below a.1).below (bR wr dd os)) (b5.1.keep ((Ab a.1 (bR wr dd os)).mono g) (Is.keep ((Ab a.1 (bR wr dd os)).mono g)))));clear b8 E C b7 V;go_wp2_with fail;have r0:=cR y0;have r1:=cR y1;have r2:=cR x3;have r3:=cR c0;have r4:=cR c1;have r5:=cR c2;have r6:=cR c3;refine SY ?_;repeat go_big_quiet_step (with_reducible exact C1.1 _ _)
   refine wpQuiet_nil ?_;intro _ g3;obtain⟨⟨dq,F⟩,c6⟩:=g3;subst c6;have N:=fE a (bR wr dq F);have P:=fO A (bR wr dq F);have Q:=fO q (bR wr dq F);have G:=I (Sh hO.1 a.1 (bR wr dq F));clear r0 r1 r2 r3 r4 r5 r6 C1 c0 c1 c2 c3 y0 y1 yl x0 x2 x3 b6 g2 hO A q a;generalize grow (redrawn wr dq) F=W2 at*;by_cases f:(Bt (Co l T n) k (Au c j)).2=0
   . have R:=I (BO r p.1 f);have g8:h.length<=200:=by omega
     have nk:=Ma G.1 P.1 (by decide);have nx:=Ma G.1 Q.1 (by decide);rw[f];go_wp2_with (at_builtin;refine wpList_append_own _ rfl _ _ 22 rfl w.heap.size 3 i0 (.int .i64 0) 1 8 underlying22 hi f7 f8 f9 rfl (by decide) _ _ _ rfl (G.1.alloc _) (aD W2.heap.size 0) 1 1 [.int .i64 (Bt (Co l T n) k (Au c j)).1] rfl rfl ?c1 ?c2 ?c3 ?c4 ?c5 ?_)
     case c1=>exact Hh W2 [.int .i64 (Bt (Co l T n) k (Au c j)).1] 3
     case c2=>intro u hu;simp at hu;subst hu;rfl
     case c3=>unfold maxLen;omega
     case c4=>omega
     case c5=>have:=N.1.size;simp;omega
     intro v' w3 H m _;have c7:=I (Ld (e':=3) N.1 rfl G.1 m);have c8:=I ((m.block _ (Ag (zd P.1)) nk).trans (zd P.1));have c9:=I ((m.block _ (Ag (zd Q.1)) nx).trans (zd Q.1));have d0:=I (show w3.ownsRow w.heap.size 3 1 v' (h++ [(Bt (Co l T n) k (Au c j)).1]).length ((h++ [(Bt (Co l T n) k (Au c j)).1]).map (Value.int .i64)) by
      rw[Gh,Ii,M];exact H)
     have X:(h++ [(Bt (Co l T n) k (Au c j)).1]).length=j+1:=by simp[M]
     clear H m nk nx G P Q N p;go_wp2;go_roundw;(try((repeat apply eX);refine⟨?_,rfl⟩));exact⟨j+1,_,_,by omega,by go_num,rfl,X,R,d0,c8,c9,c7⟩;simp[intOf];omega
   have R:=I (yZ r p.1 f);have e2:((Bt (Co l T n) k (Au c j)).2 !=0)=true:=by simpa using f
   have x:=I (show Bt (Co l T n) k (.mk o z s c)=(0,(Bt (Co l T n) k (Au c j)).2) by rw[qM _ _ _ _ _ _ O6.1,R.1,iP f]);clear f;go_wp2;go_ret2;exact⟨zJ (by rw[x.1]) (by rw[x.1]),N.1⟩
 obtain rfl:j=c.length:=by omega
 have d3:Cn (Co l T n) k c=(0,h):=by rw[p.1,Gk,Cn];simp
 have g4:=I d3;clear d3 p;by_cases V:o=6
 . subst V;have g5:c= []:=H6.1 rfl;subst g5;have Hv:=I (zo6 (Co l T n) k z s []);go_wp2_with fail;refine ca (mZ k f4 s wr hs) λw1 y=>?_;have d:=fE a y;have a0:=fO A y;have d4:=fO q y;clear y a A q x0 x2 x3 b6 y0 y1 yl hO;by_cases f:Cl k s=0
   . have a1:=I (Hv.1.trans (iN (by simpa using f)));have e2:(Pw (Cl k s)==0)=false:=by rw[f];rfl
     have z2:=zC d4.1;have zl:=Ag d4.1;clear f Hv;go_wp2_with fail;have a4:=I (uP (l.take n) s la lc B w1 (Bf g d.1.size) (b5.1.keep (d.1.mono g) (Is.keep (d.1.mono g))));rw[a9]at a4;refine a4.1.mono ?_;rintro e w2 ⟨rfl,rfl⟩;clear a4;by_cases e3:Qx (l.take n) s<0
     . have x:=I (show Bt (Co l T n) k (.mk 6 z s [])=(0,6) by rw[a1.1,UA T e3];rfl);go_wp2;go_ret2;exact⟨zJ (by rw[x.1]) (by rw[x.1]),d.1⟩
     have⟨i,d5,h5,d6⟩:=TZ T e3;have x:=I (show Bt (Co l T n) k (.mk 6 z s [])=Og T i by rw[a1.1,d6];rfl);rw[d5];have a5:=b4.1.below d.1;have⟨b1,d7,d8,y,d9⟩:=a5.1.cells (by rw[List.length_map];omega);have⟨b2,f0,f1,h6,f2⟩:=a5.2.cells (by rw[List.length_map];omega);have d1:=d9 i (by rw[List.length_map];omega);have d2:=f2 i (by rw[List.length_map];omega);rw[TB]at d1;rw[TH]at d2;have y0:w1.cell? (aD w.heap.size 0)=some (CU (some (aD b1 d7)) n K):=d8 ▸ EE 0 a0.1 rfl;have y1:w1.cell? (aD w.heap.size 1)=some (CU (some (aD b2 f0)) n L):=f1 ▸ EE 1 a0.1 rfl;have yl:=Ag a0.1;clear d9 f2 a5 d8 f1 e3 d5 d6 a1;go_wp2;go_quiet (fail);go_wp2;go_ret2;exact⟨zJ (by rw[x.1]) (by rw[x.1]),Ab d.1 (dr _ _)⟩
   have x:Af (Bt (Co l T n) k (.mk 6 z s [])=(Cl k s,0)):=I (Hv.1.trans (iP (by simpa using f)));have e2:(Pw (Cl k s)==0)=true:=by rw[Pw,iN f];rfl
   clear f;go_wp2;go_ret2;exact⟨zJ (by rw[x.1]) (by rw[x.1]),d.1⟩
 have e6:(o==6)=false:=by simpa using V
 have Hv:=I (show Bt (Co l T n) k (.mk o z s c)=if Ch o h≠0 then(Ch o h,0) else(0,9) by rw[qM _ _ _ _ _ _ V,g4.1];rfl);obtain⟨a3,f3,rfl,hI⟩:=zW.of_own hO.1;have g6:=I hI;have ok:Af (BY o h.length):=I ⟨h1,h2,V,by rw[M];exact H3.1⟩;have a6:h.length<=140737488355328:=by omega
 clear hI V M;go_wp2_with fail;refine ca (JX o h a3 f3 wr a6 g6.1 ok.1) λw1 y=>?_;have d:=fE a y;clear y;by_cases f:Ch o h=0
 . have x:=I (show Bt (Co l T n) k (.mk o z s c)=(0,9) by rw[Hv.1,iN (by simpa using f)]);have e2:(Ch o h==0)=true:=by simpa using f
   clear f;go_wp2;go_ret2;exact⟨zJ (by rw[x.1]) (by rw[x.1]),d.1⟩
 have x:=I (show Bt (Co l T n) k (.mk o z s c)=(Ch o h,0) by rw[Hv.1,iP f]);have e2:(Ch o h==0)=false:=by simpa using f
 clear f;go_wp2;go_ret2;exact⟨zJ (by rw[x.1]) (by rw[x.1]),d.1⟩
def wC(B:Nat)(l:List zB)(n:Nat)(q:n<=l.length)(c:Ae)(d:Nat)(T:List (Int×Int))(a:T.length=n)(e:Ae)(f:Nat)(g:Ae)(h:Nat)(k:Nat)(b:k<4)(x:zH):Ww B l n c d T e f g h k x:=by
 have⟨m,r⟩:=aT (SizeOf.sizeOf x);induction m using Nat.strongRecOn generalizing x with
 |_ m ih=>
  subst r;obtain⟨o,i,s,p⟩:=x;exact MB B l n q c d T a e f g h k b o i s p λj hj=>ih _ (Rc (x:=.mk o i s p) hj) _ rfl
def aL{q:Nat}{k b:TypeId}{s l:Nat}{m n:Value}{t:Nat}{c:LV}(p:w.ownsRow j b l n o a)(u:w.ownsRow q k s m t c)(d:b≠k)(v:w.grownBy w' m.ownBlock):w'.ownsRow j b l n o a:=by
 refine⟨p.1,?_⟩;rcases p.2 with h|⟨g,e,f,x,y,i,r⟩;exact .inl h;exact .inr ⟨g,e,f,x,y,(v.block g (Ag i) (Ma u i d)).trans i,r⟩
theorem No{l:Nat}{d:TypeId}{m:Nat}{n:Value}{p:Nat}(q:w.ownsRow l d m n o a)(s:w.heap[p]?=some (.cells c t f))(i:t≠d)(u:w.grownBy w' (some p)):w'.ownsRow l d m n o a:=by
 refine⟨q.1,?_⟩;rcases q.2 with h|⟨g,j,k,v,x,b,r⟩;exact .inl h;refine .inr ⟨g,j,k,v,x,(u.block g (Ag b) ?_).trans b,r⟩;grind
def SZ:(prog.info? 53).map (λi=>(i.zero,i.size,i.bytes))=some (some (Bn 0),1,8):=by kernel_rfl
def Ys{P:Program}{b:Array Oper}{Q:Exit->Act->Wd->Prop}{d:Nat}{a:Act}{c:Wd}(S:Wd->Prop)(Z:List Nat)(e:P.follows .mixedOrders=true)(f:w.drew=c)(h:Ds P .any b Q S Z b.size (Array.replicate b.size false) a c):(Code.region d b true).wp P Q a w:=bE S Z e (f ▸ h)
def MC(B:Nat)(l:List zB)(n:Nat)(k:n<=l.length)(a:Ae)(g:Nat)(T:List (Int×Int))(b:T.length=n)(c:Ae)(h:Nat)(d:Ae)(i:Nat)(x:zH)(f:Ae)(j:Nat)(w:Wd)(m:B<=w.heap.size)(o:Ia x)(p:Db x=true)(q:Bq x<=200)(r:Et B w f x.args)(s:Uw w c d T)(t:Me B w a (l.take n)):
 CV 104 #[.agg #[CU c n h,CU d n i],CU a n g,Bn 0,.agg #[x.op,x.num,B_ x.name,CU f x.args.length j]] w (.tuple #[Bn (Bt (Co l T n) 0 x).1,Bn (Bt (Co l T n) 0 x).2]):=wC B l n k a g T b c h d i 0 (by omega) x f j w m o p q r s t
def aN{u:Value}(h:w.heap[b]?=some (.cells #[u] t f))(j:Nat)(a:Value)(c: [u][j]?=some a):w.cell? (Addr.add (aD b 0) j)=some a:=by
 cases j with
 |zero=>
  have e:u=a:=by simpa using c
  subst e;exact EE 0 h rfl
 |succ j=>simp at c
theorem gC{B:Nat}{a:Ae}(h:Me B w a l)(n:Nat):Me B w a (l.take n):=by
 obtain⟨d,h⟩:=h;refine⟨Bf (by grind) d,?_⟩;rcases h with rfl|⟨b,c,e,f,g⟩;all_goals grind[Ak]
theorem iE(l:List zB)(j:Nat):((Bs l j).map Prod.fst).length=j:=by grind[Yy]
theorem iD(l:List zB)(j:Nat):((Bs l j).map Prod.snd).length=j:=by grind[Yy]
def UR(w:Wd)(L:List zB)(e:Ending)(w':Wd):Prop:=∃ka kc ea ec,e=.returned (.agg #[.slice ka L.length kc,.slice ea L.length ec])/\Uw w' ka ea (Bs L L.length)/\Below w.heap.size w w'
def JI(L:List zB)(la:Ae)(lc:Nat)(B:Nat)(w:Wd)(f6:B<=w.heap.size)(t7:L.length<=lc/\lc<=9223372036854775807)(t9:L.length<=1000)(ha:Me B w la L):Calls prog 105 #[.slice la L.length lc] w (UR w L):=by
 have HA:=I ha;obtain⟨i0,hi,l7,l8,l9⟩:=info_parts bV;obtain⟨i1,hj,m0,m1,m2⟩:=info_parts SZ;clear ha;go_in;go_wp2_with fail;have HB:=I (Ab (J w jO) (J _ jO));have QR:=I (zd (o':=jO) (zh w jO));have QT:=I (zh (w.alloc jO) jO);rw[zr]at QT;have o8:Af (World.ownsRow ((w.alloc jO).alloc jO) w.heap.size 3 1 Ls 0 ([]:LV)):=I ⟨rfl,.inl ⟨rfl,rfl⟩⟩;have o9:Af (World.ownsRow ((w.alloc jO).alloc jO) w.heap.size 53 1 Ls 0 ([]:LV)):=I ⟨rfl,.inl ⟨rfl,rfl⟩⟩;obtain⟨c,m3⟩:=aT (w.heap.size+1);rw[<-m3]at QT;simp only[<-m3];have p0:=I (show w.heap.size<c by omega);clear m3;obtain⟨rb,m4⟩:=aT w.heap.size;rw[<-m4]at QR;generalize (w.alloc jO).alloc jO=W at*;rw[m4]at QR;clear m4 rb;go_loopw [4] (λi wr=>∃(j:Nat) (v1 v2:Value),j<=L.length/\i=Bn j/\Af (wr.heap[w.heap.size]?=some jO)/\Af (wr.heap[c]?=some (.cells #[v1,v2] 206 (0,0)))/\Af (wr.ownsRow w.heap.size 3 1 v1 ((Bs L j).map Prod.fst).length (((Bs L j).map Prod.fst).map (Value.int .i64)))/\Af (wr.ownsRow w.heap.size 53 1 v2 ((Bs L j).map Prod.snd).length (((Bs L j).map Prod.snd).map (Value.int .i64)))/\Af (Bw w wr)) (λi _=>L.length-(intOf i).toNat);exact⟨0,_,_,Bg _,rfl,QR,QT,o8,o9,HB⟩;clear o8 o9 QR QT HB;obtain⟨j,v1,v2,u0,rfl,p,b2,d6,d7,a⟩:=hrel;have y0:=zw b2.1;have y1:=zu b2.1;have yl:=Ag b2.1;by_cases t2:j<L.length
 . obtain⟨b,t3,p1,hb,p2⟩:=(HA.1.keep (a.1.mono f6) (Is.keep (a.1.mono f6))).cells (by omega);obtain⟨_,_,a2,k3,⟨c1,c2,c3,c4⟩,k4,f7⟩:=p2 j t2;have d8:b<wr.heap.size:=by have:=a.1.size;omega
   have HF:=I k4;have m5:=I f7;have u1:=I p1;subst p1;clear p2 f7 k4;go_wp2_with fail;refine ca (aK (Ak L j).ex a2 k3 wr B (by have:=a.1.size;omega) HF.1 m5.1) λw1 n=>?_;have f8:=fO p n;have V:=fO b2 n;have G:=I (Sh d6.1 a.1 n);have H:=I (Sh d7.1 a.1 n);have E:=fE a n;have c5:=I (m5.1.keep (n.mono (show B<=wr.heap.size by have:=a.1.size;omega)));have t4:=Ag V.1;have z1:=zj c1 d8 n;have z2:=zj c2 d8 n;have z3:=zj c3 d8 n;have z4:=zj c4 d8 n;have zb:b<w1.heap.size:=As d8 n.size;clear n c1 c2 c3 c4 p b2 d6 d7 a y0 y1 yl m5 d8;go_upto_if 20 with(fail)
   go_cut [5,6] (λk e wx=>∃l d:Int,k=Bn l/\e=Bn d/\Af ((Ur L (Bs L j) j)=(l,d))/\Af (wx.heap[w.heap.size]?=some jO)/\Af (wx.heap[c]?=some (.cells #[v1,v2] 206 (0,0)))/\Af (wx.ownsRow w.heap.size 3 1 v1 ((Bs L j).map Prod.fst).length (((Bs L j).map Prod.fst).map (Value.int .i64)))/\Af (wx.ownsRow w.heap.size 53 1 v2 ((Bs L j).map Prod.snd).length (((Bs L j).map Prod.snd).map (Value.int .i64)))/\Af (Bw w wx))
   case first=>
    by_cases e0:Bb (Ak L j).ex=0
    . obtain⟨p3,k5,_⟩:=Ql e0;have F:=I (show(Ur L (Bs L j) j)=Bt (Co L (Bs L j) j) 0 (Ak L j).ex by rw[Ur,iN (by simpa using e0)]);obtain⟨ka,kc,rfl,b3⟩:=zW.of_own G.1;obtain⟨ea,ec,rfl,b4⟩:=zW.of_own H.1;have k6:Af (Uw w1 ka ea (Bs L j)):=I ⟨b3,b4⟩;have X:=iE L j;have Y:=iD L j;have k7:B<=w1.heap.size:=Bf f6 E.1.size;have x0:=zw V.1;have x1:=zu V.1;rw[X]at x0;rw[Y]at x1;have C1:=I (λdd os=>Fa (MC B L j (by omega) (some (aD b t3)) lc (Bs L j) (Yy L j) ka kc ea ec (Ak L j).ex a2 k3 (grow (redrawn w1 dd) os) (Bf k7 (bR w1 dd os).size) HF.1 p3 k5 (c5.1.keep ((bR w1 dd os).mono k7)) (k6.1.below (bR w1 dd os)) (gC (HA.1.keep ((Ab E.1 (bR w1 dd os)).mono f6) (Is.keep ((Ab E.1 (bR w1 dd os)).mono f6))) j)));clear b3 b4 p3 k5;rw[e0];clear e0;go_wp2_with fail;have r0:=cR x0;have r1:=cR x1;have r2:=cR z1;have r3:=cR z2;have r4:=cR z3;have r5:=cR z4;refine SY ?_;repeat go_big_quiet_step (with_reducible exact C1.1 _ _)
      refine wpQuiet_nil ?_;intro _ t5;obtain⟨⟨dq,d9⟩,p4⟩:=t5;subst p4;have j2:=fO f8 (bR w1 dq d9);have j3:=fO V (bR w1 dq d9);have c6:=I (Sh G.1 E.1 (bR w1 dq d9));have c7:=I (Sh H.1 E.1 (bR w1 dq d9));have j4:=fE E (bR w1 dq d9);clear r0 r1 r2 r3 r4 r5 C1 x0 x1 z1 z2 z3 z4 zb k6 f8 V G H E c5 t4;generalize grow (redrawn w1 dq) d9=W2 at*;obtain⟨l,m6⟩:∃z,z=(Bt (Co L (Bs L j) j) 0 (Ak L j).ex).1:=⟨_,rfl⟩;obtain⟨d,m7⟩:∃z,z=(Bt (Co L (Bs L j) j) 0 (Ak L j).ex).2:=⟨_,rfl⟩;replace F:Af ((Ur L (Bs L j) j)=(l,d)):=I (by rw[F.1,m6,m7]);simp only[<-m6,<-m7];clear X Y m6 m7;go_wp2;go_meet;(try((repeat apply eX);refine⟨?_,rfl⟩));exact⟨l,d,rfl,rfl,F,j2,j3,c6,c7,j4⟩
    have F:=I (show(Ur L (Bs L j) j)=(0,Bb (Ak L j).ex) by rw[Ur,iP e0]);have e1:=RZ e0
    clear e0 z1 z2 z3 z4 zb c5;go_wp2;go_meet;(try((repeat apply eX);refine⟨?_,rfl⟩));exact⟨0,Bb (Ak L j).ex,rfl,rfl,F,f8,V,G,H,E⟩
   clear z1 z2 z3 z4 zb c5 f8 V G H E;obtain⟨l,d,rfl,rfl,F,j2,j3,c6,c7,j4⟩:=hcut;go_wp2_with fail;have f2:=I (show((Bs L (j+1)).map Prod.fst)=((Bs L j).map Prod.fst)++ [l] by rw[Bs,Ii,F.1];rfl);have f3:=I (show((Bs L (j+1)).map Prod.snd)=((Bs L j).map Prod.snd)++ [d] by rw[Bs,Ii,F.1];rfl);have f9:Af (wc.drew.heap[w.heap.size]?=some jO):=j2;have Z:Af (wc.drew.heap[c]?=some (.cells #[v1,v2] 206 (0,0))):=j3;have c8:Af (wc.drew.ownsRow w.heap.size 3 1 v1 ((Bs L j).map Prod.fst).length (((Bs L j).map Prod.fst).map (Value.int .i64))):=c6;have c9:Af (wc.drew.ownsRow w.heap.size 53 1 v2 ((Bs L j).map Prod.snd).length (((Bs L j).map Prod.snd).map (Value.int .i64))):=c7;have g2:=I (j4.1.drew);obtain⟨Wd,m8⟩:∃Wd,wc.drew=Wd:=⟨_,rfl⟩;rw[m8]at f9 Z c8 c9 g2;have g3:=zy (zw Z.1) (zu Z.1);have M:=p0.1;obtain⟨n1,j5⟩:∃m,m=((Bs L j).map Prod.fst).length:=⟨_,rfl⟩;obtain⟨n2,j6⟩:∃m,m=((Bs L j).map Prod.snd).length:=⟨_,rfl⟩;rw[<-j5]at c8;rw[<-j6]at c9;have X:n1<=1000:=by rw[j5,iE];omega
   have Y:n2<=1000:=by rw[j6,iD];omega
   have f4:=I j5;have f5:=I j6;clear j5 j6;refine Ys (λw'=>w'.cell? (aD c 0)=some v1/\w'.cell? (aD c 1)=some v2) [11,13] (by kernel_rfl) m8 ?_;clear m8;refine CG (i:=0) (v:=Ua c 0) rfl g3 ?_;try simp only[O]
   refine CG (i:=1) (v:=v1) rfl g3 ?_;try simp only[O]
   refine CG (i:=2) (v:=Bn l) rfl g3 ?_;try simp only[O]
   refine CG (i:=5) (v:=Ua c 1) rfl g3 ?_;try simp only[O]
   refine CG (i:=6) (v:=v2) rfl g3 ?_;try simp only[O]
   refine sPa (i:=7) (v:=Bn d) rfl ?_;try simp only[O]
   refine Yr (i:=3) (j:=8) (by kernel_rfl) rfl rfl (by rfl) (by rfl) (λK hK=>?_) (λK hK=>?_)
   . skip;have d0:=I (zd (o':=(oI l)) f9.1);have N:=I (zd (o':=(oI l)) Z.1);have P:=I (c8.1.alloc (oI l));have k8:=I (c9.1.alloc (oI l));have d1:=fE g2 (J _ (oI l));have k9:=I (zh Wd (oI l));have p5:=zy (zw N.1) (zu N.1);go_simp;refine hK.1 _ _ (λ_ _=>p5) ?_;clear hK K;try simp only[O]
     refine Yr (i:=4) (j:=8) (by kernel_rfl) rfl rfl (by rfl) (by rfl) (λK hK=>?_) (λK hK=>?_)
     . skip;refine wp_append_lies _ (Operand.tmp 35) (Operand.tmp 37) 22 rfl w.heap.size 3 i0 (Bn 0) 1 8 underlying22 hi l7 l8 l9 rfl (by decide) v1 _ _ rfl P.1 _ 1 1 [Bn l] rfl rfl (aN k9.1) ?p1_2 (by decide) ?p2_2 ?p3_2 d1.1.size _ rfl ?p4_2
       case p1_2=>intro u hu;simp at hu;subst hu;rfl
       case p2_2=>unfold maxLen;omega
       case p3_2=>omega
       intro m9 b5 t6 g4 a0 n0 n3;have p6:=I ((a0.block _ (Ag d0.1) (Ma P.1 d0.1 (by decide))).trans d0.1);have g5:=I ((a0.block _ (Ag N.1) (Ma P.1 N.1 (by decide))).trans N.1);have p7:=I g4;have p8:=I (aL k8.1 P.1 (by decide) a0);have p9:=I (d1.1.grown a0 d1.1.size (λk hk=>Lt P.1 k hk));have q0:=zy (zw g5.1) (zu g5.1);clear g4 a0 n0 n3;refine hK.1 _ _ (λ_ _=>q0) ?_;clear hK K;try simp only[O]
       refine sPa (i:=10) (v:=Ua c 0) rfl ?_;try simp only[O]
       have g6:=I (zd (o':=(Lc d)) p6.1);have a1:=I (zd (o':=(Lc d)) g5.1);have q1:=I (p7.1.alloc (Lc d));have a3:=I (p8.1.alloc (Lc d));have g7:=fE p9 (J _ (Lc d));have q2:=I (zh t6 (Lc d));have q3:=zy (zw a1.1) (zu a1.1);refine QY (i:=8) rfl λK hK=>?_;go_simp;refine hK.1 _ _ (λ_ _=>q3) ?_;clear hK K;try simp only[O]
       refine QY (i:=9) rfl λK hK=>?_;refine wp_append_lies _ (Operand.tmp 40) (Operand.tmp 42) 204 rfl w.heap.size 53 i1 (Bn 0) 1 8 underlying204 hj m0 m1 m2 rfl (by decide) v2 _ _ rfl a3.1 _ 1 1 [Bn d] rfl rfl (aN q2.1) ?p1_4 (by decide) ?p2_4 ?p3_4 g7.1.size _ rfl ?p4_4
       case p1_4=>intro u hu;simp at hu;subst hu;rfl
       case p2_4=>unfold maxLen;omega
       case p3_4=>omega
       intro n4 b6 j7 g8 a4 n5 n6;have l0:=I ((a4.block _ (Ag g6.1) (Ma a3.1 g6.1 (by decide))).trans g6.1);have q:=I ((a4.block _ (Ag a1.1) (Ma a3.1 a1.1 (by decide))).trans a1.1);have q4:=I (aL q1.1 a3.1 (by decide) a4);have q5:=I g8;have l1:=I (g7.1.grown a4 g7.1.size (λk hk=>Lt a3.1 k hk));have l2:=zy (zw q.1) (zu q.1);clear g8 a4 n5 n6;refine hK.1 _ _ (λ_ _=>l2) ?_;clear hK K;try simp only[O]
       have g9:j7.cell? (aD c 0)=some v1:=l2.1;have h0:=CH q.1;have h1:=Ag q.1;have C:=Lib.grownBy_setCell j7 c 0 (Kx m9 0 (n1+1) b5);have r:=I (zg (i:=0) (u:=(Kx m9 0 (n1+1) b5)) q.1);have R1:=I ((C.block _ (Ag l0.1) (by intro e;cases e;exact aB M (by omega))).trans l0.1);have A1:=I (No q4.1 q.1 (by decide) C);have A2:=I (No q5.1 q.1 (by decide) C);have B1:=I (l1.1.grown C l1.1.size (λk hk=>by cases hk;omega));refine QY (i:=11) rfl λK hK=>?_;go_simp;refine hK.1 _ _ (λh _=>aB (by decide:(11:Nat)∈ [11,13]) h) ?_;clear hK K g9 h0 h1 C;try simp only[O]
       obtain⟨w8,s⟩:∃W,W=j7.setCell (aD c 0) (Kx m9 0 (n1+1) b5):=⟨_,rfl⟩;rw[<-s]at r R1 A1 A2 B1;simp only[<-s];clear s;refine sPa (i:=12) (v:=Ua c 1) rfl ?_;try simp only[O]
       have h2:=zu r.1;have h3:=CH r.1;have h4:=Ag r.1;have D:=Lib.grownBy_setCell w8 c 1 (Kx n4 0 (n2+1) b6);have T2:=I (zg (i:=1) (u:=(Kx n4 0 (n2+1) b6)) r.1);have R2:=I ((D.block _ (Ag R1.1) (by intro e;cases e;exact aB M (by omega))).trans R1.1);have a5:=I (No A1.1 r.1 (by decide) D);have a6:=I (No A2.1 r.1 (by decide) D);have B2:=I (B1.1.grown D B1.1.size (λk hk=>by cases hk;omega));refine QY (i:=13) rfl λK hK=>?_;go_simp;refine hK.1 _ _ (λh _=>aB (by decide:(13:Nat)∈ [11,13]) h) ?_;clear hK K h2 h3 h4 D;try simp only[O]
       refine zM (by kernel_rfl) ?_;generalize w8.setCell (aD c 1) (Kx n4 0 (n2+1) b6)=w9 at*;go_wp2;go_roundw;(try((repeat apply eX);refine⟨?_,rfl⟩));exact⟨j+1,_,_,by omega,by go_num,R2,T2,I (by rw[f2.1,Gh,<-f4.1,Ii];exact a5.1),I (by rw[f3.1,Gh,<-f5.1,Ii];exact a6.1),B2⟩;simp[intOf];omega
     skip;have h5:=I (zd (o':=(Lc d)) d0.1);have a7:=I (zd (o':=(Lc d)) N.1);have Q:=I (P.1.alloc (Lc d));have q6:=I (k8.1.alloc (Lc d));have h6:=fE d1 (J _ (Lc d));have q7:=I (zd (o':=(Lc d)) k9.1);have d2:=I (zh (Wd.alloc (oI l)) (Lc d));rw[zr]at d2;have q8:=zy (zw a7.1) (zu a7.1);go_simp;refine hK.1 _ _ (λ_ _=>q8) ?_;clear hK K;try simp only[O]
     refine QY (i:=4) rfl λK hK=>?_;refine wp_append_lies _ (Operand.tmp 35) (Operand.tmp 37) 22 rfl w.heap.size 3 i0 (Bn 0) 1 8 underlying22 hi l7 l8 l9 rfl (by decide) v1 _ _ rfl Q.1 _ 1 1 [Bn l] rfl rfl (aN q7.1) ?p1_6 (by decide) ?p2_6 ?p3_6 h6.1.size _ rfl ?p4_6
     case p1_6=>intro u hu;simp at hu;subst hu;rfl
     case p2_6=>unfold maxLen;omega
     case p3_6=>omega
     intro n7 b7 u2 h7 R n8 n9;have h8:=I ((R.block _ (Ag h5.1) (Ma Q.1 h5.1 (by decide))).trans h5.1);have a8:=I ((R.block _ (Ag a7.1) (Ma Q.1 a7.1 (by decide))).trans a7.1);have q9:=I h7;have a9:=I (aL q6.1 Q.1 (by decide) R);have h9:=I (h6.1.grown R h6.1.size (λk hk=>Lt Q.1 k hk));have r6:=I ((R.block _ (Ag d2.1) (Ma Q.1 d2.1 (by decide))).trans d2.1);have r7:=zy (zw a8.1) (zu a8.1);clear h7 R n8 n9;refine hK.1 _ _ (λ_ _=>r7) ?_;clear hK K;try simp only[O]
     refine sPa (i:=10) (v:=Ua c 0) rfl ?_;try simp only[O]
     refine QY (i:=9) rfl λK hK=>?_;refine wp_append_lies _ (Operand.tmp 40) (Operand.tmp 42) 204 rfl w.heap.size 53 i1 (Bn 0) 1 8 underlying204 hj m0 m1 m2 rfl (by decide) v2 _ _ rfl a9.1 _ 1 1 [Bn d] rfl rfl (aN r6.1) ?p1_7 (by decide) ?p2_7 ?p3_7 h9.1.size _ rfl ?p4_7
     case p1_7=>intro u hu;simp at hu;subst hu;rfl
     case p2_7=>unfold maxLen;omega
     case p3_7=>omega
     intro o0 b8 j8 i2 b0 o1 o2;have l3:=I ((b0.block _ (Ag h8.1) (Ma a9.1 h8.1 (by decide))).trans h8.1);have t:=I ((b0.block _ (Ag a8.1) (Ma a9.1 a8.1 (by decide))).trans a8.1);have r8:=I (aL q9.1 a9.1 (by decide) b0);have r9:=I i2;have l4:=I (h9.1.grown b0 h9.1.size (λk hk=>Lt a9.1 k hk));have l5:=zy (zw t.1) (zu t.1);clear i2 b0 o1 o2;refine hK.1 _ _ (λ_ _=>l5) ?_;clear hK K;try simp only[O]
     have g9:j8.cell? (aD c 0)=some v1:=l5.1;have h0:=CH t.1;have h1:=Ag t.1;have C:=Lib.grownBy_setCell j8 c 0 (Kx n7 0 (n1+1) b7);have r:=I (zg (i:=0) (u:=(Kx n7 0 (n1+1) b7)) t.1);have R1:=I ((C.block _ (Ag l3.1) (by intro e;cases e;exact aB M (by omega))).trans l3.1);have A1:=I (No r8.1 t.1 (by decide) C);have A2:=I (No r9.1 t.1 (by decide) C);have B1:=I (l4.1.grown C l4.1.size (λk hk=>by cases hk;omega));refine QY (i:=11) rfl λK hK=>?_;go_simp;refine hK.1 _ _ (λh _=>aB (by decide:(11:Nat)∈ [11,13]) h) ?_;clear hK K g9 h0 h1 C;try simp only[O]
     obtain⟨w8,s⟩:∃W,W=j8.setCell (aD c 0) (Kx n7 0 (n1+1) b7):=⟨_,rfl⟩;rw[<-s]at r R1 A1 A2 B1;simp only[<-s];clear s;refine sPa (i:=12) (v:=Ua c 1) rfl ?_;try simp only[O]
     have h2:=zu r.1;have h3:=CH r.1;have h4:=Ag r.1;have D:=Lib.grownBy_setCell w8 c 1 (Kx o0 0 (n2+1) b8);have T2:=I (zg (i:=1) (u:=(Kx o0 0 (n2+1) b8)) r.1);have R2:=I ((D.block _ (Ag R1.1) (by intro e;cases e;exact aB M (by omega))).trans R1.1);have a5:=I (No A1.1 r.1 (by decide) D);have a6:=I (No A2.1 r.1 (by decide) D);have B2:=I (B1.1.grown D B1.1.size (λk hk=>by cases hk;omega));refine QY (i:=13) rfl λK hK=>?_;go_simp;refine hK.1 _ _ (λh _=>aB (by decide:(13:Nat)∈ [11,13]) h) ?_;clear hK K h2 h3 h4 D;try simp only[O]
     refine zM (by kernel_rfl) ?_;generalize w8.setCell (aD c 1) (Kx o0 0 (n2+1) b8)=w9 at*;go_wp2;go_roundw;(try((repeat apply eX);refine⟨?_,rfl⟩));exact⟨j+1,_,_,by omega,by go_num,R2,T2,I (by rw[f2.1,Gh,<-f4.1,Ii];exact a5.1),I (by rw[f3.1,Gh,<-f5.1,Ii];exact a6.1),B2⟩;simp[intOf];omega
   skip;have s2:=I (zd (o':=(Lc d)) f9.1);have i3:=I (zd (o':=(Lc d)) Z.1);have s3:=I (c8.1.alloc (Lc d));have s4:=I (c9.1.alloc (Lc d));have s5:=fE g2 (J _ (Lc d));have s6:=I (zh Wd (Lc d));have s7:=zy (zw i3.1) (zu i3.1);go_simp;refine hK.1 _ _ (λ_ _=>s7) ?_;clear hK K;try simp only[O]
   have i4:=I (zd (o':=(oI l)) s2.1);have b1:=I (zd (o':=(oI l)) i3.1);have S:=I (s3.1.alloc (oI l));have s8:=I (s4.1.alloc (oI l));have i5:=fE s5 (J _ (oI l));have i6:=I (zd (o':=(oI l)) s6.1);have l6:=I (zh (Wd.alloc (Lc d)) (oI l));rw[zr]at l6;have s9:=zy (zw b1.1) (zu b1.1);refine QY (i:=3) rfl λK hK=>?_;go_simp;refine hK.1 _ _ (λ_ _=>s9) ?_;clear hK K;try simp only[O]
   refine QY (i:=4) rfl λK hK=>?_;refine wp_append_lies _ (Operand.tmp 35) (Operand.tmp 37) 22 rfl w.heap.size 3 i0 (Bn 0) 1 8 underlying22 hi l7 l8 l9 rfl (by decide) v1 _ _ rfl S.1 _ 1 1 [Bn l] rfl rfl (aN l6.1) ?p1_10 (by decide) ?p2_10 ?p3_10 i5.1.size _ rfl ?p4_10
   case p1_10=>intro u hu;simp at hu;subst hu;rfl
   case p2_10=>unfold maxLen;omega
   case p3_10=>omega
   intro i7 T t8 d3 g j9 k0;have b9:=I ((g.block _ (Ag i4.1) (Ma S.1 i4.1 (by decide))).trans i4.1);have x:=I ((g.block _ (Ag b1.1) (Ma S.1 b1.1 (by decide))).trans b1.1);have o3:=I d3;have y:=I (aL s8.1 S.1 (by decide) g);have c0:=I (i5.1.grown g i5.1.size (λk hk=>Lt S.1 k hk));have o4:=I ((g.block _ (Ag i6.1) (Ma S.1 i6.1 (by decide))).trans i6.1);have o5:=zy (zw x.1) (zu x.1);clear d3 g j9 k0;refine hK.1 _ _ (λ_ _=>o5) ?_;clear hK K;try simp only[O]
   refine sPa (i:=10) (v:=Ua c 0) rfl ?_;try simp only[O]
   refine QY (i:=9) rfl λK hK=>?_;refine wp_append_lies _ (Operand.tmp 40) (Operand.tmp 42) 204 rfl w.heap.size 53 i1 (Bn 0) 1 8 underlying204 hj m0 m1 m2 rfl (by decide) v2 _ _ rfl y.1 _ 1 1 [Bn d] rfl rfl (aN o4.1) ?p1_11 (by decide) ?p2_11 ?p3_11 c0.1.size _ rfl ?p4_11
   case p1_11=>intro u hu;simp at hu;subst hu;rfl
   case p2_11=>unfold maxLen;omega
   case p3_11=>omega
   intro i8 U d4 d5 A k1 k2;have i9:=I ((A.block _ (Ag b9.1) (Ma y.1 b9.1 (by decide))).trans b9.1);have f:=I ((A.block _ (Ag x.1) (Ma y.1 x.1 (by decide))).trans x.1);have o6:=I (aL o3.1 y.1 (by decide) A);have o7:=I d5;have j0:=I (c0.1.grown A c0.1.size (λk hk=>Lt y.1 k hk));have j1:=zy (zw f.1) (zu f.1);clear d5 A k1 k2;refine hK.1 _ _ (λ_ _=>j1) ?_;clear hK K;try simp only[O]
   have g9:d4.cell? (aD c 0)=some v1:=j1.1;have h0:=CH f.1;have h1:=Ag f.1;have C:=Lib.grownBy_setCell d4 c 0 (Kx i7 0 (n1+1) T);have r:=I (zg (i:=0) (u:=(Kx i7 0 (n1+1) T)) f.1);have R1:=I ((C.block _ (Ag i9.1) (by intro e;cases e;exact aB M (by omega))).trans i9.1);have A1:=I (No o6.1 f.1 (by decide) C);have A2:=I (No o7.1 f.1 (by decide) C);have B1:=I (j0.1.grown C j0.1.size (λk hk=>by cases hk;omega));refine QY (i:=11) rfl λK hK=>?_;go_simp;refine hK.1 _ _ (λh _=>aB (by decide:(11:Nat)∈ [11,13]) h) ?_;clear hK K g9 h0 h1 C;try simp only[O]
   obtain⟨w8,s⟩:∃W,W=d4.setCell (aD c 0) (Kx i7 0 (n1+1) T):=⟨_,rfl⟩;rw[<-s]at r R1 A1 A2 B1;simp only[<-s];clear s;refine sPa (i:=12) (v:=Ua c 1) rfl ?_;try simp only[O]
   have h2:=zu r.1;have h3:=CH r.1;have h4:=Ag r.1;have D:=Lib.grownBy_setCell w8 c 1 (Kx i8 0 (n2+1) U);have T2:=I (zg (i:=1) (u:=(Kx i8 0 (n2+1) U)) r.1);have R2:=I ((D.block _ (Ag R1.1) (by intro e;cases e;exact aB M (by omega))).trans R1.1);have a5:=I (No A1.1 r.1 (by decide) D);have a6:=I (No A2.1 r.1 (by decide) D);have B2:=I (B1.1.grown D B1.1.size (λk hk=>by cases hk;omega));refine QY (i:=13) rfl λK hK=>?_;go_simp;refine hK.1 _ _ (λh _=>aB (by decide:(13:Nat)∈ [11,13]) h) ?_;clear hK K h2 h3 h4 D;try simp only[O]
   refine zM (by kernel_rfl) ?_;generalize w8.setCell (aD c 1) (Kx i8 0 (n2+1) U)=w9 at*;go_wp2;go_roundw;(try((repeat apply eX);refine⟨?_,rfl⟩));exact⟨j+1,_,_,by omega,by go_num,R2,T2,I (by rw[f2.1,Gh,<-f4.1,Ii];exact a5.1),I (by rw[f3.1,Gh,<-f5.1,Ii];exact a6.1),B2⟩;simp[intOf];omega
 obtain rfl:j=L.length:=by omega
 obtain⟨ka,kc,rfl,b3⟩:=zW.of_own d6.1;obtain⟨ea,ec,rfl,b4⟩:=zW.of_own d7.1;have HT:Af (Uw wr ka ea (Bs L L.length)):=I ⟨b3,b4⟩;have X:=iE L L.length;have Y:=iD L L.length;rw[X]at y0 d6;rw[Y]at y1 d7;rw[X,Y]at b2;have s0:=zw p.1;have s1:=zu p.1;have f0:=CH p.1;have sl:=Ag p.1;have C:=Lib.grownBy_setCell wr w.heap.size 0 (.slice ka L.length kc);have D:=Lib.grownBy_setCell (wr.setCell (aD w.heap.size 0) (.slice ka L.length kc)) w.heap.size 1 (.slice ea L.length ec);have Q1:=zg (i:=0) (u:=(.slice ka L.length kc)) p.1;have Q2:=zg (i:=1) (u:=(.slice ea L.length ec)) Q1;have B1:=a.1.grown C a.1.size (λk hk=>by cases hk;omega);have B2:=I (B1.grown D B1.size (λk hk=>by cases hk;omega));have A1:=No (No d6.1 p.1 (by decide) C) Q1 (by decide) D;have A2:=No (No d7.1 p.1 (by decide) C) Q1 (by decide) D;have r0:=zw Q2;have r1:=zu Q2;have rl:=Ag Q2;have X1:=I (show((wr.setCell (aD w.heap.size 0) (.slice ka L.length kc)).setCell (aD w.heap.size 1) (.slice ea L.length ec)).ownsRow w.heap.size 3 1 (.slice ka L.length kc) ((Bs L L.length).map Prod.fst).length (((Bs L L.length).map Prod.fst).map (Value.int .i64)) by rw[X];exact A1);have X2:=I (show((wr.setCell (aD w.heap.size 0) (.slice ka L.length kc)).setCell (aD w.heap.size 1) (.slice ea L.length ec)).ownsRow w.heap.size 53 1 (.slice ea L.length ec) ((Bs L L.length).map Prod.snd).length (((Bs L L.length).map Prod.snd).map (Value.int .i64)) by rw[Y];exact A2);clear C D Q1 Q2 B1 A1 A2 b3 b4 HT d6 d7 X Y b2 p a;go_wp2_with fail;generalize ((wr.setCell (aD w.heap.size 0) (.slice ka L.length kc)).setCell (aD w.heap.size 1) (.slice ea L.length ec))=Wf at*;obtain⟨u3,u4,t0,b3⟩:=zW.of_own X1.1;obtain⟨u5,u6,t1,b4⟩:=zW.of_own X2.1;rw[iE]at t0;cases t0;rw[iD]at t1;cases t1;refine bP (v:=.agg #[.slice ka L.length kc,.slice ea L.length ec]) (by simp[results,results105,go_sem,r0,r1]) rfl ?_;exact⟨ka,kc,ea,ec,rfl,⟨b3,b4⟩,B2.1⟩
def SN(B:Nat)(l:List zB)(n:Nat)(o:n<=l.length)(b:Ae)(h:Nat)(T:List (Int×Int))(c:T.length=n)(d:Ae)(i:Nat)(f:Ae)(j:Nat)(a:Int)(p:0<=a/\a<4)(x:zH)(g:Ae)(m:Nat)(w:Wd)(q:B<=w.heap.size)(r:Ia x)(s:Db x=true)(t:Bq x<=200)(u:Et B w g x.args)(v:Uw w d f T)(y:Me B w b (l.take n)):
 CV 104 #[.agg #[CU d n i,CU f n j],CU b n h,a,.agg #[x.op,x.num,B_ x.name,CU g x.args.length m]] w (.tuple #[Bn (Bt (Co l T n) a x).1,Bn (Bt (Co l T n) a x).2]):=by
 obtain⟨k,rfl⟩:=Int.eq_ofNat_of_zero_le p.1;exact wC B l n o b h T c d i f j k (by omega) x g m w q r s t u v y
def nI(L:List zB)(D:Ae)(u:Nat)(B:Nat)(k:Int)(T:0<=k/\k<4)(x:zH)(m:Ae)(q:Nat)(w:Wd)(c:B<=w.heap.size)(F:L.length<=u/\u<=9223372036854775807)(U:L.length<=1000)(hl:Me B w D L)(hf:Ia x)(ha:Et B w m x.args):
 CV 59 #[CU D L.length u,k,.agg #[x.op,x.num,B_ x.name,CU m x.args.length q]] w (.tuple #[Bn (Cd L L.length k x).1,Bn (Cd L L.length k x).2]):=by
 have HL:=I hl;have HA:=I ha;have HF:=I hf;clear hl ha hf;delta CV;go_in;go_wp2_with fail;have R:=I (J w (oE x m q));have V:=I (zh w (oE x m q));have⟨l,y⟩:=aT w.heap.size;rw[<-y]at V;simp only[<-y];clear y;generalize w.alloc (oE x m q)=W at*;refine ca (aK x m q W B (Bf c R.1.size) HF.1 (HA.1.keep (R.1.mono c))) λE z=>?_;have G:=fE R z;have n:=fO V z;clear z R V;by_cases A:Bb x=0
 . have⟨X,H,_⟩:=Ql A;have M:=I (show Cd L L.length k x=(Bt (Co L (Bs L L.length) L.length) k x) by rw[Cd,iN (by simpa using A),BI]);have b:E.drew.cell? (aD l 0)=some (Bn x.op)/\E.drew.cell? (aD l 1)=some (Bn x.num)/\E.drew.cell? (aD l 2)=some (B_ x.name)/\E.drew.cell? (aD l 3)=some (CU m x.args.length q):=⟨EE 0 n.1 rfl,EE 1 n.1 rfl,EE 2 n.1 rfl,EE 3 n.1 rfl⟩;have r:=I (G.1.drew);have N:Af (E.drew.heap[l]?=some (oE x m q)):=n;obtain⟨S,C⟩:∃S,E.drew=S:=⟨_,rfl⟩;rw[C]at b r N;have p:=Ag N.1;have HT:=I (JI L D u B S (Bf c r.1.size) F U (HL.1.keep (r.1.mono c) (Is.keep (r.1.mono c))));have Y:=I (HL.1.keep (r.1.mono c) (Is.keep (r.1.mono c)));have Z:=I (HA.1.keep (r.1.mono c));have s:B<=S.heap.size:=Bf c r.1.size;rw[A];clear A;go_wp2_with fail;refine Ys (λw'=>w'.cell? (aD l 0)=some (Bn x.op)/\w'.cell? (aD l 1)=some (Bn x.num)/\w'.cell? (aD l 2)=some (B_ x.name)/\w'.cell? (aD l 3)=some (CU m x.args.length q)) [] (by kernel_rfl) C ?_;clear C;refine CG (i:=0) (v:=CU D L.length u) rfl b ?_;try simp only[O]
   refine CG (i:=2) (v:=CU D L.length u) rfl b ?_;try simp only[O]
   refine CG (i:=3) (v:=Bn k) rfl b ?_;try simp only[O]
   refine CG (i:=4) (v:=.agg #[x.op,x.num,B_ x.name,CU m x.args.length q]) rfl b ?_;try simp only[O]
   refine QY (i:=1) rfl λK hK=>?_;go_simp;refine HT.1.mono ?_;rintro e w2 ⟨ka,kc,ea,ec,rfl,t,a⟩;have P:=I t;have a0:=fE r a;have a1:B<=w2.heap.size:=Bf s a.size;have a2:=I (Y.1.keep (a.mono s) (Is.keep (a.mono s)));have a3:=I (Z.1.keep (a.mono s));have f:=zy (zj b.1 p a) (zy (zj b.2.1 p a) (zy (zj b.2.2.1 p a) (zj b.2.2.2 p a)));have d:l<w2.heap.size:=As p a.size;clear t a HT;refine hK.1 _ _ (λ_ _=>f) ?_;clear hK K;try simp only[O]
   refine QY (i:=5) rfl λK hK=>?_;go_simp;refine ca (SN B L L.length (Bv _) D u (Bs L L.length) (Yy L L.length) ka kc ea ec k T x m q w2 a1 HF.1 X H a3.1 P.1 (by rw[List.take_length];exact a2.1)) λw3 g=>?_;have a4:=fE a0 g;have Q:=zy (zj f.1 d g) (zy (zj f.2.1 d g) (zy (zj f.2.2.1 d g) (zj f.2.2.2 d g)));clear g;refine hK.1 _ _ (λ_ _=>Q) ?_;clear hK K;try simp only[O]
   refine sPa (i:=6) (v:=Bn (Bt (Co L (Bs L L.length) L.length) k x).1) rfl ?_;try simp only[O]
   refine sPa (i:=7) (v:=Bn (Bt (Co L (Bs L L.length) L.length) k x).2) rfl ?_;try simp only[O]
   refine QY (i:=8) rfl λK hK=>?_;go_simp;refine hK.1 _ _ (λ_ h=>h) ?_;clear hK K;try simp only[O]
   refine QY (i:=9) rfl λK hK=>?_;go_simp;refine hK.1 _ _ (λ_ h=>h) ?_;clear hK K;try simp only[O]
   refine zM (by kernel_rfl) ?_;clear b f Q;go_wp2;go_ret2;exact⟨zJ (by rw[M.1]) (by rw[M.1]),a4.1⟩
 have M:=I (show Cd L L.length k x=(0,Bb x) by rw[Cd,iP A]);have e1:=CN A
 clear A;go_wp2;go_ret2;exact⟨zJ (by rw[M.1]) (by rw[M.1]),G.1⟩
def nN(c:Ad)(p:Bd)(B:Nat)(b:Int)(q:0<=b/\b<4)(x:zH)(i:Ae)(o:Nat)(d:Int)(w:Wd)(f:B<=w.heap.size)(j:c.cs.length<=p.cc/\p.cc<=9223372036854775807)(s:c.cs.length<=1000)(y:Kb B w c p)(A:Ia x)(z:Et B w i x.args):
 CV 207 #[Ay c p,b,.agg #[x.op,x.num,B_ x.name,CU i x.args.length o],d] w (Cu (Cd c.cs c.cs.length b x) d):=by
 try delta Ay Az
 have C:=I y;have D:=I z;clear y z;delta CV;go_in;go_wp2_with fail;have k:=I (Ab (J w (Aj c p)) (J _ (oE x i o)));generalize (w.alloc (Aj c p)).alloc (oE x i o)=W at*;refine ca (nI c.cs p.ca p.cc B b q x i o W (Bf f k.1.size) j s (C.1.keep (k.1.mono f)).cs A (D.1.keep (k.1.mono f))) λF l=>?_;have g:=fE k l;clear l k;have⟨r,t⟩:=aT (Cd c.cs c.cs.length b x);simp only[<-t];have u:=I t;clear t;by_cases a:r.2=0
 . by_cases h:r.1=d
   . have m:=I (show Cu (Cd c.cs c.cs.length b x) d=0 by rw[<-u.1,Cu,iP a,iP h]);have n:=bTa a
     have v:=bMa h
     have E:=I a;clear a h;go_wp2;go_ret;exact⟨ze (by rw[m.1,E.1]),g.1⟩
   have m:=I (show Cu (Cd c.cs c.cs.length b x) d=9 by rw[<-u.1,Cu,iP a,iN h]);have n:=bTa a
   have v:=CN h
   clear a h;go_wp2;go_ret;exact⟨ze (by rw[m.1]),g.1⟩
 have n:=RZ a
 have m:=I (show Cu (Cd c.cs c.cs.length b x) d=r.2 by rw[<-u.1,Cu,iN a]);clear a;go_wp2;go_ret;exact⟨ze (by rw[m.1]),g.1⟩
