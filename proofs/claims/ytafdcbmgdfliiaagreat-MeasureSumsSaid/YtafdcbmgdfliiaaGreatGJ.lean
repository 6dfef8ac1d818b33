/- a part of the proof -/
import Derived.Test.YtafdcbmgdfliiaaGreatGI
import Derived.Test.YtafdcbmgdfliiaaGreatGC
import Derived.Test.YtafdcbmgdfliiaaGreatG7
import Derived.Test.YtafdcbmgdfliiaaGreatGZ
import Derived.Test.YtafdcbmgdfliiaaGreatG9
set_option linter.all false
set_option maxRecDepth 100000
set_option maxHeartbeats 3000000
namespace Go.Proofs.YtafdcbmgdfliiaaGreat
open Go.RowKit Go.Sort Go.Proofs.Tryz
variable {s:BA}{j:Nat}{w:Wd}{a b:Value}{T:TypeId}{e:Int}
theorem eN(l m:LB)(s:BA):Ao (l++m) s=(Ao l s || Ao m s):=by grind[Ao]
theorem pE(x s:BA):Ao [x] s=decide (s=x):=by simp[Ao]
theorem wN:∀(l:List Cy) (acc:LB),(Ca acc l).1=0->(∀j,j<l.length->Ao acc (Cg l j).name=false)/\∀i j,i<j->j<l.length->(Cg l i).name≠(Cg l j).name
 |[],acc,_=>⟨λj hj=>by simp at hj,λi j _ hj=>by simp at hj⟩
 |z::l,acc,h=>by
  rw[Ca]at h;by_cases a:Fv z≠0
  . simp_all
  rw[iN a]at h;by_cases b:Ao acc z.name=true
  . simp_all
  rw[iN b]at h;have⟨d,f⟩:=wN l _ h;have c:Ao acc z.name=false:=by simpa using b
  refine⟨λj hj=>?_,λi j hij hj=>?_⟩
  . cases j with
    |zero=>exact c
    |succ j=>
     have:=d j (by simpa using hj);rw[eN,Bool.or_eq_false_iff]at this;exact this.1
  grind[eN,pE,Cg]
theorem zkE(a:LB):∀(l:List Bh) (acc:LB),(Cb a acc l).1=0->(∀j,j<l.length->Ao acc (Ct l j).code=false/\Ao a (Ct l j).zone=true)/\∀i j,i<j->j<l.length->(Ct l i).code≠(Ct l j).code
 |[],acc,_=>⟨λj hj=>by simp at hj,λi j _ hj=>by simp at hj⟩
 |z::l,acc,h=>by
  rw[Cb]at h;by_cases g:Eo z.code.data.toList=false
  . simp_all
  rw[iN g]at h;by_cases c:Ao acc z.code=true
  . simp_all
  rw[iN c]at h;by_cases b:Ao a z.zone=false
  . simp_all
  rw[iN b]at h;have⟨k,m⟩:=zkE a l _ h;have d:Ao acc z.code=false:=by simpa using c
  have f:Ao a z.zone=true:=by simpa using b
  refine⟨λj hj=>?_,λi j hij hj=>?_⟩
  . cases j with
    |zero=>exact⟨d,f⟩
    |succ j=>
     have:=k j (by simpa using hj);rw[eN,Bool.or_eq_false_iff]at this;exact⟨this.1.1,this.2⟩
  grind[eN,pE,Ct]
theorem SG{l:List Cy}(c:j<l.length)(a:(Cg l j).name=s)(d:∀i j,i<j->j<l.length->(Cg l i).name≠(Cg l j).name):Ox l s=some (Cg l j):=by
 have b:∀n,n<=l.length->Ox (l.take n) s=if j<n then some (Cg l j) else none:=by
  intro n;induction n with
  |zero=>intro _;rfl
  |succ n ih=>
   grind[zo9,vS]
 grind
theorem UP{l:List Bh}(c:j<l.length)(a:(Ct l j).code=s)(d:∀i j,i<j->j<l.length->(Ct l i).code≠(Ct l j).code):Fq l s=some (Ct l j):=by
 have b:∀n,n<=l.length->Fq (l.take n) s=if j<n then some (Ct l j) else none:=by
  intro n;induction n with
  |zero=>intro _;rfl
  |succ n ih=>
   grind[zpe,xC]
 grind
theorem nH{t:At}(h:zY t=0):(Ca [] t.zn).1=0/\(Cb (t.zn.map Cy.name) [] t.ai).1=0/\Dw (t.ai.map Bh.code) none t.fs=0:=by
 unfold zY at h;by_cases g:16<t.zn.length\/64<t.ai.length\/200<t.fs.length;omega;rw[iN g]at h;by_cases d:(Ca [] t.zn).1≠0;rw[iP d]at h;exact aB h d;rw[iN d]at h;have i:=Classical.not_not.1 d;have m:(Ca [] t.zn).2=t.zn.map Cy.name:=by
  have:∀(l:List Cy) (a:LB),(Ca a l).1=0->(Ca a l).2=a++l.map Cy.name:=by
   intro l;induction l with
   |nil=>grind[Ca]
   |cons z l ih=>
    grind[Ca]
  simpa using this t.zn [] i
 rw[m]at h;by_cases e:(Cb (t.zn.map Cy.name) [] t.ai).1≠0;rw[iP e]at h;exact aB h e;rw[iN e]at h;have j:=Classical.not_not.1 e;have n:(Cb (t.zn.map Cy.name) [] t.ai).2=t.ai.map Bh.code:=by
  have:∀(f:LB) (l:List Bh) (a:LB),(Cb f a l).1=0->(Cb f a l).2=a++l.map Bh.code:=by
   intro f l;induction l with
   |nil=>grind[Cb]
   |cons z l ih=>
    grind[Cb]
  simpa using this _ t.ai [] j
 simp_all
theorem Vh{X:Type}{nm:X->BA}{l:List X}(h:Ao (l.map nm) s=true):∃j:Nat,j<l.length/\Ex nm s 0 l=j/\(l[j]?).map nm=some s:=by
 rcases qF nm s 0 l with⟨_,a⟩|⟨⟨j,b,a,c,_⟩,_⟩;all_goals grind
theorem AC{t:At}(l:zY t=0)(m:Ao (t.ai.map Bh.code) s=true):∃i j:Nat,i<t.ai.length/\j<t.zn.length/\Nd t.ai s=i/\Zj t.zn (Ct t.ai i).zone=j/\zp t s=Cg t.zn j:=by
 have⟨n,o,_⟩:=nH l;have⟨i,e,f,c⟩:=Vh m;have k:=zkE _ _ _ o;have p:=wN _ _ n;have a:(Ct t.ai i).code=s:=by
  unfold Ct;rw[Cr];rw[Cz e]at c ⊢;simpa using c
 have⟨j,g,h,d⟩:=Vh (nm:=Cy.name) (k.1 i e).2;have b:(Cg t.zn j).name=(Ct t.ai i).zone:=by
  unfold Cg;rw[Cr];rw[Cz g]at d ⊢;simpa using d
 refine⟨i,j,e,g,f,h,?_⟩;grind[zp,UP,SG]
theorem PL{l:List zB}{n i:Nat}(h:i<n):Ak (l.take n) i=Ak l i:=by
 grind[Ak]
theorem uL(l:List zB)(n m:Nat)(b:m<=n)(h:∀j,j<m->Bx (l.take n) j=Bx l j):Cv (l.take n) m=Cv l m:=by
 grind[Cv,eQ]
theorem PK(l:List zB)(n i:Nat)(a:i<n):Bx (l.take n) i=Bx l i:=by
 induction i using Nat.strongRecOn<;>grind[bI,PL,uL]
theorem wE(l:List zB)(n:Nat)(a:Int)(x:zH):Cd (l.take n) n a x=Cd l n a x:=by
 grind[Cd,uL,PK]
def wF(l:List zB)(i:Nat):Cd l i 0 (Ak l i).ex=Bx l i:=by rw[bI];rfl
theorem tX:∀(l:List It) (acc:List (Int×BA)),Gj acc l=0->∀k,k<l.length->1<=(Ah l k).sc/\(Ah l k).sc<=3
 |[],_,_,k,hk=>by simp at hk
 |x::l,acc,h,k,hk=>by
  rw[Gj]at h;by_cases a:(Ar x.sc 1 3&&zZ x.name)=false
  . simp_all
  rw[iN a]at h;by_cases c:Ge acc x.sc x.name=true
  . simp_all
  rw[iN c]at h;by_cases b:Bb x.ex≠0
  . omega
  rw[iN b]at h;cases k with
  |zero=>
   have:Ar x.sc 1 3=true:=by
    cases d:Ar x.sc 1 3
    . simp_all
    rfl
   exact Om.1 this
  |succ k=>exact tX l _ h k (by simpa using hk)
theorem tY:∀(l:List Ky),Ig l=0->∀k,k<l.length->1<=(Aq l k).sc/\(Aq l k).sc<=3
 |[],_,k,hk=>by simp at hk
 |x::l,h,k,hk=>by
  rw[Ig]at h;by_cases a:Ar x.sc 1 3=false
  . simp_all
  rw[iN a]at h;by_cases b:Bb x.ex≠0
  . omega
  rw[iN b]at h;cases k with
  |zero=>
   have:Ar x.sc 1 3=true:=by
    cases c:Ar x.sc 1 3
    . exact aB c a
    rfl
   exact Om.1 this
  |succ k=>exact tY l h k (by simpa using hk)
theorem SM{c:Ad}(h:Cf c=0):Li c=true/\Gj [] c.rs=0/\Ig c.ks=0:=by
 grind[Cf]
def JZ(c:Ad)(p:Bd)(w:Wd)(B:Nat)(M:B<=w.heap.size)(R:c.cs.length<=p.cc/\p.cc<=9223372036854775807)(ha:Kb B w c p):
 CV 127 #[Ay c p] w (Ax c):=by
 try delta Ay Az
 have d1:=ha.rs.1;have d2:=ha.ks.1;have d3:=ha.creditN;have d4:=I ha.creditF;have HA:=I ha;clear ha;delta CV;go_in;go_wp2_with fail;have HX:=I (zh w (Aj c p));have HB:=I (J w (Aj c p));generalize w.alloc (Aj c p)=W at*;refine ca (tO c p W B (Bf M HB.1.size) (HA.1.keep (HB.1.mono M))) λw1 a7=>?_;have a8:=fE HB a7;have a3:=fO HX a7;clear a7 HB HX;by_cases eG:Cf c=0
 case neg=>
  have P:Af (Ax c=Cf c):=I (iP eG);have n:=CN eG
  clear eG;go_wp2;go_ret;exact hU P a8
 have⟨b3,b4,b5⟩:=SM eG;have a9:c.cs.length<=1000:=by simp[Li]at b3;omega
 have c6:=I (λk (hk:k<c.rs.length)=>tX c.rs [] b4 k hk);have c7:=I (λk (hk:k<c.ks.length)=>tY c.ks b5 k hk);have Hv:Af (Ax c=if Av (Fg c.cs) 0 (c.cs.length-0)≠0 then Av (Fg c.cs) 0 (c.cs.length-0) else if Av (Fh c) 0 (c.rs.length-0)≠0 then Av (Fh c) 0 (c.rs.length-0) else if Av (Ep c) 0 (c.ks.length-0)≠0 then Av (Ep c) 0 (c.ks.length-0) else Av (Gt c) 0 (c.xs.length-0)):=I (iN (by simpa using eG));clear b3 b4 b5;rw[eG];clear eG;have H:=Ic a3.1;have N:=Ag a3.1;go_wp2_with fail;clear H N;go_loopw [4] (λi wr=>∃(k:Nat),k<=c.cs.length/\i=Bn k/\Af (Av (Fg c.cs) 0 (c.cs.length-0)=Av (Fg c.cs) k (c.cs.length-k))/\Af (wr.heap[w.heap.size]?=some (Aj c p))/\Af (Bw w wr)) (λi _=>c.cs.length-(intOf i).toNat);exact⟨0,Bg _,rfl,I rfl,a3,a8⟩;clear a3 a8;obtain⟨k,hk,rfl,E,r,a⟩:=hrel;have H:=Ic r.1;have N:=Ag r.1;by_cases f:k<c.cs.length
 . have⟨b,a4,j,hb,s⟩:=(HA.1.keep (a.1.mono M)).cs.cells (by omega);have⟨c0,c8,a2,t,⟨S,T,U,V⟩,h,d⟩:=s k f;have o:b<wr.heap.size:=by have:=a.1.size;omega
   rw[j]at H;have c9:=I j;have HF:=I h;have b6:=I d;clear j s d h;go_wp2_with fail;refine ca (NM _ wr c8) λw2 q=>?_;have a5:=fE a q;have b7:=fO r q;have u:B<=wr.heap.size:=Bf M a.1.size;have a6:=I (b6.1.keep (q.mono u));have y7:=zj H N q;have yl:w.heap.size<w2.heap.size:=As N q.size;have z1:=zj S o q;have z2:=zj T o q;have z3:=zj U o q;have z4:=zj V o q;have zb:b<w2.heap.size:=As o q.size;have b8:B<=w2.heap.size:=Bf u q.size;clear q c0 S T U V H N a r b6 o;cases eK:Re (Ak c.cs k).name
   . have G:=I (show Fg c.cs k=(Bx c.cs k).2 by rw[Fg,eK];rfl);have b0:(c.cs.take k).length=k:=by rw[List.length_take];omega
     have F:=I (λdd os=>Fa (nI (c.cs.take k) (some (aD b a4)) p.cc B 0 (by decide) (Ak c.cs k).ex a2 t (grow (redrawn w2 dd) os) (Bf b8 (bR w2 dd os).size) (by rw[b0];omega) (by rw[b0];omega) (gC (c9.1 ▸ (HA.1.keep ((Ab a5.1 (bR w2 dd os)).mono M)).cs) k) HF.1 (a6.1.keep ((bR w2 dd os).mono b8))));rw[b0,wE,wF]at F;go_wp2_with fail;have r0:=cR y7;have r1:=cR z1;have r2:=cR z2;have r3:=cR z3;have r4:=cR z4;refine SY ?_;repeat go_big_quiet_step (with_reducible exact F.1 _ _)
     refine wpQuiet_nil ?_;intro _ K;obtain⟨⟨L,l⟩,v⟩:=K;subst v;have m:=fE a5 (bR w2 L l);have x:=fO b7 (bR w2 L l);clear r0 r1 r2 r3 r4 F y7 yl z1 z2 z3 z4 zb a5 b7 a6;generalize grow (redrawn w2 L) l=W3 at*;by_cases n:(Bx c.cs k).2=0
     . have g:=I (E.1.trans (Ns f (G.1.trans n)));rw[n];go_wp2;go_roundw;(try((repeat apply eX);refine⟨?_,rfl⟩));exact⟨k+1,by omega,by go_num,g,x,m⟩;simp[intOf];omega
     have g:=I (E.1.trans (Mc f (by rw[G.1];exact n)));have P:=I (show Ax c=(Bx c.cs k).2 by rw[Hv.1,g.1,G.1,iP n]);have e2:=CN n
     clear n;go_wp2;go_ret;exact hU P m
   have G:=I (show Fg c.cs k=7 by rw[Fg,eK];rfl);have g:=I (E.1.trans (Mc f (by rw[G.1];decide)));have P:=I (show Ax c=7 by rw[Hv.1,g.1,G.1];rfl);go_wp2;go_ret;exact hU P a5
 obtain rfl:k=c.cs.length:=by omega
 have z:=I (E.1.trans (Nq _ _));have b1:=I (Hv.1.trans (iN (by rw[z.1];simp)));clear Hv E hk f z;have Q:=Jg r.1;go_wp2_with fail;clear H Q N;go_loopw [7] (λi wr=>∃(k:Nat),k<=c.rs.length/\i=Bn k/\Af (Av (Fh c) 0 (c.rs.length-0)=Av (Fh c) k (c.rs.length-k))/\Af (wr.heap[w.heap.size]?=some (Aj c p))/\Af (Bw w wr)) (λi _=>c.rs.length-(intOf i).toNat);exact⟨0,Bg _,rfl,I rfl,r,a⟩;clear r a;obtain⟨k,hk,rfl,E,r,a⟩:=hrel;have⟨x0,x1,x2,x3,x4,x5,x6,H,Q,X,y,A,C,D,N⟩:=Ek r.1;by_cases f:k<c.rs.length
 . have⟨b,a4,j,hb,s⟩:=(HA.1.keep (a.1.mono M)).rs.cells (by omega);have⟨c0,S,_,_,a2,t,⟨T,U,V,c5⟩,h,d⟩:=s k f;have d0:=c6.1 k f;have o:b<wr.heap.size:=by have:=a.1.size;omega
   have u:B<=wr.heap.size:=Bf M a.1.size;have F:=I (λdd os=>Fa (nN c p B (Ah c.rs k).sc ⟨by omega,by omega⟩ (Ah c.rs k).ex a2 t 4 (grow (redrawn wr dd) os) (Bf u (bR wr dd os).size) R a9 (HA.1.keep ((Ab a.1 (bR wr dd os)).mono M)) h (d.keep ((bR wr dd os).mono u))));rw[j]at Q;simp only[Ay,j]at F;clear s d h j;go_wp2_with fail;have r0:=cR x0;have r1:=cR x1;have r2:=cR x2;have r3:=cR x3;have r4:=cR x4;have r5:=cR x5;have r6:=cR x6;have r7:=cR H;have r8:=cR Q;have r9:=cR X;have Y:=cR y;have Z:=cR A;have a0:=cR C;have a1:=cR D;have s0:=cR c0;have s1:=cR S;have s2:=cR T;have s3:=cR U;have s4:=cR V;have s5:=cR c5;refine SY ?_;repeat go_big_quiet_step (with_reducible exact F.1 _ _)
   refine wpQuiet_nil ?_;intro _ K;obtain⟨⟨L,l⟩,v⟩:=K;subst v;have m:=fE a (bR wr L l);have x:=fO r (bR wr L l);clear r0 r1 r2 r3 r4 r5 r6 r7 r8 r9 Y Z a0 a1 s0 s1 s2 s3 s4 s5 x0 x1 x2 x3 x4 x5 x6 H Q X y A C D N c0 S T U V c5 F r a o;generalize grow (redrawn wr L) l=W3 at*;have G:Af (Fh c k=(Cu (Cd c.cs c.cs.length (Ah c.rs k).sc (Ah c.rs k).ex) 4)):=I rfl;by_cases n:(Cu (Cd c.cs c.cs.length (Ah c.rs k).sc (Ah c.rs k).ex) 4)=0
   . have g:=I (E.1.trans (Ns f (G.1.trans n)));rw[n];go_wp2;go_roundw;(try((repeat apply eX);refine⟨?_,rfl⟩));exact⟨k+1,by omega,by go_num,g,x,m⟩;simp[intOf];omega
   have g:=I (E.1.trans (Mc f (by rw[G.1];exact n)));have P:=I (show Ax c=(Cu (Cd c.cs c.cs.length (Ah c.rs k).sc (Ah c.rs k).ex) 4) by rw[b1.1,g.1,G.1,iP n]);have e2:((Cu (Cd c.cs c.cs.length (Ah c.rs k).sc (Ah c.rs k).ex) 4) !=0)=true:=by simpa using n
   clear n;go_wp2;go_ret;exact hU P m
 obtain rfl:k=c.rs.length:=by omega
 have z:=I (E.1.trans (Nq _ _));have b2:=I (b1.1.trans (iN (by rw[z.1];simp)));clear b1 E hk f z;go_wp2_with fail;clear x0 x1 x2 x3 x4 x5 x6 H Q X y A C D N;go_loopw [9] (λi wr=>∃(k:Nat),k<=c.ks.length/\i=Bn k/\Af (Av (Ep c) 0 (c.ks.length-0)=Av (Ep c) k (c.ks.length-k))/\Af (wr.heap[w.heap.size]?=some (Aj c p))/\Af (Bw w wr)) (λi _=>c.ks.length-(intOf i).toNat);exact⟨0,Bg _,rfl,I rfl,r,a⟩;clear r a;obtain⟨k,hk,rfl,E,r,a⟩:=hrel;have⟨x0,x1,x2,x3,x4,x5,x6,H,Q,X,y,A,C,D,N⟩:=Ek r.1;by_cases f:k<c.ks.length
 . have⟨b,a4,j,hb,s⟩:=(HA.1.keep (a.1.mono M)).ks.cells (by omega);have⟨c0,_,a2,t,⟨S,T,U,V⟩,h,d⟩:=s k f;have d0:=c7.1 k f;have o:b<wr.heap.size:=by have:=a.1.size;omega
   have u:B<=wr.heap.size:=Bf M a.1.size;have F:=I (λdd os=>Fa (nN c p B (Aq c.ks k).sc ⟨by omega,by omega⟩ (Aq c.ks k).ex a2 t 1 (grow (redrawn wr dd) os) (Bf u (bR wr dd os).size) R a9 (HA.1.keep ((Ab a.1 (bR wr dd os)).mono M)) h (d.keep ((bR wr dd os).mono u))));rw[j]at X;simp only[Ay,j]at F;clear s d h j;go_wp2_with fail;have r0:=cR x0;have r1:=cR x1;have r2:=cR x2;have r3:=cR x3;have r4:=cR x4;have r5:=cR x5;have r6:=cR x6;have r7:=cR H;have r8:=cR Q;have r9:=cR X;have Y:=cR y;have Z:=cR A;have a0:=cR C;have a1:=cR D;have s0:=cR c0;have s1:=cR S;have s2:=cR T;have s3:=cR U;have s4:=cR V;refine SY ?_;repeat go_big_quiet_step (with_reducible exact F.1 _ _)
   refine wpQuiet_nil ?_;intro _ K;obtain⟨⟨L,l⟩,v⟩:=K;subst v;have m:=fE a (bR wr L l);have x:=fO r (bR wr L l);clear r0 r1 r2 r3 r4 r5 r6 r7 r8 r9 Y Z a0 a1 s0 s1 s2 s3 s4 x0 x1 x2 x3 x4 x5 x6 H Q X y A C D N c0 S T U V F r a o;generalize grow (redrawn wr L) l=W3 at*;have G:Af (Ep c k=(Cu (Cd c.cs c.cs.length (Aq c.ks k).sc (Aq c.ks k).ex) 1)):=I rfl;by_cases n:(Cu (Cd c.cs c.cs.length (Aq c.ks k).sc (Aq c.ks k).ex) 1)=0
   . have g:=I (E.1.trans (Ns f (G.1.trans n)));rw[n];go_wp2;go_roundw;(try((repeat apply eX);refine⟨?_,rfl⟩));exact⟨k+1,by omega,by go_num,g,x,m⟩;simp[intOf];omega
   have g:=I (E.1.trans (Mc f (by rw[G.1];exact n)));have P:=I (show Ax c=(Cu (Cd c.cs c.cs.length (Aq c.ks k).sc (Aq c.ks k).ex) 1) by rw[b2.1,g.1,G.1,iP n]);have e2:((Cu (Cd c.cs c.cs.length (Aq c.ks k).sc (Aq c.ks k).ex) 1) !=0)=true:=by simpa using n
   clear n;go_wp2;go_ret;exact hU P m
 obtain rfl:k=c.ks.length:=by omega
 have z:=I (E.1.trans (Nq _ _));have b9:=I (b2.1.trans (iN (by rw[z.1];simp)));clear b2 E hk f z;go_wp2_with fail;clear x0 x1 x2 x3 x4 x5 x6 H Q X y A C D N;go_loopw [11] (λi wr=>∃(k:Nat),k<=c.xs.length/\i=Bn k/\Af (Av (Gt c) 0 (c.xs.length-0)=Av (Gt c) k (c.xs.length-k))/\Af (wr.heap[w.heap.size]?=some (Aj c p))/\Af (Bw w wr)) (λi _=>c.xs.length-(intOf i).toNat);exact⟨0,Bg _,rfl,I rfl,r,a⟩;clear r a;obtain⟨k,hk,rfl,E,r,a⟩:=hrel;have⟨x0,x1,x2,x3,x4,x5,x6,H,Q,X,y,A,C,D,N⟩:=Ek r.1;by_cases f:k<c.xs.length
 . have⟨b,a4,j,hb,s⟩:=(HA.1.keep (a.1.mono M)).xs.cells (by omega);have⟨a2,t,_,⟨S,T,U,V⟩,h,d⟩:=s.at k f;have o:b<wr.heap.size:=by have:=a.1.size;omega
   have u:B<=wr.heap.size:=Bf M a.1.size;have F:=I (λdd os=>Fa (nN c p B 1 (by decide) (Au c.xs k) a2 t 2 (grow (redrawn wr dd) os) (Bf u (bR wr dd os).size) R a9 (HA.1.keep ((Ab a.1 (bR wr dd os)).mono M)) h (d.keep ((bR wr dd os).mono u))));rw[j]at y;simp only[Ay,j]at F;clear s d h j;go_wp2_with fail;have r0:=cR x0;have r1:=cR x1;have r2:=cR x2;have r3:=cR x3;have r4:=cR x4;have r5:=cR x5;have r6:=cR x6;have r7:=cR H;have r8:=cR Q;have r9:=cR X;have Y:=cR y;have Z:=cR A;have a0:=cR C;have a1:=cR D;have s0:=cR S;have s1:=cR T;have s2:=cR U;have s3:=cR V;refine SY ?_;repeat go_big_quiet_step (with_reducible exact F.1 _ _)
   refine wpQuiet_nil ?_;intro _ K;obtain⟨⟨L,l⟩,v⟩:=K;subst v;have m:=fE a (bR wr L l);have x:=fO r (bR wr L l);clear r0 r1 r2 r3 r4 r5 r6 r7 r8 r9 Y Z a0 a1 s0 s1 s2 s3 x0 x1 x2 x3 x4 x5 x6 H Q X y A C D N S T U V F r a o;generalize grow (redrawn wr L) l=W3 at*;have G:Af (Gt c k=(Cu (Cd c.cs c.cs.length 1 (Au c.xs k)) 2)):=I rfl;by_cases n:(Cu (Cd c.cs c.cs.length 1 (Au c.xs k)) 2)=0
   . have g:=I (E.1.trans (Ns f (G.1.trans n)));rw[n];go_wp2;go_roundw;(try((repeat apply eX);refine⟨?_,rfl⟩));exact⟨k+1,by omega,by go_num,g,x,m⟩;simp[intOf];omega
   have g:=I (E.1.trans (Mc f (by rw[G.1];exact n)));have P:=I (show Ax c=(Cu (Cd c.cs c.cs.length 1 (Au c.xs k)) 2) by rw[b9.1,g.1,G.1]);have e2:((Cu (Cd c.cs c.cs.length 1 (Au c.xs k)) 2) !=0)=true:=by simpa using n
   clear n;go_wp2;go_ret;exact hU P m
 obtain rfl:k=c.xs.length:=by omega
 have z:=I (E.1.trans (Nq _ _));have P:=I (b9.1.trans z.1);go_wp2;go_ret;exact hU P a
def Jn(t:At)(c:Ad):Int:=if zY t≠0 then zY t else Ax c
def kJ(t:At)(c:Ad)(g:Ae)(b:Nat)(h:Ae)(ac:Nat)(fa:Ae)(fc:Nat)(p:Bd)(w:Wd)(B:Nat)(s:B<=w.heap.size)(j:t.zn.length<=b/\b<=2^47/\t.ai.length<=ac/\ac<=2^47)(n:c.cs.length<=p.cc/\p.cc<=9223372036854775807)(u:Al Nc w g t.zn)(v:Al Mk w h t.ai)(x:Al Hi w fa t.fs)(y:Kb B w c p):
 CV 73 #[Az t g b h ac fa fc,Ay c p] w (Jn t c):=by
 try delta Ay Az
 have A:=I u;have C:=I v;have D:=I x;have E:=I y;clear u v x y;delta CV;go_in;go_wp2_with fail;have k:=I (Ab (J w (Ap t g b h ac fa fc)) (J _ (Aj c p)));have m:=I (zh (w.alloc (Ap t g b h ac fa fc)) (Aj c p));rw[zr]at m;have⟨z,d⟩:=aT (w.heap.size+1);rw[<-d]at m;simp only[<-d];clear d;generalize (w.alloc (Ap t g b h ac fa fc)).alloc (Aj c p)=W at*;refine ca (GO t g h fa b ac fc W j (A.1.below k.1) (C.1.below k.1) (D.1.below k.1)) λF f=>?_;have a:=fE k f;have o:=fO m f;clear f k m;by_cases i:zY t=0
 . have q:Af (Jn t c=Ax c):=I (iN (by simpa using i));have⟨M,N,P,Q,R,S,T,U,V,X,G,H,K,L,Y⟩:=Ek o.1;rw[i];clear i;go_wp2_with fail;refine ca (JZ c p F B (Bf s a.1.size) n (E.1.keep (a.1.mono s))) λZ l=>?_;have r:=fE a l;clear l;go_wp2;go_ret;exact hU q r
 have q:Af (Jn t c=zY t):=I (iP i);have e1:=CN i
 clear i;go_wp2;go_ret;exact hU q a
theorem zD{w':Wd}{b o:Nat}{v:Value}(h:w.cell? (aD b o)=some v)(a:b<w.heap.size)(c:Bw w w'):w'.cell? (aD b o)=some v:=(c.cell (p:=aD b o) a).trans h
def AH(t:At)(c:Ad)(n:Ae)(o:Nat)(q:Ae)(ac:Nat)(fa:Ae)(fc:Nat)(p:Bd)(w:Wd)(hT:zY t=0)(hf:Al Hi w fa t.fs)(i j:Nat)(L:i<t.fs.length)(M:j<t.fs.length):
 CV 112 #[Az t n o q ac fa fc,Ay c p,i,j] w (.bool (Jj t c i j)):=by
 try delta Ay Az
 obtain⟨b,f,rfl,l,E⟩:=Qg hf (by omega);have⟨⟨_,_,F,_,G,_,_,_,_⟩,_⟩:=E i L;have⟨⟨_,H,_,K,_,_,_,_,_⟩,_⟩:=E j M;have⟨a4,a5,a6,a7⟩:=Lu hT L;have⟨a8,a9,b0,b1⟩:=Lu hT M;have a0:-52593120<=(Aa t.fs j).dp-(Aa t.fs i).ar:=by omega
 have a1:(Aa t.fs j).dp-(Aa t.fs i).ar<=52593120:=by omega
 have a2:=(On hT).2.2;clear E hf;cases e0:((Aa t.fs i).to.toList==(Aa t.fs j).fq.toList)
 . have N:=I (show Jj t c i j=false by simp[Jj,e0]);delta CV;go_in;go_wp2_with fail;have r:=I (Ab (J w (Ap t n o q ac (some (aD b f)) fc)) (J _ (Aj c p)));have s:=I (zd (o':=(Aj c p)) (zh w (Ap t n o q ac (some (aD b f)) fc)));have h:=I (zh (w.alloc (Ap t n o q ac (some (aD b f)) fc)) (Aj c p));rw[zr]at h;have⟨x,g⟩:=aT (w.heap.size+1);rw[<-g]at h;simp only[<-g];clear g;have k:=r.1;have y:=zD F l k;have P:=zD G l k;have z:=zD H l k;have Q:=zD K l k;have d:=As l k.size;have A:=zC s.1;have B:=zC h.1;have C:=Hk h.1;have u:=Ag s.1;have m:=Ag h.1;clear k s h;generalize (w.alloc (Ap t n o q ac (some (aD b f)) fc)).alloc (Aj c p)=W at*;go_quiet (fail);have a:=dr W nq;have R:=zD y d a;have S:=zD z d a;have T:=zD A u a;have U:=zD B m a;have V:=zD C m a;have D:=As d a.size;have X:=As u a.size;have Y:=As m a.size;have v:=fE r a;clear a r y P z Q A B C u m d;generalize W.drewN nq=W1 at*;go_wp2;go_quiet (fail);go_wp2;go_ret;exact⟨zz N.1.symm,Ab v.1 (dr _ _)⟩
 by_cases Z:c.cn<=(Aa t.fs j).dp-(Aa t.fs i).ar
 . have N:=I (show Jj t c i j=decide ((Aa t.fs j).dp-(Aa t.fs i).ar<=c.sit) by simp[Jj,e0,Z]);have a3:decide (c.cn<=(Aa t.fs j).dp-(Aa t.fs i).ar)=true:=by simpa using Z
   delta CV;go_in;go_wp2_with fail;have r:=I (Ab (J w (Ap t n o q ac (some (aD b f)) fc)) (J _ (Aj c p)));have s:=I (zd (o':=(Aj c p)) (zh w (Ap t n o q ac (some (aD b f)) fc)));have h:=I (zh (w.alloc (Ap t n o q ac (some (aD b f)) fc)) (Aj c p));rw[zr]at h;have⟨x,g⟩:=aT (w.heap.size+1);rw[<-g]at h;simp only[<-g];clear g;have k:=r.1;have y:=zD F l k;have P:=zD G l k;have z:=zD H l k;have Q:=zD K l k;have d:=As l k.size;have A:=zC s.1;have B:=zC h.1;have C:=Hk h.1;have u:=Ag s.1;have m:=Ag h.1;clear k s h;generalize (w.alloc (Ap t n o q ac (some (aD b f)) fc)).alloc (Aj c p)=W at*;go_quiet (fail);have a:=dr W nq;have R:=zD y d a;have S:=zD z d a;have T:=zD A u a;have U:=zD B m a;have V:=zD C m a;have D:=As d a.size;have X:=As u a.size;have Y:=As m a.size;have v:=fE r a;clear a r y P z Q A B C u m d;generalize W.drewN nq=W1 at*;go_wp2;go_quiet (fail);go_wp2;go_ret;exact⟨zz N.1.symm,Ab v.1 (dr _ _)⟩
 have N:=I (show Jj t c i j=false by simp[Jj,Z]);have a3:decide (c.cn<=(Aa t.fs j).dp-(Aa t.fs i).ar)=false:=by simpa using Z
 delta CV;go_in;go_wp2_with fail;have r:=I (Ab (J w (Ap t n o q ac (some (aD b f)) fc)) (J _ (Aj c p)));have s:=I (zd (o':=(Aj c p)) (zh w (Ap t n o q ac (some (aD b f)) fc)));have h:=I (zh (w.alloc (Ap t n o q ac (some (aD b f)) fc)) (Aj c p));rw[zr]at h;have⟨x,g⟩:=aT (w.heap.size+1);rw[<-g]at h;simp only[<-g];clear g;have k:=r.1;have y:=zD F l k;have P:=zD G l k;have z:=zD H l k;have Q:=zD K l k;have d:=As l k.size;have A:=zC s.1;have B:=zC h.1;have C:=Hk h.1;have u:=Ag s.1;have m:=Ag h.1;clear k s h;generalize (w.alloc (Ap t n o q ac (some (aD b f)) fc)).alloc (Aj c p)=W at*;go_quiet (fail);have a:=dr W nq;have R:=zD y d a;have S:=zD z d a;have T:=zD A u a;have U:=zD B m a;have V:=zD C m a;have D:=As d a.size;have X:=As u a.size;have Y:=As m a.size;have v:=fE r a;clear a r y P z Q A B C u m d;generalize W.drewN nq=W1 at*;go_wp2;go_quiet (fail);go_wp2;go_ret;exact⟨zz N.1.symm,Ab v.1 (dr _ _)⟩
theorem RR{t:At}{n:Int}(h:Gp t n=false):n<0\/(0<=n/\(t.fs.length:Int)<=n):=by
 grind[Gp]
def kK(t:At)(c:Ad)(s:Ae)(u:Nat)(v:Ae)(ac:Nat)(fa:Ae)(fc:Nat)(p:Bd)(w:Wd)(Z:zY t=0)(hf:Al Hi w fa t.fs)(d:Ai)(da:Ae)(dc:Nat)(a9:d.length<=2^47)(hd:Al Ei w da d):
 CV 256 #[Az t s u v ac fa fc,Ay c p,CU da d.length dc] w (Cc t c d):=by
 try delta Ay Az
 by_cases h1:d.length<1
 . have x:Af (Cc t c d=5):=I (iP (.inl h1));delta CV;go_in;go_wp2;go_ret;exact⟨ze x.1.symm,Ab (J w (Ap t s u v ac fa fc)) (J _ (Aj c p))⟩
 by_cases h2:6<d.length
 . have x:Af (Cc t c d=5):=I (iP (.inr h2));delta CV;go_in;go_wp2;go_ret;exact⟨ze x.1.symm,Ab (J w (Ap t s u v ac fa fc)) (J _ (Aj c p))⟩
 have Hv:Af (Cc t c d=if Av (Fi t d) 0 (d.length-0)≠0 then Av (Fi t d) 0 (d.length-0) else Av (Hq t c d) 1 (d.length-1)):=I (iN (by omega));have HF:=I hf;have HD:=I hd;have a0:=(On Z).2.2;have a1:=I Z;clear hf hd Z;delta CV;go_in;go_wp2_with fail;have HB:=I (Ab (J w (Ap t s u v ac fa fc)) (J _ (Aj c p)));have QT:=I (zd (o':=(Aj c p)) (zh w (Ap t s u v ac fa fc)));have U:=I (zh (w.alloc (Ap t s u v ac fa fc)) (Aj c p));rw[zr]at U;have⟨V,B⟩:=aT (w.heap.size+1);rw[<-B]at U;simp only[<-B];clear B;generalize (w.alloc (Ap t s u v ac fa fc)).alloc (Aj c p)=W at*;go_loopw [7] (λi wr=>∃(k:Nat),k<=d.length/\i=Bn k/\Af (Av (Fi t d) 0 (d.length-0)=Av (Fi t d) k (d.length-k))/\Af (wr.heap[w.heap.size]?=some (Ap t s u v ac fa fc))/\Af (wr.heap[V]?=some (Aj c p))/\Af (Bw w wr)) (λi _=>d.length-(intOf i).toNat);exact⟨0,Bg _,rfl,I rfl,QT,U,HB⟩;clear QT U HB;obtain⟨k,hk,rfl,z,f,o,a⟩:=hrel;have X:=zC f.1;have xl:=Ag f.1;by_cases h:k<d.length
 . have⟨b,a2,C,hb,r⟩:=Ok (HD.1.below a.1) (by omega);have G:=(r k h).1;subst C;clear r;cases A:Gp t (Cm d k).1
   . have l:=I (z.1.trans (Mc h (by rw[Fi,A];decide)));have x:=I (show Cc t c d=6 by rw[Hv.1,l.1,Fi,A];rfl);rcases RR A with g|⟨g,g2⟩
     . clear A;go_wp2;go_quiet (fail);go_wp2;go_ret;exact⟨ze x.1.symm,Ab a.1 (dr _ _)⟩
     clear A;go_wp2;go_quiet (fail);go_wp2;go_ret;exact⟨ze x.1.symm,Ab a.1 (dr _ _)⟩
   have⟨m,F,H⟩:=Qh A;have l:=I (z.1.trans (Ns h (by rw[Fi,A];rfl)));rw[F]at G;clear A F;go_wp2;go_quiet (fail);go_wp2;go_roundw;(try((repeat apply eX);refine⟨?_,rfl⟩));exact⟨k+1,by omega,by go_num,l,fO f (dr _ _),fO o (dr _ _),fE a (dr _ _)⟩;simp[intOf];omega
 obtain rfl:k=d.length:=by omega
 have D:=z.1.trans (Nq _ _);have K:=I (λj (hj:j<d.length)=>show Gp t (Cm d j).1=true from by
  have:=Ti _ _ D j (by omega) (by omega);unfold Fi at this
  by_cases e:Gp t (Cm d j).1=true
  . exact e
  rw[iN e]at this;omega)
 have L:=I (Hv.1.trans (iN (by rw[D];simp)));clear Hv z hk h D;go_wp2_with fail;clear X xl;go_loopw [8] (λi wr=>∃(k:Nat),1<=k/\k<=d.length/\i=Bn k/\Af (Av (Hq t c d) 1 (d.length-1)=Av (Hq t c d) k (d.length-k))/\Af (wr.heap[w.heap.size]?=some (Ap t s u v ac fa fc))/\Af (wr.heap[V]?=some (Aj c p))/\Af (Bw w wr)) (λi _=>d.length-(intOf i).toNat);exact⟨1,by omega,by omega,rfl,I rfl,f,o,a⟩;clear f o a;obtain⟨k,b0,hk,rfl,z,f,o,a⟩:=hrel;by_cases h:k<d.length
 . obtain⟨q,rfl⟩:∃q,k=q+1:=⟨k-1,by omega⟩;have⟨b,a2,C,hb,r⟩:=Ok (HD.1.below a.1) (by omega);have G:=(r q (by omega)).1;have t1:=(r (q+1) h).1;subst C;have⟨m,F,H⟩:=Qh (K.1 q (by omega));have⟨n,hn,a3⟩:=Qh (K.1 (q+1) h);have hE:=I (show Hq t c d (q+1)=if Jj t c m n=true then 0 else 14 by rw[Hq,Nat.add_sub_cancel,F,hn];rfl);rw[F]at G;rw[hn]at t1;have b1:((q+1:Nat):Int)-1=(q:Int):=by omega
   have b2:q<d.length:=by omega
   have C1:=I (λdd os=>Fa (AH t c s u v ac fa fc p (grow (redrawn wr dd) os) a1.1 (HF.1.below (Ab a.1 (bR wr dd os))) m n H a3));clear r F hn;have⟨x0,x1,X,xl⟩:=Ev f.1;have⟨y0,y1,y2,y3,y4,y5,y6,y7,y8,y9,M,N,P,Q,yl⟩:=Ek o.1;go_wp2_with fail;have r0:=cR x0;have r1:=cR x1;have r2:=cR X;have s0:=cR y0;have s1:=cR y1;have s2:=cR y2;have s3:=cR y3;have s4:=cR y4;have s5:=cR y5;have s6:=cR y6;have s7:=cR y7;have s8:=cR y8;have s9:=cR y9;have a4:=cR M;have a5:=cR N;have a6:=cR P;have a7:=cR Q;have k0:=cR G;have k1:=cR t1;refine SY ?_;repeat go_big_quiet_step (with_reducible exact C1.1 _ _)
   refine wpQuiet_nil ?_;intro _ a8;obtain⟨⟨Y,y⟩,R⟩:=a8;subst R;have E:=fE a (bR wr Y y);have S:=fO f (bR wr Y y);have T:=fO o (bR wr Y y);clear r0 r1 r2 s0 s1 s2 s3 s4 s5 s6 s7 s8 s9 a4 a5 a6 a7 k0 k1 x0 x1 X xl y0 y1 y2 y3 y4 y5 y6 y7 y8 y9 M N P Q yl G t1 C1 f o a hb;generalize grow (redrawn wr Y) y=W2 at*;cases eJ:Jj t c m n
   . have l:=I (z.1.trans (Mc h (by rw[hE.1,eJ];decide)));have x:=I (show Cc t c d=14 by rw[L.1,l.1,hE.1,eJ];rfl);go_wp2;go_ret;exact hU x E
   have l:=I (z.1.trans (Ns h (by rw[hE.1,eJ];rfl)));go_wp2;go_roundw;(try((repeat apply eX);refine⟨?_,rfl⟩));exact⟨q+1+1,by omega,by omega,by go_num,l,S,T,E⟩;simp[intOf];omega
 obtain rfl:k=d.length:=by omega
 have x:=I (L.1.trans (z.1.trans (Nq _ _)));go_wp2;go_ret;exact hU x a
theorem kT{t:At}{c:Ad}(h:Jn t c=0):zY t=0/\Ax c=0:=by
 grind[Jn]
theorem RY{t:At}{c:Ad}{d:Ai}(h:Jn t c≠0):Bk t c d=Jn t c:=by
 grind[Jn,pY,pW]
def FI(t:At)(c:Ad)(i:Ae)(b:Nat)(j:Ae)(ac:Nat)(fa:Ae)(fc:Nat)(p:Bd)(w:Wd)(m:(t.zn.length<=b/\b<=2^47/\t.ai.length<=ac/\ac<=2^47))(s:c.cs.length<=p.cc/\p.cc<=9223372036854775807)(n:Ea w t c i j fa p)(d:Ai)(u:Ae)(F:Nat)(v:d.length<=2^47)(hd:Al Ei w u d):
 CV 254 #[Az t i b j ac fa fc,Ay c p,CU u d.length F] w (Bk t c d):=by
 try delta Ay Az
 have G:=I n;have M:=I hd;clear n hd;delta CV;go_in;go_wp2_with fail;have x:=I (Ab (J w (Ap t i b j ac fa fc)) (J _ (Aj c p)));have H:=I (zd (o':=(Aj c p)) (zh w (Ap t i b j ac fa fc)));have r:=I (zh (w.alloc (Ap t i b j ac fa fc)) (Aj c p));rw[zr]at r;have⟨K,k⟩:=aT (w.heap.size+1);rw[<-k]at r;simp only[<-k];clear k;generalize (w.alloc (Ap t i b j ac fa fc)).alloc (Aj c p)=W at*;have o:=I (G.1.below x.1);refine ca (kJ t c i b j ac fa fc p W W.heap.size (Bv _) m s o.1.z o.1.a o.1.f o.1.c) λN g=>?_;have h:=fE x g;have y:=fO H g;have A:=fO r g;clear g x H r o;by_cases l:Jn t c=0
 . have⟨B,L⟩:=kT l;have C:=I (pX (d:=d) B L);have D:=I B;clear B L;have⟨T,U,V,X⟩:=Ev y.1;have⟨Y,Z,y2,y3,y4,y5,y6,y7,y8,y9,P,Q,R,S,yl⟩:=Ek A.1;rw[l];clear l;go_wp2_with fail;refine ca (kK t c i b j ac fa fc p N D.1 (G.1.below h.1).f d u F v (M.1.below h.1)) λw2 q=>?_;have E:=fE h q;clear q;go_wp2;go_ret;exact hU C E
 have C:=I (RY (d:=d) l);have e1:=CN l
 clear l;go_wp2;go_ret;exact hU C h
def Yn{b:Nat}{q p o n l k g f d:Value}(v0 v1 v2 v3 a c e j m:Value)(h:w.heap[b]?=some (.cells #[q,p,o,n,l,k,g,f,d] T (0,0))):(((((((((w.setCell (aD b 0) v0).setCell (aD b 1) v1).setCell (aD b 2) v2).setCell (aD b 3) v3).setCell (aD b 4) a).setCell (aD b 5) c).setCell (aD b 6) e).setCell (aD b 7) j).setCell (aD b 8) m).heap[b]?=some (.cells #[v0,v1,v2,v3,a,c,e,j,m] T (0,0)):=by
 have r:(w.setCell (aD b 0) v0).heap[b]?=some (.cells #[v0,p,o,n,l,k,g,f,d] T (0,0)):=zg (i:=0) (u:=v0) h;have s:((w.setCell (aD b 0) v0).setCell (aD b 1) v1).heap[b]?=some (.cells #[v0,v1,o,n,l,k,g,f,d] T (0,0)):=zg (i:=1) (u:=v1) r;have t:(((w.setCell (aD b 0) v0).setCell (aD b 1) v1).setCell (aD b 2) v2).heap[b]?=some (.cells #[v0,v1,v2,n,l,k,g,f,d] T (0,0)):=zg (i:=2) (u:=v2) s;have v:((((w.setCell (aD b 0) v0).setCell (aD b 1) v1).setCell (aD b 2) v2).setCell (aD b 3) v3).heap[b]?=some (.cells #[v0,v1,v2,v3,l,k,g,f,d] T (0,0)):=zg (i:=3) (u:=v3) t;have x:(((((w.setCell (aD b 0) v0).setCell (aD b 1) v1).setCell (aD b 2) v2).setCell (aD b 3) v3).setCell (aD b 4) a).heap[b]?=some (.cells #[v0,v1,v2,v3,a,k,g,f,d] T (0,0)):=zg (i:=4) (u:=a) v;have y:((((((w.setCell (aD b 0) v0).setCell (aD b 1) v1).setCell (aD b 2) v2).setCell (aD b 3) v3).setCell (aD b 4) a).setCell (aD b 5) c).heap[b]?=some (.cells #[v0,v1,v2,v3,a,c,g,f,d] T (0,0)):=zg (i:=5) (u:=c) x;have z:(((((((w.setCell (aD b 0) v0).setCell (aD b 1) v1).setCell (aD b 2) v2).setCell (aD b 3) v3).setCell (aD b 4) a).setCell (aD b 5) c).setCell (aD b 6) e).heap[b]?=some (.cells #[v0,v1,v2,v3,a,c,e,f,d] T (0,0)):=zg (i:=6) (u:=e) y;have A:((((((((w.setCell (aD b 0) v0).setCell (aD b 1) v1).setCell (aD b 2) v2).setCell (aD b 3) v3).setCell (aD b 4) a).setCell (aD b 5) c).setCell (aD b 6) e).setCell (aD b 7) j).heap[b]?=some (.cells #[v0,v1,v2,v3,a,c,e,j,d] T (0,0)):=zg (i:=7) (u:=j) z;have B:(((((((((w.setCell (aD b 0) v0).setCell (aD b 1) v1).setCell (aD b 2) v2).setCell (aD b 3) v3).setCell (aD b 4) a).setCell (aD b 5) c).setCell (aD b 6) e).setCell (aD b 7) j).setCell (aD b 8) m).heap[b]?=some (.cells #[v0,v1,v2,v3,a,c,e,j,m] T (0,0)):=zg (i:=8) (u:=m) A;exact B
def iU(t:At)(s:Ae)(x:Nat)(y:Ae)(ac:Nat)(fa:Ae)(fc:Nat)(w:Wd)(M:Al Hi w fa t.fs)(E:t.fs.length<=200)(d:Ai)(N:Ae)(dc:Nat)(a0:0<d.length/\d.length<=6)(hd:Al Ei w N d)(m:Nat)(P:(Cm d 0).1=m)(F:m<t.fs.length):
 CV 209 #[Az t s x y ac fa fc,.slice N d.length dc] w (.agg #[.string (Aa t.fs m).num,.string (Aa t.fs m).fq,.string (Aa t.fs m).to,(Aa t.fs m).dp,(Aa t.fs m).ar,.string (Aa t.fs m).ty,(Aa t.fs m).n0,(Aa t.fs m).n1,(Aa t.fs m).n2]):=by
 try delta Ay Az
 obtain⟨b,q,rfl,i,z⟩:=Qg M (by omega);obtain⟨⟨p0,p1,p2,p3,p4,p5,p6,p7,p8⟩,_⟩:=z m F;obtain⟨b2,A,rfl,B,r⟩:=Ok hd (by omega);have D:=(r 0 (by omega)).1;rw[P]at D;have D:w.cell? (aD b2 A)=some (Bn (m:Int)):=by simpa using D
 clear z r P M hd;delta CV;go_in;go_wp2_with fail;have k:=I (Ab (J w (Ap t s x y ac (some (aD b q)) fc)) (J _ jB));have Q:=I (zd (o':=jB) (zh w (Ap t s x y ac (some (aD b q)) fc)));have G:=I (zh (w.alloc (Ap t s x y ac (some (aD b q)) fc)) jB);rw[zr]at G;obtain⟨a,l⟩:=aT (w.heap.size+1);rw[<-l]at G;simp only[<-l];have f:w.heap.size<=a:=by omega
 clear l;generalize (w.alloc (Ap t s x y ac (some (aD b q)) fc)).alloc jB=W at*;have R:=zD p0 i k.1;have S:=zD p1 i k.1;have T:=zD p2 i k.1;have U:=zD p3 i k.1;have V:=zD p4 i k.1;have Y:=zD p5 i k.1;have Z:=zD p6 i k.1;have u7:=zD p7 i k.1;have u8:=zD p8 i k.1;have ut:=zD D B k.1;have g:=As i k.1.size;have C:=As B k.1.size;have o:=I (aI ut (aI R (aI S (aI T (aI U (aI V (aI Y (aI Z (aI u7 u8)))))))));clear ut R S T U V Y Z u7 u8;refine' Wi [⟨5, [],.kn _⟩,⟨6, [5],.kn _⟩,⟨7, [],.kn _⟩,⟨8, [7],.kn _⟩,⟨9, [8],.kn _⟩,⟨10, [9],.kn _⟩,⟨11, [6,10],.kn _⟩,⟨12, [11],.kn _⟩] [1,2] [12] (λ_ h=>aI (Ag (Ac h Q.1)) (aI (zD o.1.2.2.2.2.2.2.2.2.2 g h) (aI (zD o.1.2.2.2.2.2.2.2.2.1 g h) (aI (zD o.1.2.2.2.2.2.2.2.1 g h) (aI (zD o.1.2.2.2.2.2.2.1 g h) (aI (zD o.1.2.2.2.2.2.1 g h) (aI (zD o.1.2.2.2.2.1 g h) (aI (zD o.1.2.2.2.1 g h) (aI (zD o.1.2.2.1 g h) (aI (zD o.1.2.1 g h) (aI (zD o.1.1 C h) ((EE 2 (Ac h Q.1) rfl))))))))))))) ?h1 ?c1 ?f1
 case h1=>
  intro u;simp only[Df,Jm,↓reduceIte,Nat.reduceEqDiff];intros;and_intros
  all_goals try (first|trivial|(intros;refine Fy (by assumption) ?_;go_simp <;> rfl))
 case c1=>kernel_rfl
 intro u n i;simp only[Df,Hu,Jm,Act.put,O,↓reduceIte,Nat.reduceEqDiff];intro e1;have H:=fE k i;have c:=Ac i G.1;have z0:=zw c;have f0:=CH c;have z1:=zu c;have f1:n.frozen? (aD a 1)=false:=zQ c;have z2:=zC c;have z3:=Hk c;have z4:=Ks c;have z5:=Lg c;have z6:=Mf c;have z7:=Ic c;have z8:=Jg c;have K:=Ag c;go_simp;clear z0 f0 z1 f1 z2 z3 z4 z5 z6 z7 z8 K;go_wp2_with fail;have p:=Yn (.string (Aa t.fs m).num) (.string (Aa t.fs m).fq) (.string (Aa t.fs m).to) (Bn (Aa t.fs m).dp) (Bn (Aa t.fs m).ar) (.string (Aa t.fs m).ty) (Bn (Aa t.fs m).n0) (Bn (Aa t.fs m).n1) (Bn (Aa t.fs m).n2) c;have L:Bw w (((((((((n.setCell (aD a 0) (.string (Aa t.fs m).num)).setCell (aD a 1) (.string (Aa t.fs m).fq)).setCell (aD a 2) (.string (Aa t.fs m).to)).setCell (aD a 3) (Bn (Aa t.fs m).dp)).setCell (aD a 4) (Bn (Aa t.fs m).ar)).setCell (aD a 5) (.string (Aa t.fs m).ty)).setCell (aD a 6) (Bn (Aa t.fs m).n0)).setCell (aD a 7) (Bn (Aa t.fs m).n1)).setCell (aD a 8) (Bn (Aa t.fs m).n2)):=(((((((((H.1.setCell f _).setCell f _).setCell f _).setCell f _).setCell f _).setCell f _).setCell f _).setCell f _).setCell f _);generalize (((((((((n.setCell (aD a 0) (.string (Aa t.fs m).num)).setCell (aD a 1) (.string (Aa t.fs m).fq)).setCell (aD a 2) (.string (Aa t.fs m).to)).setCell (aD a 3) (Bn (Aa t.fs m).dp)).setCell (aD a 4) (Bn (Aa t.fs m).ar)).setCell (aD a 5) (.string (Aa t.fs m).ty)).setCell (aD a 6) (Bn (Aa t.fs m).n0)).setCell (aD a 7) (Bn (Aa t.fs m).n1)).setCell (aD a 8) (Bn (Aa t.fs m).n2))=X at*;have r0:=zw p;have r1:=zu p;have r2:=zC p;have r3:=Hk p;have r4:=Ks p;have r5:=Lg p;have r6:=Mf p;have r7:=Ic p;have r8:=Jg p;clear c p;refine bP (v:=.agg #[.string (Aa t.fs m).num,.string (Aa t.fs m).fq,.string (Aa t.fs m).to,(Aa t.fs m).dp,(Aa t.fs m).ar,.string (Aa t.fs m).ty,(Aa t.fs m).n0,(Aa t.fs m).n1,(Aa t.fs m).n2]) (by simp[results,results209,go_sem,r0,r1,r2,r3,r4,r5,r6,r7,r8]) rfl ?_;exact⟨rfl,L⟩
def eW(t:At)(x:Ae)(y:Nat)(z:Ae)(ac:Nat)(fa:Ae)(fc:Nat)(w:Wd)(M:Al Hi w fa t.fs)(E:t.fs.length<=200)(d:Ai)(N:Ae)(dc:Nat)(a0:0<d.length/\d.length<=6)(hd:Al Ei w N d)(m:Nat)(A:(Cm d (d.length-1)).1=m)(F:m<t.fs.length):
 CV 210 #[Az t x y z ac fa fc,.slice N d.length dc] w (.agg #[.string (Aa t.fs m).num,.string (Aa t.fs m).fq,.string (Aa t.fs m).to,(Aa t.fs m).dp,(Aa t.fs m).ar,.string (Aa t.fs m).ty,(Aa t.fs m).n0,(Aa t.fs m).n1,(Aa t.fs m).n2]):=by
 try delta Ay Az
 obtain⟨b,r,rfl,i,B⟩:=Qg M (by omega);obtain⟨⟨p0,p1,p2,p3,p4,p5,p6,p7,p8⟩,_⟩:=B m F;obtain⟨b2,P,rfl,C,s⟩:=Ok hd (by omega);obtain⟨n,hn⟩:∃n,d.length=n+1:=⟨d.length-1,by omega⟩;have A:(Cm d n).1=m:=by rw[show d.length-1=n by omega]at A;exact A
 have hq:(d.length:Int)-1=(n:Int):=by omega
 have a1:n<d.length:=by omega
 have a2:IntKind.i64.wrap (n:Int)=(n:Int):=by rw[wI];omega
 clear hn;have Q:=(s n (by omega)).1;rw[A]at Q;clear B s A M hd;delta CV;go_in;go_wp2_with fail;have k:=I (Ab (J w (Ap t x y z ac (some (aD b r)) fc)) (J _ jB));have R:=I (zd (o':=jB) (zh w (Ap t x y z ac (some (aD b r)) fc)));have G:=I (zh (w.alloc (Ap t x y z ac (some (aD b r)) fc)) jB);rw[zr]at G;obtain⟨a,l⟩:=aT (w.heap.size+1);rw[<-l]at G;simp only[<-l];have f:w.heap.size<=a:=by omega
 clear l;generalize (w.alloc (Ap t x y z ac (some (aD b r)) fc)).alloc jB=W at*;have S:=zD p0 i k.1;have T:=zD p1 i k.1;have U:=zD p2 i k.1;have V:=zD p3 i k.1;have Y:=zD p4 i k.1;have Z:=zD p5 i k.1;have u6:=zD p6 i k.1;have u7:=zD p7 i k.1;have u8:=zD p8 i k.1;have ut:=zD Q C k.1;have g:=As i k.1.size;have D:=As C k.1.size;have p:=I (aI ut (aI S (aI T (aI U (aI V (aI Y (aI Z (aI u6 (aI u7 u8)))))))));clear ut S T U V Y Z u6 u7 u8;refine' Wi [⟨5, [],.kn _⟩,⟨6, [5],.kn _⟩,⟨7, [],.kn _⟩,⟨8, [],.kn _⟩,⟨9, [8],.kn _⟩,⟨10, [9],.kn _⟩,⟨11, [7,10],.kn _⟩,⟨12, [11],.kn _⟩,⟨13, [12],.kn _⟩,⟨14, [6,13],.kn _⟩,⟨15, [14],.kn _⟩] [1,2] [15] (λ_ h=>aI (Ag (Ac h R.1)) (aI (zD p.1.2.2.2.2.2.2.2.2.2 g h) (aI (zD p.1.2.2.2.2.2.2.2.2.1 g h) (aI (zD p.1.2.2.2.2.2.2.2.1 g h) (aI (zD p.1.2.2.2.2.2.2.1 g h) (aI (zD p.1.2.2.2.2.2.1 g h) (aI (zD p.1.2.2.2.2.1 g h) (aI (zD p.1.2.2.2.1 g h) (aI (zD p.1.2.2.1 g h) (aI (zD p.1.2.1 g h) (aI (zD p.1.1 D h) ((EE 2 (Ac h R.1) rfl))))))))))))) ?h2 ?c2 ?f2
 case h2=>
  intro u;simp only[Df,Jm,↓reduceIte,Nat.reduceEqDiff];intros;and_intros
  all_goals try (first|trivial|(intros;refine Fy (by assumption) ?_;go_simp <;> rfl))
 case c2=>kernel_rfl
 intro u o i;simp only[Df,Hu,Jm,Act.put,O,↓reduceIte,Nat.reduceEqDiff];intro e1;have H:=fE k i;have c:=Ac i G.1;have z0:=zw c;have f0:=CH c;have z1:=zu c;have z2:=zC c;have f2:o.frozen? (aD a 2)=false:=zQ c;have z3:=Hk c;have z4:=Ks c;have z5:=Lg c;have z6:=Mf c;have z7:=Ic c;have z8:=Jg c;have K:=Ag c;go_simp;clear z0 f0 z1 z2 f2 z3 z4 z5 z6 z7 z8 K;go_wp2_with fail;have q:=Yn (.string (Aa t.fs m).num) (.string (Aa t.fs m).fq) (.string (Aa t.fs m).to) (Bn (Aa t.fs m).dp) (Bn (Aa t.fs m).ar) (.string (Aa t.fs m).ty) (Bn (Aa t.fs m).n0) (Bn (Aa t.fs m).n1) (Bn (Aa t.fs m).n2) c;have L:Bw w (((((((((o.setCell (aD a 0) (.string (Aa t.fs m).num)).setCell (aD a 1) (.string (Aa t.fs m).fq)).setCell (aD a 2) (.string (Aa t.fs m).to)).setCell (aD a 3) (Bn (Aa t.fs m).dp)).setCell (aD a 4) (Bn (Aa t.fs m).ar)).setCell (aD a 5) (.string (Aa t.fs m).ty)).setCell (aD a 6) (Bn (Aa t.fs m).n0)).setCell (aD a 7) (Bn (Aa t.fs m).n1)).setCell (aD a 8) (Bn (Aa t.fs m).n2)):=(((((((((H.1.setCell f _).setCell f _).setCell f _).setCell f _).setCell f _).setCell f _).setCell f _).setCell f _).setCell f _);generalize (((((((((o.setCell (aD a 0) (.string (Aa t.fs m).num)).setCell (aD a 1) (.string (Aa t.fs m).fq)).setCell (aD a 2) (.string (Aa t.fs m).to)).setCell (aD a 3) (Bn (Aa t.fs m).dp)).setCell (aD a 4) (Bn (Aa t.fs m).ar)).setCell (aD a 5) (.string (Aa t.fs m).ty)).setCell (aD a 6) (Bn (Aa t.fs m).n0)).setCell (aD a 7) (Bn (Aa t.fs m).n1)).setCell (aD a 8) (Bn (Aa t.fs m).n2))=X at*;have r0:=zw q;have r1:=zu q;have r2:=zC q;have r3:=Hk q;have r4:=Ks q;have r5:=Lg q;have r6:=Mf q;have r7:=Ic q;have r8:=Jg q;clear c q;refine bP (v:=.agg #[.string (Aa t.fs m).num,.string (Aa t.fs m).fq,.string (Aa t.fs m).to,(Aa t.fs m).dp,(Aa t.fs m).ar,.string (Aa t.fs m).ty,(Aa t.fs m).n0,(Aa t.fs m).n1,(Aa t.fs m).n2]) (by simp[results,results210,go_sem,r0,r1,r2,r3,r4,r5,r6,r7,r8]) rfl ?_;exact⟨rfl,L⟩
def Sb(t:At)(c:Ad)(e:Int):Int:=if zY t≠0 then zY t else if Ax c≠0 then Ax c else e
theorem Se{t:At}{c:Ad}(h:zY t≠0):Sb t c e=zY t:=iP h
theorem Sc{t:At}{c:Ad}(h:zY t=0)(a:Ax c≠0):Sb t c e=Ax c:=by grind[Sb]
theorem Pd{t:At}{c:Ad}(h:zY t=0)(a:Ax c=0):Sb t c e=e:=by grind[Sb]
def Vy(t:At)(c:Ad)(n:Ae)(o:Nat)(q:Ae)(ac:Nat)(fa:Ae)(fc:Nat)(p:Bd)(w:Wd)(F:zY t=0)(S:Ax c=0)(T:Al Hi w fa t.fs)(d:Ai)(y:Ae)(G:Nat)(r:Cc t c d=0)(hd:Al Ei w y d):
 CV 129 #[Az t n o q ac fa fc,Ay c p,.slice y d.length G] w (.agg #[.int .i64 (Bm t c d).1,.int .i64 (Bm t c d).2]):=by
 try delta Ay Az
 obtain⟨L,z,M,B⟩:=Jl r;obtain⟨Z,a0,_,_⟩:=Ka r;have ta:=Lu F z;have tz:=Lu F B;obtain⟨a1,a2,_⟩:=Ul S;have f:=(On F).2.2;have a3:IntKind.i64.wrap ((Aa t.fs (fstN d)).dp-c.rp)=((Aa t.fs (fstN d)).dp-c.rp):=by rw[wI];omega
 have a4:IntKind.i64.wrap ((Aa t.fs (lstN d)).ar+c.rl)=((Aa t.fs (lstN d)).ar+c.rl):=by rw[wI];omega
 have U:=I T;have V:=I hd;have a5:∀w:Wd,(Instr.field 122 (.agg #[.string (Aa t.fs (fstN d)).num,.string (Aa t.fs (fstN d)).fq,.string (Aa t.fs (fstN d)).to,(Aa t.fs (fstN d)).dp,(Aa t.fs (fstN d)).ar,.string (Aa t.fs (fstN d)).ty,(Aa t.fs (fstN d)).n0,(Aa t.fs (fstN d)).n1,(Aa t.fs (fstN d)).n2]) 3).run prog w=.ok (.int .i64 (Aa t.fs (fstN d)).dp) w:=λ_=>by kernel_rfl
 have a6:∀w:Wd,(Instr.field 122 (.agg #[.string (Aa t.fs (lstN d)).num,.string (Aa t.fs (lstN d)).fq,.string (Aa t.fs (lstN d)).to,(Aa t.fs (lstN d)).dp,(Aa t.fs (lstN d)).ar,.string (Aa t.fs (lstN d)).ty,(Aa t.fs (lstN d)).n0,(Aa t.fs (lstN d)).n1,(Aa t.fs (lstN d)).n2]) 4).run prog w=.ok (.int .i64 (Aa t.fs (lstN d)).ar) w:=λ_=>by kernel_rfl
 show Calls prog 129 #[.agg #[.slice n t.zn.length o,.slice q t.ai.length ac,.slice fa t.fs.length fc],.agg #[c.rp,c.rl,c.cn,c.sit,c.lv,c.nf,c.nt,.slice p.ca c.cs.length p.cc,.slice p.ra c.rs.length p.rc,.slice p.ka c.ks.length p.kc,.slice p.xa c.xs.length p.xc,.slice p.la c.ls.length p.lc,.slice p.oa c.oz.length p.oc,c.gu],.slice y d.length G] w λe w'=>e=.returned (.agg #[.int .i64 ((Aa t.fs (fstN d)).dp-c.rp),.int .i64 ((Aa t.fs (lstN d)).ar+c.rl)])/\Bw w w';clear T hd r F S;go_enter func129,ntmps129;go_wp2_with fail;have N:=I (Ab (Ab (J w (Ap t n o q ac fa fc)) (J _ (Aj c p))) (J _ jP));have H:=I (zd (o':=jP) (zd (o':=(Aj c p)) (zh w (Ap t n o q ac fa fc))));have C:=I (zd (o':=jP) (zh (w.alloc (Ap t n o q ac fa fc)) (Aj c p)));have P:=I (zh ((w.alloc (Ap t n o q ac fa fc)).alloc (Aj c p)) jP);rw[zr]at C;rw[zr,zr]at P;obtain⟨b,l⟩:∃b,b=w.heap.size+1+1:=⟨_,rfl⟩;obtain⟨X,s⟩:∃X,X=w.heap.size+1:=⟨_,rfl⟩;rw[<-l]at P;rw[<-s]at C;simp only[<-l];simp only[<-s];have D:w.heap.size<=b:=by omega
 clear l s;generalize ((w.alloc (Ap t n o q ac fa fc)).alloc (Aj c p)).alloc jP=W at*;refine' Wi [⟨7, [],.kn _⟩,⟨8, [],.kn _⟩,⟨9, [7,8],.kn (.agg #[.string (Aa t.fs (fstN d)).num,.string (Aa t.fs (fstN d)).fq,.string (Aa t.fs (fstN d)).to,(Aa t.fs (fstN d)).dp,(Aa t.fs (fstN d)).ar,.string (Aa t.fs (fstN d)).ty,(Aa t.fs (fstN d)).n0,(Aa t.fs (fstN d)).n1,(Aa t.fs (fstN d)).n2])⟩,⟨10, [9],.kn _⟩,⟨11, [],.kn _⟩,⟨12, [11],.kn _⟩,⟨13, [10,12],.kn _⟩,⟨14, [],.kn _⟩,⟨15, [],.kn _⟩,⟨16, [14,15],.kn (.agg #[.string (Aa t.fs (lstN d)).num,.string (Aa t.fs (lstN d)).fq,.string (Aa t.fs (lstN d)).to,(Aa t.fs (lstN d)).dp,(Aa t.fs (lstN d)).ar,.string (Aa t.fs (lstN d)).ty,(Aa t.fs (lstN d)).n0,(Aa t.fs (lstN d)).n1,(Aa t.fs (lstN d)).n2])⟩,⟨17, [16],.kn _⟩,⟨18, [],.kn _⟩,⟨19, [18],.kn _⟩,⟨20, [17,19],.kn _⟩,⟨21, [13,20],.kn _⟩] [2,3,4] [21] (λ_ h=>aI (aI (EE 0 (Ac h H.1) rfl) (aI (EE 1 (Ac h H.1) rfl) (EE 2 (Ac h H.1) rfl))) (aI (EE 0 (Ac h C.1) rfl) (aI (EE 1 (Ac h C.1) rfl) (aI (Ag (Ac h H.1)) (Ag (Ac h C.1)))))) ?h3 ?c3 ?f3
 case h3=>
  intro u;simp only[Df,Jm,↓reduceIte,Nat.reduceEqDiff];intros;and_intros
  all_goals try (first|trivial|(intros;refine Fy (by assumption) ?_;go_simp <;> rfl))
  intro A Q e x g q1 q2 K k;go_simp;have m:=Ab N.1 x;refine ca (iU t n o q ac fa fc Q (U.1.below m) f d y G ⟨by omega,by omega⟩ (V.1.below m) (fstN d) L z) λw2 h=>?_;exact k.1 _ _ ⟨h,rfl⟩
  intro A Q e x g q1 q2 K k;go_simp;have m:=Ab N.1 x;refine ca (eW t n o q ac fa fc Q (U.1.below m) f d y G ⟨by omega,by omega⟩ (V.1.below m) (lstN d) M B) λw2 h=>?_;exact k.1 _ _ ⟨h,rfl⟩
 case c3=>kernel_rfl
 intro u E x;simp only[Df,Hu,Jm,Act.put,O,↓reduceIte,Nat.reduceEqDiff];intro e1;have a:=Ac x P.1;have z0:=zw a;have z1:=zu a;have f0:=CH a;have rl:=Ag a;go_simp;go_wp2_with fail;have Q1:(E.setCell (aD b 0) (.int .i64 ((Aa t.fs (fstN d)).dp-c.rp))).heap[b]?=some (oQ ((Aa t.fs (fstN d)).dp-c.rp) 0):=zg (i:=0) (u:=.int .i64 ((Aa t.fs (fstN d)).dp-c.rp)) a;have Y:((E.setCell (aD b 0) (.int .i64 ((Aa t.fs (fstN d)).dp-c.rp))).setCell (aD b 1) (.int .i64 ((Aa t.fs (lstN d)).ar+c.rl))).heap[b]?=some (oQ ((Aa t.fs (fstN d)).dp-c.rp) ((Aa t.fs (lstN d)).ar+c.rl)):=zg (i:=1) (u:=.int .i64 ((Aa t.fs (lstN d)).ar+c.rl)) Q1;have r0:=zw Y;have r1:=zu Y;have R:Bw w ((E.setCell (aD b 0) (.int .i64 ((Aa t.fs (fstN d)).dp-c.rp))).setCell (aD b 1) (.int .i64 ((Aa t.fs (lstN d)).ar+c.rl))):=(((Ab N.1 x).setCell D _).setCell D _);refine bP (v:=.agg #[.int .i64 ((Aa t.fs (fstN d)).dp-c.rp),.int .i64 ((Aa t.fs (lstN d)).ar+c.rl)]) (by simp[results,results129,go_sem,r0,r1]) rfl ?_;exact⟨rfl,R⟩
def Vd(w0 w:Wd)(z:Cy)(g:Value->Value)(e:Ending)(w':Wd):Prop:=∃a cap,e=.returned (g (.agg #[.string z.name,z.off,.slice a z.sh.length cap]))/\Cj w0 a z.sh/\z.name.size<=140737488355328/\z.sh.length<=140737488355328/\Below w.heap.size w w'
def MK(t:At)(V:Ae)(z:Nat)(X:Ae)(ac:Nat)(fa:Ae)(fc:Nat)(w:Wd)(Y:zY t=0)(w0:Wd)(hw:Bw w0 w)(N:Al Nc w0 V t.zn)(P:Al Mk w0 X t.ai)(s:BA)(Z:Ao (t.ai.map Bh.code) s=true):
 Calls prog 279 #[Az t V z X ac fa fc,B_ s] w (Vd w0 w (zp t s) λv=>.tuple #[v,.bool true]):=by
 try delta Ay Az
 have⟨i,j,hi,hj,C,D,E⟩:=AC Y Z;have hl:=On Y;have HJ:=I D;have HI:=I C;rw[E];obtain⟨b,n,rfl,p,F⟩:=dV N (by omega);obtain⟨G,d,rfl,H,q⟩:=eF P (by omega);have⟨a,m,c0,c1,c2,s1,s2,s3⟩:=F j hj;have d1:=(q i hi).2.1;have Q:=I s3;have HZ:=I N;have HA:=I P;clear F q N P C D E s3 Z;go_in;go_wp2_with fail;have HB:=I (Ab (J w (Ap t (some (aD b n)) z (some (aD G d)) ac fa fc)) (J _ jQ));have f:=I (Ab hw HB.1);have B:=I (zd (o':=jQ) (zh w (Ap t (some (aD b n)) z (some (aD G d)) ac fa fc)));have R:=I (zh (w.alloc (Ap t (some (aD b n)) z (some (aD G d)) ac fa fc)) jQ);rw[zr]at R;have⟨c,o⟩:=aT (w.heap.size+1);rw[<-o]at R;simp only[<-o];have r:w.heap.size<=c:=by omega
 have a0:w.heap.size<c:=by omega
 clear o;generalize (w.alloc (Ap t (some (aD b n)) z (some (aD G d)) ac fa fc)).alloc jQ=W at*;refine cb (Pf t.ai s (some (aD G d)) ac W (HA.1.below f.1) (by omega)) ?_;rw[HI.1];have u0:=zD c0 p f.1;have u1:=zD c1 p f.1;have u2:=zD c2 p f.1;have v1:=zD d1 H f.1;have x:=As p f.1.size;have L:=As H f.1.size;have M:=I (aI v1 (aI u0 (aI u1 u2)));have q0:=zw B.1;have q1:=zu B.1;have xl:=Ag B.1;clear u0 u1 u2 v1;go_wp2_with fail;clear q0 q1 xl;refine' lK [⟨14, [],.kn _⟩,⟨15, [14],.kn _⟩,⟨16, [],.kn _⟩,⟨17, [16],.kn _⟩,⟨18, [],.kn _⟩,⟨19, [18],.kn _⟩,⟨20, [],.kn _⟩,⟨21, [19,20],.kn _⟩,⟨22, [21],.kn _⟩,⟨23, [22],.kn _⟩,⟨24, [17,23],.kn (Bn (j:Int))⟩,⟨25, [15,24],.kn _⟩,⟨26, [25],.kn _⟩] [2,6] [26] (λ_ h=>aI (EE 0 (Ac h B.1) rfl) (aI (EE 1 (Ac h B.1) rfl) (aI (zD M.1.1 L h) (aI (zD M.1.2.1 x h) (aI (zD M.1.2.2.1 x h) (aI (zD M.1.2.2.2 x h) (Ag (Ac h B.1)))))))) ?h1 ?c1 ?f1
 case h1=>
  intro u;simp only[Df,Jm,↓reduceIte,Nat.reduceEqDiff];intros;and_intros
  all_goals try (first|trivial|(intros;refine Fy (by assumption) ?_;go_simp <;> rfl))
  intro A w1 e p g q1 q2 K k;go_simp;refine cb (nD t.zn (Ct t.ai i).zone (some (aD b n)) z w1 (HZ.1.below (Ab f.1 p)) (by omega)) ?_;exact k.1 _ _ ⟨An _ _,by rw[HJ.1]⟩
 case c1=>kernel_rfl
 intro u y p;simp only[Df,Hu,Jm,Act.put,O,↓reduceIte,Nat.reduceEqDiff];intro e1;have l:=fO R p;have S:=fE HB p;have z0:=zw l.1;have f0:=CH l.1;have z1:=zu l.1;have f1:y.frozen? (aD c 1)=false:=zQ l.1;have z2:=zC l.1;have rl:=Ag l.1;go_simp;clear z0 z1 z2 f0 f1 rl;go_wp2_with fail;have Q1:(y.setCell (aD c 0) (B_ (Cg t.zn j).name)).heap[c]?=some (oZ (Cg t.zn j).name 0 none 0 0):=zg (i:=0) (u:=B_ (Cg t.zn j).name) l.1;have Q2:((y.setCell (aD c 0) (B_ (Cg t.zn j).name)).setCell (aD c 1) (Bn (Cg t.zn j).off)).heap[c]?=some (oZ (Cg t.zn j).name (Cg t.zn j).off none 0 0):=zg (i:=1) (u:=Bn (Cg t.zn j).off) Q1;have T:(((y.setCell (aD c 0) (B_ (Cg t.zn j).name)).setCell (aD c 1) (Bn (Cg t.zn j).off)).setCell (aD c 2) (CU a (Cg t.zn j).sh.length m)).heap[c]?=some (Pc (Cg t.zn j) a m):=zg (i:=2) (u:=CU a (Cg t.zn j).sh.length m) Q2;have r0:=zw T;have r1:=zu T;have r2:=zC T;have U:Bw w (((y.setCell (aD c 0) (B_ (Cg t.zn j).name)).setCell (aD c 1) (Bn (Cg t.zn j).off)).setCell (aD c 2) (CU a (Cg t.zn j).sh.length m)):=(((S.1.setCell r _).setCell r _).setCell r _);refine bP (v:=.tuple #[.agg #[B_ (Cg t.zn j).name,(Cg t.zn j).off,CU a (Cg t.zn j).sh.length m],.bool true]) (by simp[results,results279,go_sem,r0,r1,r2]) rfl ?_;exact⟨a,m,rfl,Q.1,s1,s2,U⟩
def fV(t:At)(m:Ae)(o:Nat)(n:Ae)(ac:Nat)(fa:Ae)(fc:Nat)(w:Wd)(G:zY t=0)(w0:Wd)(H:Bw w0 w)(B:Al Nc w0 m t.zn)(C:Al Mk w0 n t.ai)(s:BA)(K:Ao (t.ai.map Bh.code) s=true):
 Calls prog 258 #[Az t m o n ac fa fc,B_ s] w (Vd w0 w (zp t s) λv=>v):=by
 try delta Ay Az
 have L:=I B;have M:=I C;clear B C;go_in;go_wp2_with fail;have r:=I (Ab (J w (Ap t m o n ac fa fc)) (J _ jQ));have q:=I (zh (w.alloc (Ap t m o n ac fa fc)) jQ);rw[zr]at q;have⟨b,f⟩:=aT (w.heap.size+1);rw[<-f]at q;simp only[<-f];have j:w.heap.size<=b:=by omega
 clear f;generalize (w.alloc (Ap t m o n ac fa fc)).alloc jQ=W at*;refine(MK t m o n ac fa fc W G w0 (Ab H r.1) L.1 M.1 s K).mono ?_;rintro e k ⟨a,c,rfl,D,E,F,l⟩;have x:=fE r l;have d:=fO q l;have p:=I D;clear l D r q;have⟨z,g⟩:=aT (zp t s);rw[<-g]at p E F;simp only[<-g];have h:=I g;clear g;have rl:=Ag d.1;have N:=zw d.1;have P:=zu d.1;have Q:=zC d.1;have R:=CH d.1;go_wp2_with fail;clear N P Q R;have U:(k.setCell (aD b 0) (B_ z.name)).heap[b]?=some (oZ z.name 0 none 0 0):=zg (i:=0) (u:=B_ z.name) d.1;have V:((k.setCell (aD b 0) (B_ z.name)).setCell (aD b 1) (Bn z.off)).heap[b]?=some (oZ z.name z.off none 0 0):=zg (i:=1) (u:=Bn z.off) U;have X:(((k.setCell (aD b 0) (B_ z.name)).setCell (aD b 1) (Bn z.off)).setCell (aD b 2) (CU a z.sh.length c)).heap[b]?=some (Pc z a c):=zg (i:=2) (u:=CU a z.sh.length c) V;have y:=zd (o':=(Pc z a c)) X;have Y:=zw y;have Z:=zu y;have r2:=zC y;have A:Bw w ((((k.setCell (aD b 0) (B_ z.name)).setCell (aD b 1) (Bn z.off)).setCell (aD b 2) (CU a z.sh.length c)).alloc (Pc z a c)):=Ab (((x.1.setCell j _).setCell j _).setCell j _) (J _ _);refine bP (v:=.agg #[B_ z.name,z.off,CU a z.sh.length c]) (by simp[results,results258,go_sem,Y,Z,r2]) rfl ?_;exact⟨a,c,by rw[<-h.1],by rw[<-h.1];exact p.1,by rw[<-h.1];exact E,by rw[<-h.1];exact F,A⟩
def uD(s:BA)(o t:Int)(l:List (Int×Int))(a:Ae)(cap:Nat)(w:Wd)(b:l.length<=1000000)(c:Cj w a l):
 CV 278 #[.agg #[B_ s,o,CU a l.length cap],t] w (Cw o l t):=Tc s o t l a cap w b c
def vP(z:Cy)(a:Ae)(cap:Nat)(t:Int)(w:Wd)(h:z.name.size<=2^47)(i:z.sh.length<=1000000)(f:Cj w a z.sh):
 CV 288 #[.agg #[B_ z.name,z.off,CU a z.sh.length cap],t] w (Bn (Kt z.name.data.toList z.off z.sh t).2.1):=by
 have j:=I f;have c:z.name.size<=maxLen:=by unfold maxLen;omega
 delta CV;go_in;go_wp2_with fail;have g:=I (J w (Pc z a cap));generalize w.alloc (Pc z a cap)=W at*;refine ca (pA z.name z.off t z.sh a cap W c i (j.1.below g.1)) λk b=>?_;have d:=fE g b;go_wp2;go_ret;exact⟨rfl,d.1⟩
def gB{p:Nat}{c:Value}{d:TypeId}(h:w.heap[p]?=some (.cells #[a,b,c] d (0,0))):w.cell? (aD p 0)=some a/\w.cell? (aD p 1)=some b/\w.cell? (aD p 2)=some c/\w.frozen? (aD p 0)=false/\w.frozen? (aD p 1)=false/\w.frozen? (aD p 2)=false/\p<w.heap.size:=
 ⟨EE 0 h rfl,EE 1 h rfl,EE 2 h rfl,zQ h,zQ h,zQ h,Ag h⟩
def Kk{q:Nat}(h:w.heap[q]?=some (Obj.cells #[a,b] T)):w.cell? (aD q 0)=some a/\w.cell? (aD q 1)=some b/\q<w.heap.size:=⟨EE 0 h rfl,EE 1 h rfl,Ag h⟩
theorem PC{t:At}(a:zY t=0)(c:Ao (t.ai.map Bh.code) s=true):Fv (zp t s)=0:=by
 grind[AC,pI,nH,Cg]
def iI{t:At}(f:zY t=0)(g:Ao (t.ai.map Bh.code) s=true){x:Int}(i:0<=x/\x<52596000):Cw (zp t s).off (zp t s).sh x=(Ej (zp t s).name.data.toList (zp t s).off (zp t s).sh x).1:=by
 have h:=PC f g;have a:zG (zp t s).name.data.toList (zp t s).off (zp t s).sh=0:=h;have b:Ji none (zp t s).sh=0:=by
  unfold zG at a;by_cases c:Gu (zp t s).name.data.toList=false;rw[iP c]at a;omega;rw[iN c]at a;by_cases d:Dr (zp t s).off=false;rw[iP d]at a;omega;rw[iN d]at a;by_cases e:16<(zp t s).sh.length;rw[iP e]at a;omega;rwa [iN e]at a
 unfold Ej;rw[iN (by simpa using a),iN (by simp[Ew];omega),gN _ none _ _ b]
def fA(t:At)(c:Ad)(f1 f2:BA)(x y:Int):Value:=.tuple #[Bn (y-x),Bn (Jp (zp t f1).name.data.toList (zp t f1).off (zp t f1).sh x y c.nf c.nt).1,(mx (Cw (zp t f2).off (zp t f2).sh y-Cw (zp t f1).off (zp t f1).sh x) (-(Cw (zp t f2).off (zp t f2).sh y-Cw (zp t f1).off (zp t f1).sh x))),Bn (Kt (zp t f1).name.data.toList (zp t f1).off (zp t f1).sh x).2.1,Bn (Kt (zp t f2).name.data.toList (zp t f2).off (zp t f2).sh y).2.1]
def PD(t:At)(c:Ad)(H:Ae)(P:Nat)(L:Ae)(ac:Nat)(fa:Ae)(fc:Nat)(p:Bd)(w:Wd)(Q:zY t=0)(hz:Al Nc w H t.zn)(ha:Al Mk w L t.ai)(f1 f2:BA)(a0:Ao (t.ai.map Bh.code) f1=true)(a3:Ao (t.ai.map Bh.code) f2=true)(x y:Int)(b0:0<=x/\x<=y/\y<52596000):
 CV 276 #[Az t H P L ac fa fc,Ay c p,B_ f1,B_ f2,.agg #[x,y]] w (fA t c f1 f2 x y):=by
 try delta Ay Az
 have HZ:=I hz;have HA:=I ha;clear hz ha;delta CV;go_in;go_wp2_with fail;have HB:=I (Ab (Ab (J w (Ap t H P L ac fa fc)) (J _ (Aj c p))) (J _ (oQ x y)));have F:=I (zd (o':=(oQ x y)) (zd (o':=(Aj c p)) (zh w (Ap t H P L ac fa fc))));have G:=I (zd (o':=(oQ x y)) (zh (w.alloc (Ap t H P L ac fa fc)) (Aj c p)));have z:=I (zh ((w.alloc (Ap t H P L ac fa fc)).alloc (Aj c p)) (oQ x y));rw[zr]at G;rw[zr,zr]at z;have⟨sb,B⟩:=aT (w.heap.size+1+1);have⟨cb,S⟩:=aT (w.heap.size+1);rw[<-B]at z;rw[<-S]at G;simp only[<-B];simp only[<-S];clear B S;generalize ((w.alloc (Ap t H P L ac fa fc)).alloc (Aj c p)).alloc (oQ x y)=W at*;have xl:=Ag F.1;clear xl;refine' Gf [⟨19, [],.kn _⟩,⟨20, [],.kn _⟩,⟨21, [19,20],.pu λv=>∃d c1,v=.agg #[B_ (zp t f1).name,(zp t f1).off,CU d (zp t f1).sh.length c1]/\Cj w d (zp t f1).sh/\(zp t f1).name.size<=2^47⟩,⟨22, [],.kn _⟩,⟨23, [],.kn _⟩,⟨24, [22,23],.pu λv=>∃d c1,v=.agg #[B_ (zp t f2).name,(zp t f2).off,CU d (zp t f2).sh.length c1]/\Cj w d (zp t f2).sh/\(zp t f2).name.size<=2^47⟩,⟨15, [],.bx jQ⟩,⟨16, [],.bx jQ⟩,⟨1008, [15,21],.st 15 21 λ_ o=>∃d c1,o=(Pc (zp t f1) d c1)/\Cj w d (zp t f1).sh/\(zp t f1).name.size<=2^47⟩,⟨1009, [16,24],.st 16 24 λ_ o=>∃d c1,o=(Pc (zp t f2) d c1)/\Cj w d (zp t f2).sh/\(zp t f2).name.size<=2^47⟩] [2,3,5] [1008,1009] (λ_ h=>aI (EE 0 (Ac h F.1) rfl) (aI (EE 1 (Ac h F.1) rfl) (aI (EE 2 (Ac h F.1) rfl) (Ag (Ac h F.1))))) ?h1 ?c1 ?f1
 case h1=>
  intro u;simp only[Df,↓reduceIte,Nat.reduceEqDiff];intros;and_intros
  all_goals try (first|trivial|(intros;refine Fy (by assumption) ?_;go_simp <;> rfl))
  intro A f e b g q1 q2 K k;go_simp;refine(fV t H P L ac fa fc f Q w (Ab HB.1 b) HZ.1 HA.1 f1 a0).mono ?_;rintro e' m ⟨a,q,rfl,h2,T,_,M⟩;exact k.1 _ _ ⟨M,a,q,rfl,h2,T⟩;intro A f e b g q1 q2 K k;go_simp;refine(fV t H P L ac fa fc f Q w (Ab HB.1 b) HZ.1 HA.1 f2 a3).mono ?_;rintro e' m ⟨a,q,rfl,h2,T,_,M⟩;exact k.1 _ _ ⟨M,a,q,rfl,h2,T⟩;intro A f e b g K k;go_simp;exact k.1 _ _ ⟨J _ _,rfl,zh _ _⟩;intro A f e b g K k;go_simp;exact k.1 _ _ ⟨J _ _,rfl,zh _ _⟩;rintro A f e b g ⟨p,h1,_,h2⟩ ⟨a,q,T,M,h5⟩ K k;have⟨z0,z1,z2,g0,g1,g2,gl⟩:=gB h2;go_simp;exact k.1 undef _ ⟨p,_,h1,Qz (Qz (Qz (dP p f))),zg (i:=2) (zg (i:=1) (zg (i:=0) h2)),a,q,rfl,M,h5⟩;rintro A f e b g ⟨p,h1,_,h2⟩ ⟨a,q,T,M,h5⟩ K k;have⟨z0,z1,z2,g0,g1,g2,gl⟩:=gB h2;go_simp;exact k.1 undef _ ⟨p,_,h1,Qz (Qz (Qz (dP p f))),zg (i:=2) (zg (i:=1) (zg (i:=0) h2)),a,q,rfl,M,h5⟩
 case c1=>kernel_rfl
 intro u f b;simp only[Df,Hu,Act.put,O,↓reduceIte,Nat.reduceEqDiff];rintro⟨p6,_,e6,_,R,d,c1,rfl,S1,N1⟩ ⟨p7,_,e7,_,E7,a2,c2,rfl,S2,N2⟩;rw[e6,e7];replace F:=Ac b F.1;replace G:=Ac b G.1;replace z:=Ac b z.1;have BL:=Ab HB.1 b;clear b HB e6 e7;have b1:(zp t f1).name.size<=maxLen:=by unfold maxLen;omega
 have U:(zp t f1).sh.length<=1000000:=by have:=Vz Q f1;omega
 have a4:(zp t f2).sh.length<=1000000:=by have:=Vz Q f2;omega
 obtain⟨b2,c0,b3⟩:=b0;have a5:=iI Q a0 (x:=x) ⟨b2,by omega⟩;have a6:=iI Q a3 (x:=y) ⟨by omega,b3⟩;have a7:=gY (nm:=(zp t f1).name.data.toList) (o:=(zp t f1).off) (l:=(zp t f1).sh) (t:=x);have a8:=gY (nm:=(zp t f2).name.data.toList) (o:=(zp t f2).off) (l:=(zp t f2).sh) (t:=y);rw[<-a5]at a7;rw[<-a6]at a8;clear a5 a6;have S1:=I S1;have S2:=I S2;have F:=I F;have G:=I G;have z:=I z;have R:=I R;have E7:=I E7;have BL:=I BL;have c3:=I Q;clear Q;have k0:=zw R.1;have k1:=zu R.1;have k2:=zC R.1;have kl:=Ag R.1;have m0:=zw z.1;have m1:=zu z.1;have ml:=Ag z.1;have y5:=Lg G.1;have y6:=Mf G.1;have yl:=Ag G.1;go_wp2_with fail;refine(FX (zp t f1).name (zp t f1).off x y c.nf c.nt (zp t f1).sh d c1 f b1 U (S1.1.below BL.1)).mono ?_;rintro e m ⟨rfl,C⟩;have D:=fO z C;have r:=fO R C;have s:=fO E7 C;have N:=fE BL C;clear C k0 k1 k2 kl m0 m1 ml y5 y6 yl F G z R E7 BL;have k0:=zw r.1;have k1:=zu r.1;have k2:=zC r.1;have kl:=Ag r.1;have j0:=zw s.1;have j1:=zu s.1;have j2:=zC s.1;have jl:=Ag s.1;have m0:=zw D.1;have m1:=zu D.1;have ml:=Ag D.1;have C1:=I (λdd os=>Fa (uD (zp t f2).name (zp t f2).off y (zp t f2).sh a2 c2 (grow (redrawn m dd) os) a4 (S2.1.below (Ab N.1 (bR m dd os)))));have C2:=I (λdd os=>Fa (uD (zp t f1).name (zp t f1).off x (zp t f1).sh d c1 (grow (redrawn m dd) os) U (S1.1.below (Ab N.1 (bR m dd os)))));have⟨ni,V⟩:=C_ ((Jp (zp t f1).name.data.toList (zp t f1).off (zp t f1).sh x y c.nf c.nt).1);simp only[<-V];have b4:=I V;clear V;go_wp2_with fail;have r0:=cR k0;have r1:=cR k1;have r2:=cR k2;have r3:=cR j0;have r4:=cR j1;have r5:=cR j2;have r6:=cR m0;have r7:=cR m1;refine SY ?_;repeat go_big_quiet_step (with_reducible first|exact C1.1 _ _|exact C2.1 _ _)
 refine wpQuiet_nil ?_;intro _ b5;obtain⟨⟨dq,E⟩,a9⟩:=b5;subst a9;have b6:=fO D (bR m dq E);have b7:=fO r (bR m dq E);have b8:=fO s (bR m dq E);have X:=fE N (bR m dq E);clear r0 r1 r2 r3 r4 r5 r6 r7 C1 C2 k0 k1 k2 kl j0 j1 j2 jl m0 m1 ml D r s N;generalize grow (redrawn m dq) E=W3 at*;have⟨Z,Y⟩:=C_ (Cw (zp t f2).off (zp t f2).sh y-Cw (zp t f1).off (zp t f1).sh x);simp only[<-Y];have b9:=I Y;have c4:-1680<=Z/\Z<=1680:=by omega
 have c5:IntKind.i64.wrap (-Z)=-Z:=by rw[wI];omega
 have c6:IntKind.i64.wrap (y-x)=y-x:=by rw[wI];omega
 clear Y a7 a8;go_wp2_with fail;refine' Gf [⟨49, [],.kn _⟩,⟨50, [49],.kn _⟩,⟨51, [],.kn _⟩,⟨52, [51],.kn _⟩,⟨53, [50,52],.kn _⟩,⟨54, [],.kn _⟩,⟨55, [],.kn _⟩,⟨56, [],.kn _⟩,⟨57, [56],.kn _⟩,⟨58, [55,57],.kn (Bn (mx Z (-Z)))⟩,⟨59, [],.kn _⟩,⟨60, [],.kn _⟩,⟨61, [60],.kn _⟩,⟨62, [59,61],.kn (Bn (Kt (zp t f1).name.data.toList (zp t f1).off (zp t f1).sh x).2.1)⟩,⟨63, [],.kn _⟩,⟨64, [],.kn _⟩,⟨65, [64],.kn _⟩,⟨66, [63,65],.kn (Bn (Kt (zp t f2).name.data.toList (zp t f2).off (zp t f2).sh y).2.1)⟩,⟨10, [53],.kn _⟩,⟨11, [54],.kn _⟩,⟨12, [58],.kn _⟩,⟨13, [62],.kn _⟩,⟨14, [66],.kn _⟩] [9,15,16,17,18] [10,11,12,13,14] (λ_ h=>aI (Kk (Ac h b6.1)) (aI (gB (Ac h b7.1)) (gB (Ac h b8.1)))) ?h2 ?c2 ?f2
 case h2=>
  intro u;simp only[Df,↓reduceIte,Nat.reduceEqDiff];intros;and_intros
  all_goals try (first|trivial|(intros;refine Fy (by assumption) ?_;go_simp <;> rfl))
  intros;refine Fy (by assumption) ?_;unfold mx;go_simp;split <;> omega;intro A f e b g q1 q2 K k;go_simp;refine(vP (zp t f1) d c1 x f N1 U (S1.1.below (Ab X.1 b))).mono ?_;rintro e' m ⟨rfl,h⟩;exact k.1 _ _ ⟨h,rfl⟩;intro A f e b g q1 q2 K k;go_simp;refine(vP (zp t f2) a2 c2 y f N2 a4 (S2.1.below (Ab X.1 b))).mono ?_;rintro e' m ⟨rfl,h⟩;exact k.1 _ _ ⟨h,rfl⟩
 case c2=>kernel_rfl
 intro u w5 b;simp only[Df,Hu,Act.put,O,↓reduceIte,Nat.reduceEqDiff];intro h1 h2 T M h5;go_wp2_with fail;refine bP (v:=fA t c f1 f2 x y) (by simp[results,results276,go_sem,fA,b4.1,b9.1,h1,h2,T,M,h5]) rfl ?_;exact⟨rfl,Ab X.1 b⟩
def RQ:(prog.info? 116).map (λi=>(i.zero,i.size,i.bytes))=some (some (.agg #[B_ ByteArray.empty,Bn 0]),2,24):=by kernel_rfl
def Tu(w0:Wd)(N:LB)(q:LI)(e:Ending)(w':Wd):Prop:=∃v base,e=.returned v/\w0.heap.size<=base/\w'.ownsRow base 116 2 v q.length (Lv N q q.length)/\Below w0.heap.size w0 w'
def qO(k:Nat)(h0:0<k)(hk:k<4)(q:LI)(qa:Ae)(qc:Nat)(w:Wd)(hq:q.length=(zk k).length)(hI:zW w qa q):Calls prog 259 #[k,CU qa q.length qc] w (Tu w (zk k) q):=by
 have a4:=dZ k;have⟨i0,hi,R,S,T⟩:=info_parts RQ;have HI:=I hI;go_in;go_wp2_with fail;refine(sN k hk w).mono ?_;rintro e s ⟨na,nc,rfl,hA,C⟩;have HN:=I hA;have U:=I (HI.1.below C);have H:=I C;have HO:Af (s.ownsRow s.heap.size 116 2 Ls 0 (Lv (zk k) q 0)):=I ⟨rfl,.inl ⟨rfl,rfl⟩⟩;go_wp2_with fail;go_loopw [5,7] (λl i wr=>∃(j:Nat) (v:Value),j<=(zk k).length/\i=Bn j/\v=l/\Af (wr.ownsRow s.heap.size 116 2 v j (Lv (zk k) q j))/\Af (Bw s wr)) (λ_ i _=>(zk k).length-(intOf i).toNat);exact⟨0,_,Bg _,rfl,rfl,HO,I (An _ _)⟩;obtain⟨j,v,hj,rfl,rfl,V,n⟩:=hrel;by_cases W:j<(zk k).length
 . have X:j<q.length:=by omega
   have⟨b,f,Y,Z,L⟩:=HN.1.cells (by omega);have⟨G,c,a0,D,x⟩:=U.1.cells (by omega);have d0:=L j W;have d1:=x j X;subst Y;subst a0;go_wp2_with fail;have d:=I n.1.drew;have E:Af (wr.drew.ownsRow s.heap.size 116 2 v j (Lv (zk k) q j)):=V;have a:wr.drew.cell? (aD b (f+j))=some (B_ (Bl (zk k) j))/\wr.drew.cell? (aD G (c+j))=some (Bn (Am q j)):=⟨zD d0 Z d.1,zD d1 D d.1⟩;obtain⟨y,F⟩:∃y,wr.drew=y:=⟨_,rfl⟩;rw[F]at d E a;have a1:=As Z d.1.size;have M:=As D d.1.size;refine Ys (λw'=>w'.cell? (aD b (f+j))=some (B_ (Bl (zk k) j))/\w'.cell? (aD G (c+j))=some (Bn (Am q j))) [] (by kernel_rfl) F ?_;refine CG (i:=0) (v:=v) rfl a ?_;try simp only[O]
   refine CG (i:=1) (v:=Kx b f (zk k).length nc) rfl a ?_;try simp only[O]
   refine CG (i:=2) (v:=Bn (j:Int)) rfl a ?_;try simp only[O]
   refine CG (i:=3) (v:=Ua b (f+j)) rfl a ?_;try simp only[O]
   refine CG (i:=4) (v:=B_ (Bl (zk k) j)) rfl a ?_;try simp only[O]
   refine CG (i:=5) (v:=Kx G c q.length qc) rfl a ?_;try simp only[O]
   refine CG (i:=6) (v:=Bn (j:Int)) rfl a ?_;try simp only[O]
   refine CG (i:=7) (v:=Ua G (c+j)) rfl a ?_;try simp only[O]
   refine CG (i:=8) (v:=Bn (Am q j)) rfl a ?_;try simp only[O]
   refine sPa (i:=9) (v:=.agg #[B_ (Bl (zk k) j),(Am q j)]) rfl ?_;try simp only[O]
   refine QY (i:=10) rfl λK hK=>?_;go_simp;refine hK.1 _ _ (λ_ h=>⟨zD h.1 a1 (J y _),zD h.2 M (J y _)⟩) ?_;try simp only[O]
   refine QY (i:=11) rfl λK hK=>?_;refine wp_append_lies _ (Operand.tmp 16) (Operand.tmp 26) 52 rfl s.heap.size 116 i0 (.agg #[B_ ByteArray.empty,Bn 0]) 2 24 underlying52 hi R S T rfl (by decide) v j _ rfl (E.1.alloc _) (aD y.heap.size 0) 1 1 [B_ (Bl (zk k) j),Bn (Am q j)] rfl rfl (Hh y [B_ (Bl (zk k) j),Bn (Am q j)] 116) ?q1 (by decide) ?q2 ?q3 ?q4 _ rfl ?q5
   case q1=>intro u hu;simp at hu;rcases hu with rfl|rfl <;> rfl
   case q2=>unfold maxLen;omega
   case q3=>omega
   case q4=>have:=d.1.size;simp;omega
   intro g a2 w3 B r a3 N;have P:Af (w3.ownsRow s.heap.size 116 2 (Kx g 0 (j+1) a2) (j+1) (Lv (zk k) q (j+1))):=I B;have t:=I ((Ab d.1 (J y (Obj.cells #[B_ (Bl (zk k) j),(Am q j)] 116))).grown r (Ab d.1 (J y (Obj.cells #[B_ (Bl (zk k) j),(Am q j)] 116))).size (λm hm=>Lt E.1 m hm));have Q:w3.cell? (aD b (f+j))=some (B_ (Bl (zk k) j))/\w3.cell? (aD G (c+j))=some (Bn (Am q j)):=⟨(t.1.cell (p:=aD b (f+j)) Z).trans d0,(t.1.cell (p:=aD G (c+j)) D).trans d1⟩;refine hK.1 _ _ (λ_ _=>Q) ?_;try simp only[O]
   refine QY (i:=12) rfl λK hK=>?_;go_simp;refine hK.1 _ _ (λ_ h=>h) ?_;try simp only[O]
   refine zM (by kernel_rfl) ?_;go_wp2;go_roundw;(try((repeat apply eX);refine⟨?_,rfl⟩));exact⟨j+1,_,by omega,by go_num,rfl,P,t⟩;simp[intOf];omega
 obtain rfl:j=(zk k).length:=by omega
 have HR:=I (show wr.ownsRow s.heap.size 116 2 v q.length (Lv (zk k) q q.length) by rw[hq];exact V.1);go_wp2;go_ret;exact⟨v,s.heap.size,rfl,H.1.size,HR.1,Ab H.1 n.1⟩
theorem eO{t:At}(e:zY t=0){m:Nat}(b:m<t.fs.length):Ao (t.ai.map Bh.code) (Aa t.fs m).fq=true/\Ao (t.ai.map Bh.code) (Aa t.fs m).to=true:=by
 have a:=pJ (nH e).2.2 (Aa t.fs m) (by
  grind[Aa])
 grind[El]
theorem Yd(a b:Int):mx (a-b) (-(a-b))=mx (b-a) (a-b):=by
 grind[mx]
theorem UY{t:At}{c:Ad}{d:Ai}(a:zY t=0)(f:Ax c=0)(hd:Cc t c d=0):fA t c (Aa t.fs (fstN d)).fq (Aa t.fs (lstN d)).to (Bm t c d).1 (Bm t c d).2=.tuple #[(Zq t c (fstN d) (lstN d)),(Un t c (fstN d) (lstN d)),(Nt t c (fstN d) (lstN d)),(Ov t c (fstN d)),(Mx t c (lstN d))]:=by
 have⟨g,b,h,e⟩:=Jl hd;have m:=Lu a b;have n:=Lu a e;have⟨i,j,_⟩:=Ul f;have k:(Bm t c d).1=(Aa t.fs (fstN d)).dp-c.rp:=rfl;have l:(Bm t c d).2=(Aa t.fs (lstN d)).ar+c.rl:=rfl;unfold fA;rw[iI a (eO a b).1 (by omega),iI a (eO a e).2 (by omega),Yd];rfl
theorem yT{t:At}{c:Ad}{d:Ai}(a:zY t=0)(f:Ax c=0)(hd:Cc t c d=0):0<=(Bm t c d).1/\(Bm t c d).1<=(Bm t c d).2/\(Bm t c d).2<52596000:=by
 have⟨g,b,h,e⟩:=Jl hd;have m:=Lu a b;have n:=Lu a e;have⟨i,j,_⟩:=Ul f;have o:=oG a f hd;grind[Bm]
theorem mS(t:At)(d:Ai)(k:Nat):By t d (k+1)=Jv t d k (Ta t d k (By t d k)):=by
 rw[By];unfold Jv Ta;by_cases a:(Cm d k).2=true <;> by_cases b:0<k <;> simp only[a,b,if_true,if_false] <;> rfl
theorem mW(l:LB)(j:Nat)(a:j<l.length)(s:BA):Ao (l.take (j+1)) s=(Ao (l.take j) s || (l.getD j ByteArray.empty).toList==s.toList):=by
 rw[show l.take (j+1)=l.take j++ [l[j]] by simp,eN,pE];grind[bD]
theorem aR{t:At}{c:Ad}{d:Ai}(h:Bk t c d=0):zY t=0/\Ax c=0/\Cc t c d=0:=by
 grind[Bk]
