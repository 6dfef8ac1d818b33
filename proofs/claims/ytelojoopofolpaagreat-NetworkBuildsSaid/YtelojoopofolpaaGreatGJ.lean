/- a part of the proof -/
import Derived.Test.YtelojoopofolpaaGreatGI
import Derived.Test.YtelojoopofolpaaGreatGC
import Derived.Test.YtelojoopofolpaaGreatG7
import Derived.Test.YtelojoopofolpaaGreatGZ
import Derived.Test.YtelojoopofolpaaGreatG9
set_option linter.all false
set_option maxRecDepth 100000
set_option maxHeartbeats 3000000
namespace Go.Proofs.YtelojoopofolpaaGreat
open Go.RowKit Go.Sort Go.Proofs.Tryz
variable {s:BA}{b j p:Nat}{w:Wd}{T:TypeId}{a c:Value}{e:Int}
theorem PL{l:List zB}{n i:Nat}(h:i<n):Ak (l.take n) i=Ak l i:=by
 unfold Ak;rw[Cr,Cr,List.getElem?_take,iP h]
theorem uL(l:List zB)(n m:Nat)(b:m<=n)(h:∀j,j<m->Bx (l.take n) j=Bx l j):Cv (l.take n) m=Cv l m:=by
 funext s;unfold Cv;rw[eQ];cases fi l s with
 |none=>rfl
 |some j=>
  by_cases g:j<m
  . have a:j<n:=by omega
    simp[g,a,h j g]
  by_cases a:j<n
  . simp[g,a]
  simp[g,a]
theorem PK(l:List zB)(n i:Nat)(a:i<n):Bx (l.take n) i=Bx l i:=by
 induction i using Nat.strongRecOn with
 |_ i ih=>
  rw[bI,bI,PL a,uL l n i (by omega) (λj hj=>ih j hj (by omega))]
theorem wE(l:List zB)(n:Nat)(a:Int)(x:zH):Cd (l.take n) n a x=Cd l n a x:=by
 unfold Cd;rw[uL l n n (Bv _) (λj hj=>PK l n j hj)]
theorem wF(l:List zB)(i:Nat):Cd l i 0 (Ak l i).ex=Bx l i:=by rw[bI];rfl
theorem tX:∀(l:List It) (acc:List (Int×BA)),Gj acc l=0->∀k,k<l.length->1<=(Ah l k).sc/\(Ah l k).sc<=3
 |[],_,_,k,hk=>by simp at hk
 |x::l,acc,h,k,hk=>by
  rw[Gj]at h;by_cases a:(Ar x.sc 1 3&&zZ x.name)=false
  . rw[iP a]at h;omega
  rw[iN a]at h;by_cases c:Ge acc x.sc x.name=true
  . rw[iP c]at h;omega
  rw[iN c]at h;by_cases b:Bb x.ex≠0
  . rw[iP b]at h;exact aB h b
  rw[iN b]at h;cases k with
  |zero=>
   have:Ar x.sc 1 3=true:=by
    cases d:Ar x.sc 1 3
    . rw[d]at a;exact aB rfl a
    rfl
   exact Om.1 this
  |succ k=>exact tX l _ h k (by simpa using hk)
theorem tY:∀(l:List Ky),Ig l=0->∀k,k<l.length->1<=(Aq l k).sc/\(Aq l k).sc<=3
 |[],_,k,hk=>by simp at hk
 |x::l,h,k,hk=>by
  rw[Ig]at h;by_cases a:Ar x.sc 1 3=false
  . rw[iP a]at h;omega
  rw[iN a]at h;by_cases b:Bb x.ex≠0
  . rw[iP b]at h;exact aB h b
  rw[iN b]at h;cases k with
  |zero=>
   have:Ar x.sc 1 3=true:=by
    cases c:Ar x.sc 1 3
    . exact aB c a
    rfl
   exact Om.1 this
  |succ k=>exact tY l h k (by simpa using hk)
theorem SM{c:Ad}(h:Cf c=0):Li c=true/\Gj [] c.rs=0/\Ig c.ks=0:=by
 unfold Cf at h;by_cases f:Mh c=false;rw[iP f]at h;omega;rw[iN f]at h;by_cases b:Li c=false;rw[iP b]at h;omega;rw[iN b]at h;by_cases d:Ih [] c.cs≠0;rw[iP d]at h;exact aB h d;rw[iN d]at h;by_cases a:Gj [] c.rs≠0;rw[iP a]at h;exact aB h a;rw[iN a]at h;by_cases e:Ig c.ks≠0;rw[iP e]at h;exact aB h e;refine⟨?_,Classical.not_not.1 a,Classical.not_not.1 e⟩;cases g:Li c;exact aB g b;rfl
theorem JZ(c:Ad)(p:Bd)(w:Wd)(B:Nat)(M:B<=w.heap.size)(R:c.cs.length<=p.cc/\p.cc<=9223372036854775807)(ha:Kb B w c p):
 CV 96 #[Ay c p] w (Ax c):=by
 try delta Ay Az
 have d1:=ha.rs.1;have d2:=ha.ks.1;have d3:=ha.creditN;have d4:=I ha.creditF;have HA:=I ha;clear ha;delta CV;go_in;go_wp2_with fail;have HX:=I (zh w (Aj c p));have HB:=I (J w (Aj c p));generalize w.alloc (Aj c p)=W at*;refine ca (tO c p W B (Bf M HB.1.size) (HA.1.keep (HB.1.mono M))) λw1 a7=>?_;have a8:=jS HB a7;have a3:=jT HX a7;clear a7 HB HX;by_cases eG:Cf c=0
 case neg=>
  have P:=I (show Ax c=Cf c from iP eG);have n:=qC eG
  clear eG;go_wp2;go_ret;exact jP P a8
 obtain⟨b3,b4,b5⟩:=SM eG;have a9:c.cs.length<=1000:=by simp[Li]at b3;omega
 have c6:=I (λk (hk:k<c.rs.length)=>tX c.rs [] b4 k hk);have c7:=I (λk (hk:k<c.ks.length)=>tY c.ks b5 k hk);have Hv:=I (show Ax c=if Av (Fg c.cs) 0 (c.cs.length-0)≠0 then Av (Fg c.cs) 0 (c.cs.length-0) else if Av (Fh c) 0 (c.rs.length-0)≠0 then Av (Fh c) 0 (c.rs.length-0) else if Av (Ep c) 0 (c.ks.length-0)≠0 then Av (Ep c) 0 (c.ks.length-0) else Av (Gt c) 0 (c.xs.length-0) from iN (by simpa using eG));clear b3 b4 b5;rw[eG];clear eG;have H:=Ic a3.1;have N:=Ag a3.1;go_wp2_with fail;clear H N;go_loopw [4] (λi wr=>∃(k:Nat),k<=c.cs.length/\i=Bn k/\Af (Av (Fg c.cs) 0 (c.cs.length-0)=Av (Fg c.cs) k (c.cs.length-k))/\Af (wr.heap[w.heap.size]?=some (Aj c p))/\Af (Bw w wr)) (λi _=>c.cs.length-(intOf i).toNat);exact⟨0,Bg _,rfl,I rfl,a3,a8⟩;clear a3 a8;obtain⟨k,hk,rfl,E,r,a⟩:=hrel;have H:=Ic r.1;have N:=Ag r.1;by_cases f:k<c.cs.length
 . obtain⟨b,a4,j,hb,s⟩:=(HA.1.keep (a.1.mono M)).cs.cells (by omega);obtain⟨c0,c8,a2,t,⟨S,T,U,V⟩,h,d⟩:=s k f;have o:b<wr.heap.size:=by have:=a.1.size;omega
   rw[j]at H;have c9:=I j;have HF:=I h;have b6:=I d;clear j s d h;go_wp2_with fail;refine ca (NM _ wr c8) λw2 q=>?_;have a5:=jS a q;have b7:=jT r q;have u:B<=wr.heap.size:=Bf M a.1.size;have a6:=I (b6.1.keep (q.mono u));have y7:=zj H N q;have yl:w.heap.size<w2.heap.size:=As N q.size;have z1:=zj S o q;have z2:=zj T o q;have z3:=zj U o q;have z4:=zj V o q;have zb:b<w2.heap.size:=As o q.size;have b8:B<=w2.heap.size:=Bf u q.size;clear q c0 S T U V H N a r b6 o;cases eK:Re (Ak c.cs k).name
   . have G:=I (show Fg c.cs k=(Bx c.cs k).2 by rw[Fg,eK];rfl);have b0:(c.cs.take k).length=k:=by rw[List.length_take];omega
     have F:=I (λdd os=>Fa (nI (c.cs.take k) (some (aD b a4)) p.cc B 0 (by decide) (Ak c.cs k).ex a2 t (grow (redrawn w2 dd) os) (Bf b8 (bR w2 dd os).size) (by rw[b0];omega) (by rw[b0];omega) (gC (c9.1 ▸ (HA.1.keep ((Ab a5.1 (bR w2 dd os)).mono M)).cs) k) HF.1 (a6.1.keep ((bR w2 dd os).mono b8))));rw[b0,wE,wF]at F;go_wp2_with fail;have r0:=cR y7;have r1:=cR z1;have r2:=cR z2;have r3:=cR z3;have r4:=cR z4;refine wRa ?_;repeat (first|go_big_quiet_step (with_reducible exact F.1 _ _)|quiet_step (with_reducible exact F.1 _ _))
     refine wpQuiet_nil ?_;intro _ K;obtain⟨⟨L,l⟩,v⟩:=K;subst v;have m:=jS a5 (bR w2 L l);have x:=jT b7 (bR w2 L l);clear r0 r1 r2 r3 r4 F y7 yl z1 z2 z3 z4 zb a5 b7 a6;generalize grow (redrawn w2 L) l=W3 at*;by_cases n:(Bx c.cs k).2=0
     . have g:=I (E.1.trans (Ns f (G.1.trans n)));rw[n];go_wp2;go_roundw;(try((repeat apply eX);refine⟨?_,rfl⟩));exact⟨k+1,by omega,by go_num,g,x,m⟩;simp[intOf];omega
     have g:=I (E.1.trans (Mc f (by rw[G.1];exact n)));have P:=I (show Ax c=(Bx c.cs k).2 by rw[Hv.1,g.1,G.1,iP n]);have e2:=qC n
     clear n;go_wp2;go_ret;exact jP P m
   have G:=I (show Fg c.cs k=7 by rw[Fg,eK];rfl);have g:=I (E.1.trans (Mc f (by rw[G.1];decide)));have P:=I (show Ax c=7 by rw[Hv.1,g.1,G.1];rfl);go_wp2;go_ret;exact jP P a5
 obtain rfl:k=c.cs.length:=by omega
 have z:=I (E.1.trans (Nq _ _));have b1:=I (Hv.1.trans (iN (by rw[z.1];simp)));clear Hv E hk f z;have Q:=Jg r.1;go_wp2_with fail;clear H Q N;go_loopw [7] (λi wr=>∃(k:Nat),k<=c.rs.length/\i=Bn k/\Af (Av (Fh c) 0 (c.rs.length-0)=Av (Fh c) k (c.rs.length-k))/\Af (wr.heap[w.heap.size]?=some (Aj c p))/\Af (Bw w wr)) (λi _=>c.rs.length-(intOf i).toNat);exact⟨0,Bg _,rfl,I rfl,r,a⟩;clear r a;obtain⟨k,hk,rfl,E,r,a⟩:=hrel;obtain⟨x0,x1,x2,x3,x4,x5,x6,H,Q,X,y,A,C,D,N⟩:=Ek r.1;by_cases f:k<c.rs.length
 . obtain⟨b,a4,j,hb,s⟩:=(HA.1.keep (a.1.mono M)).rs.cells (by omega);obtain⟨c0,S,_,_,a2,t,⟨T,U,V,c5⟩,h,d⟩:=s k f;have d0:=c6.1 k f;have o:b<wr.heap.size:=by have:=a.1.size;omega
   have u:B<=wr.heap.size:=Bf M a.1.size;have F:=I (λdd os=>Fa (nN c p B (Ah c.rs k).sc ⟨by omega,by omega⟩ (Ah c.rs k).ex a2 t 4 (grow (redrawn wr dd) os) (Bf u (bR wr dd os).size) R a9 (HA.1.keep ((Ab a.1 (bR wr dd os)).mono M)) h (d.keep ((bR wr dd os).mono u))));rw[j]at Q;simp only[Ay,j]at F;clear s d h j;go_wp2_with fail;have r0:=cR x0;have r1:=cR x1;have r2:=cR x2;have r3:=cR x3;have r4:=cR x4;have r5:=cR x5;have r6:=cR x6;have r7:=cR H;have r8:=cR Q;have r9:=cR X;have Y:=cR y;have Z:=cR A;have a0:=cR C;have a1:=cR D;have s0:=cR c0;have s1:=cR S;have s2:=cR T;have s3:=cR U;have s4:=cR V;have s5:=cR c5;refine wRa ?_;repeat (first|go_big_quiet_step (with_reducible exact F.1 _ _)|quiet_step (with_reducible exact F.1 _ _))
   refine wpQuiet_nil ?_;intro _ K;obtain⟨⟨L,l⟩,v⟩:=K;subst v;have m:=jS a (bR wr L l);have x:=jT r (bR wr L l);clear r0 r1 r2 r3 r4 r5 r6 r7 r8 r9 Y Z a0 a1 s0 s1 s2 s3 s4 s5 x0 x1 x2 x3 x4 x5 x6 H Q X y A C D N c0 S T U V c5 F r a o;generalize grow (redrawn wr L) l=W3 at*;have G:=I (show Fh c k=(Cu (Cd c.cs c.cs.length (Ah c.rs k).sc (Ah c.rs k).ex) 4) from rfl);by_cases n:(Cu (Cd c.cs c.cs.length (Ah c.rs k).sc (Ah c.rs k).ex) 4)=0
   . have g:=I (E.1.trans (Ns f (G.1.trans n)));rw[n];go_wp2;go_roundw;(try((repeat apply eX);refine⟨?_,rfl⟩));exact⟨k+1,by omega,by go_num,g,x,m⟩;simp[intOf];omega
   have g:=I (E.1.trans (Mc f (by rw[G.1];exact n)));have P:=I (show Ax c=(Cu (Cd c.cs c.cs.length (Ah c.rs k).sc (Ah c.rs k).ex) 4) by rw[b1.1,g.1,G.1,iP n]);have e2:((Cu (Cd c.cs c.cs.length (Ah c.rs k).sc (Ah c.rs k).ex) 4) !=0)=true:=by simpa using n
   clear n;go_wp2;go_ret;exact jP P m
 obtain rfl:k=c.rs.length:=by omega
 have z:=I (E.1.trans (Nq _ _));have b2:=I (b1.1.trans (iN (by rw[z.1];simp)));clear b1 E hk f z;go_wp2_with fail;clear x0 x1 x2 x3 x4 x5 x6 H Q X y A C D N;go_loopw [9] (λi wr=>∃(k:Nat),k<=c.ks.length/\i=Bn k/\Af (Av (Ep c) 0 (c.ks.length-0)=Av (Ep c) k (c.ks.length-k))/\Af (wr.heap[w.heap.size]?=some (Aj c p))/\Af (Bw w wr)) (λi _=>c.ks.length-(intOf i).toNat);exact⟨0,Bg _,rfl,I rfl,r,a⟩;clear r a;obtain⟨k,hk,rfl,E,r,a⟩:=hrel;obtain⟨x0,x1,x2,x3,x4,x5,x6,H,Q,X,y,A,C,D,N⟩:=Ek r.1;by_cases f:k<c.ks.length
 . obtain⟨b,a4,j,hb,s⟩:=(HA.1.keep (a.1.mono M)).ks.cells (by omega);obtain⟨c0,_,a2,t,⟨S,T,U,V⟩,h,d⟩:=s k f;have d0:=c7.1 k f;have o:b<wr.heap.size:=by have:=a.1.size;omega
   have u:B<=wr.heap.size:=Bf M a.1.size;have F:=I (λdd os=>Fa (nN c p B (Aq c.ks k).sc ⟨by omega,by omega⟩ (Aq c.ks k).ex a2 t 1 (grow (redrawn wr dd) os) (Bf u (bR wr dd os).size) R a9 (HA.1.keep ((Ab a.1 (bR wr dd os)).mono M)) h (d.keep ((bR wr dd os).mono u))));rw[j]at X;simp only[Ay,j]at F;clear s d h j;go_wp2_with fail;have r0:=cR x0;have r1:=cR x1;have r2:=cR x2;have r3:=cR x3;have r4:=cR x4;have r5:=cR x5;have r6:=cR x6;have r7:=cR H;have r8:=cR Q;have r9:=cR X;have Y:=cR y;have Z:=cR A;have a0:=cR C;have a1:=cR D;have s0:=cR c0;have s1:=cR S;have s2:=cR T;have s3:=cR U;have s4:=cR V;refine wRa ?_;repeat (first|go_big_quiet_step (with_reducible exact F.1 _ _)|quiet_step (with_reducible exact F.1 _ _))
   refine wpQuiet_nil ?_;intro _ K;obtain⟨⟨L,l⟩,v⟩:=K;subst v;have m:=jS a (bR wr L l);have x:=jT r (bR wr L l);clear r0 r1 r2 r3 r4 r5 r6 r7 r8 r9 Y Z a0 a1 s0 s1 s2 s3 s4 x0 x1 x2 x3 x4 x5 x6 H Q X y A C D N c0 S T U V F r a o;generalize grow (redrawn wr L) l=W3 at*;have G:=I (show Ep c k=(Cu (Cd c.cs c.cs.length (Aq c.ks k).sc (Aq c.ks k).ex) 1) from rfl);by_cases n:(Cu (Cd c.cs c.cs.length (Aq c.ks k).sc (Aq c.ks k).ex) 1)=0
   . have g:=I (E.1.trans (Ns f (G.1.trans n)));rw[n];go_wp2;go_roundw;(try((repeat apply eX);refine⟨?_,rfl⟩));exact⟨k+1,by omega,by go_num,g,x,m⟩;simp[intOf];omega
   have g:=I (E.1.trans (Mc f (by rw[G.1];exact n)));have P:=I (show Ax c=(Cu (Cd c.cs c.cs.length (Aq c.ks k).sc (Aq c.ks k).ex) 1) by rw[b2.1,g.1,G.1,iP n]);have e2:((Cu (Cd c.cs c.cs.length (Aq c.ks k).sc (Aq c.ks k).ex) 1) !=0)=true:=by simpa using n
   clear n;go_wp2;go_ret;exact jP P m
 obtain rfl:k=c.ks.length:=by omega
 have z:=I (E.1.trans (Nq _ _));have b9:=I (b2.1.trans (iN (by rw[z.1];simp)));clear b2 E hk f z;go_wp2_with fail;clear x0 x1 x2 x3 x4 x5 x6 H Q X y A C D N;go_loopw [11] (λi wr=>∃(k:Nat),k<=c.xs.length/\i=Bn k/\Af (Av (Gt c) 0 (c.xs.length-0)=Av (Gt c) k (c.xs.length-k))/\Af (wr.heap[w.heap.size]?=some (Aj c p))/\Af (Bw w wr)) (λi _=>c.xs.length-(intOf i).toNat);exact⟨0,Bg _,rfl,I rfl,r,a⟩;clear r a;obtain⟨k,hk,rfl,E,r,a⟩:=hrel;obtain⟨x0,x1,x2,x3,x4,x5,x6,H,Q,X,y,A,C,D,N⟩:=Ek r.1;by_cases f:k<c.xs.length
 . obtain⟨b,a4,j,hb,s⟩:=(HA.1.keep (a.1.mono M)).xs.cells (by omega);obtain⟨a2,t,_,⟨S,T,U,V⟩,h,d⟩:=s.at k f;have o:b<wr.heap.size:=by have:=a.1.size;omega
   have u:B<=wr.heap.size:=Bf M a.1.size;have F:=I (λdd os=>Fa (nN c p B 1 (by decide) (Au c.xs k) a2 t 2 (grow (redrawn wr dd) os) (Bf u (bR wr dd os).size) R a9 (HA.1.keep ((Ab a.1 (bR wr dd os)).mono M)) h (d.keep ((bR wr dd os).mono u))));rw[j]at y;simp only[Ay,j]at F;clear s d h j;go_wp2_with fail;have r0:=cR x0;have r1:=cR x1;have r2:=cR x2;have r3:=cR x3;have r4:=cR x4;have r5:=cR x5;have r6:=cR x6;have r7:=cR H;have r8:=cR Q;have r9:=cR X;have Y:=cR y;have Z:=cR A;have a0:=cR C;have a1:=cR D;have s0:=cR S;have s1:=cR T;have s2:=cR U;have s3:=cR V;refine wRa ?_;repeat (first|go_big_quiet_step (with_reducible exact F.1 _ _)|quiet_step (with_reducible exact F.1 _ _))
   refine wpQuiet_nil ?_;intro _ K;obtain⟨⟨L,l⟩,v⟩:=K;subst v;have m:=jS a (bR wr L l);have x:=jT r (bR wr L l);clear r0 r1 r2 r3 r4 r5 r6 r7 r8 r9 Y Z a0 a1 s0 s1 s2 s3 x0 x1 x2 x3 x4 x5 x6 H Q X y A C D N S T U V F r a o;generalize grow (redrawn wr L) l=W3 at*;have G:=I (show Gt c k=(Cu (Cd c.cs c.cs.length 1 (Au c.xs k)) 2) from rfl);by_cases n:(Cu (Cd c.cs c.cs.length 1 (Au c.xs k)) 2)=0
   . have g:=I (E.1.trans (Ns f (G.1.trans n)));rw[n];go_wp2;go_roundw;(try((repeat apply eX);refine⟨?_,rfl⟩));exact⟨k+1,by omega,by go_num,g,x,m⟩;simp[intOf];omega
   have g:=I (E.1.trans (Mc f (by rw[G.1];exact n)));have P:=I (show Ax c=(Cu (Cd c.cs c.cs.length 1 (Au c.xs k)) 2) by rw[b9.1,g.1,G.1]);have e2:((Cu (Cd c.cs c.cs.length 1 (Au c.xs k)) 2) !=0)=true:=by simpa using n
   clear n;go_wp2;go_ret;exact jP P m
 obtain rfl:k=c.xs.length:=by omega
 have z:=I (E.1.trans (Nq _ _));have P:=I (b9.1.trans z.1);go_wp2;go_ret;exact jP P a
def Jn(t:At)(c:Ad):Int:=if zY t≠0 then zY t else Ax c
theorem kJ(t:At)(c:Ad)(h:Ae)(b:Nat)(i:Ae)(d:Nat)(fa:Ae)(fc:Nat)(p:Bd)(w:Wd)(B:Nat)(u:B<=w.heap.size)(k:t.zn.length<=b/\b<=2^47/\t.ai.length<=d/\d<=2^47)(o:c.cs.length<=p.cc/\p.cc<=9223372036854775807)(v:Al Nc w h t.zn)(x:Al Mk w i t.ai)(y:Al Hi w fa t.fs)(z:Kb B w c p):
 CV 42 #[Az t h b i d fa fc,Ay c p] w (Jn t c):=by
 try delta Ay Az
 have C:=I v;have D:=I x;have E:=I y;have F:=I z;clear v x y z;delta CV;go_in;go_wp2_with fail;have l:=I (Ab (J w (Ap t h b i d fa fc)) (J _ (Aj c p)));have n:=I (zh (w.alloc (Ap t h b i d fa fc)) (Aj c p));rw[zr]at n;obtain⟨A,f⟩:=aT (w.heap.size+1);rw[<-f]at n;simp only[<-f];clear f;generalize (w.alloc (Ap t h b i d fa fc)).alloc (Aj c p)=W at*;refine ca (GO t h i fa b d fc W k (C.1.below l.1) (D.1.below l.1) (E.1.below l.1)) λG g=>?_;have a:=jS l g;have q:=jT n g;clear g l n;by_cases j:zY t=0
 . have r:=I (show Jn t c=Ax c from iN (by simpa using j));obtain⟨N,P,Q,R,S,T,U,V,X,Y,H,K,L,M,Z⟩:=Ek q.1;rw[j];clear j;go_wp2_with fail;refine ca (JZ c p G B (Bf u a.1.size) o (F.1.keep (a.1.mono u))) λw2 m=>?_;have s:=jS a m;clear m;go_wp2;go_ret;exact jP r s
 have r:=I (show Jn t c=zY t from iP j);have e1:=qC j
 clear j;go_wp2;go_ret;exact jP r a
theorem eN(l m:LB)(s:BA):Ao (l++m) s=(Ao l s || Ao m s):=by rw[Ao,Ao,Ao,List.any_append]
theorem pE(x s:BA):Ao [x] s=decide (s=x):=by simp[Ao]
theorem wN:∀(l:List Cy) (acc:LB),(Ca acc l).1=0->(∀j,j<l.length->Ao acc (Cg l j).name=false)/\∀i j,i<j->j<l.length->(Cg l i).name≠(Cg l j).name
 |[],acc,_=>⟨λj hj=>by simp at hj,λi j _ hj=>by simp at hj⟩
 |z::l,acc,h=>by
  rw[Ca]at h;by_cases a:Fv z≠0
  . rw[iP a]at h;exact aB h a
  rw[iN a]at h;by_cases b:Ao acc z.name=true
  . rw[iP b]at h;simp at h
  rw[iN b]at h;obtain⟨d,f⟩:=wN l _ h;have c:Ao acc z.name=false:=by simpa using b
  refine⟨λj hj=>?_,λi j hij hj=>?_⟩
  . cases j with
    |zero=>exact c
    |succ j=>
     have:=d j (by simpa using hj);rw[eN,Bool.or_eq_false_iff]at this;exact this.1
  cases j with
  |zero=>omega
  |succ j=>
   cases i with
   |zero=>
    have:=d j (by simpa using hj);rw[eN,Bool.or_eq_false_iff,pE]at this;have g:¬ (Cg l j).name=z.name:=by simpa using this.2
    exact λe=>g e.symm
   |succ i=>exact f i j (by omega) (by simpa using hj)
theorem zkE(a:LB):∀(l:List Bh) (acc:LB),(Cb a acc l).1=0->(∀j,j<l.length->Ao acc (Ct l j).code=false/\Ao a (Ct l j).zone=true)/\∀i j,i<j->j<l.length->(Ct l i).code≠(Ct l j).code
 |[],acc,_=>⟨λj hj=>by simp at hj,λi j _ hj=>by simp at hj⟩
 |z::l,acc,h=>by
  rw[Cb]at h;by_cases g:Eo z.code.data.toList=false
  . rw[iP g]at h;simp at h
  rw[iN g]at h;by_cases c:Ao acc z.code=true
  . rw[iP c]at h;simp at h
  rw[iN c]at h;by_cases b:Ao a z.zone=false
  . rw[iP b]at h;simp at h
  rw[iN b]at h;obtain⟨k,m⟩:=zkE a l _ h;have d:Ao acc z.code=false:=by simpa using c
  have f:Ao a z.zone=true:=by simpa using b
  refine⟨λj hj=>?_,λi j hij hj=>?_⟩
  . cases j with
    |zero=>exact⟨d,f⟩
    |succ j=>
     have:=k j (by simpa using hj);rw[eN,Bool.or_eq_false_iff]at this;exact⟨this.1.1,this.2⟩
  cases j with
  |zero=>omega
  |succ j=>
   cases i with
   |zero=>
    have:=(k j (by simpa using hj)).1;rw[eN,Bool.or_eq_false_iff,pE]at this;have b:¬ (Ct l j).code=z.code:=by simpa using this.2
    exact λe=>b e.symm
   |succ i=>exact m i j (by omega) (by simpa using hj)
theorem SG{l:List Cy}(c:j<l.length)(a:(Cg l j).name=s)(d:∀i j,i<j->j<l.length->(Cg l i).name≠(Cg l j).name):Ox l s=some (Cg l j):=by
 have b:∀n,n<=l.length->Ox (l.take n) s=if j<n then some (Cg l j) else none:=by
  intro n;induction n with
  |zero=>intro _;rfl
  |succ n ih=>
   intro f;rw[qN l n (by omega),vS,ih (by omega)];by_cases e:(Cg l n).name=s
   . have:n=j:=by
      rcases Nat.lt_trichotomy n j with h|h|h
      . exact aB (e.trans a.symm) (d n j h c)
      . exact h
      exact aB (a.trans e.symm) (d j n h (by omega))
     subst this;rw[iP e,iP (by omega)]
   have:n≠j:=λh=>e (h ▸ a)
   rw[iN e];by_cases g:j<n
   . rw[iP g,iP (by omega)]
   rw[iN g,iN (by omega)]
 have:=b l.length (Bv _);rwa [List.take_length,iP c]at this
theorem UP{l:List Bh}(c:j<l.length)(a:(Ct l j).code=s)(d:∀i j,i<j->j<l.length->(Ct l i).code≠(Ct l j).code):Fq l s=some (Ct l j):=by
 have b:∀n,n<=l.length->Fq (l.take n) s=if j<n then some (Ct l j) else none:=by
  intro n;induction n with
  |zero=>intro _;rfl
  |succ n ih=>
   intro f;rw[qR l n (by omega),xC,ih (by omega)];by_cases e:(Ct l n).code=s
   . have:n=j:=by
      rcases Nat.lt_trichotomy n j with h|h|h
      . exact aB (e.trans a.symm) (d n j h c)
      . exact h
      exact aB (a.trans e.symm) (d j n h (by omega))
     subst this;rw[iP e,iP (by omega)]
   have:n≠j:=λh=>e (h ▸ a)
   rw[iN e];by_cases g:j<n
   . rw[iP g,iP (by omega)]
   rw[iN g,iN (by omega)]
 have:=b l.length (Bv _);rwa [List.take_length,iP c]at this
theorem nH{t:At}(h:zY t=0):(Ca [] t.zn).1=0/\(Cb (t.zn.map Cy.name) [] t.ai).1=0/\Dw (t.ai.map Bh.code) none t.fs=0:=by
 unfold zY at h;by_cases g:16<t.zn.length\/64<t.ai.length\/200<t.fs.length;rw[iP g]at h;omega;rw[iN g]at h;by_cases d:(Ca [] t.zn).1≠0;rw[iP d]at h;exact aB h d;rw[iN d]at h;have i:=Classical.not_not.1 d;have m:(Ca [] t.zn).2=t.zn.map Cy.name:=by
  have:∀(l:List Cy) (a:LB),(Ca a l).1=0->(Ca a l).2=a++l.map Cy.name:=by
   intro l;induction l with
   |nil=>intro a _;simp[Ca]
   |cons z l ih=>
    intro a h;rw[Ca]at h ⊢;by_cases b:Fv z≠0
    . rw[iP b]at h;exact aB h b
    rw[iN b]at h ⊢;by_cases c:Ao a z.name=true
    . rw[iP c]at h;simp at h
    rw[iN c]at h ⊢;rw[ih _ h];simp
  simpa using this t.zn [] i
 rw[m]at h;by_cases e:(Cb (t.zn.map Cy.name) [] t.ai).1≠0;rw[iP e]at h;exact aB h e;rw[iN e]at h;have j:=Classical.not_not.1 e;have n:(Cb (t.zn.map Cy.name) [] t.ai).2=t.ai.map Bh.code:=by
  have:∀(f:LB) (l:List Bh) (a:LB),(Cb f a l).1=0->(Cb f a l).2=a++l.map Bh.code:=by
   intro f l;induction l with
   |nil=>intro a _;simp[Cb]
   |cons z l ih=>
    intro a h;rw[Cb]at h ⊢;by_cases b:Eo z.code.data.toList=false
    . rw[iP b]at h;simp at h
    rw[iN b]at h ⊢;by_cases c:Ao a z.code=true
    . rw[iP c]at h;simp at h
    rw[iN c]at h ⊢;by_cases k:Ao f z.zone=false
    . rw[iP k]at h;simp at h
    rw[iN k]at h ⊢;rw[ih _ h];simp
  simpa using this _ t.ai [] j
 rw[n]at h;exact⟨i,j,h⟩
theorem Vh{X:Type}{nm:X->BA}{l:List X}(h:Ao (l.map nm) s=true):∃j:Nat,j<l.length/\Ex nm s 0 l=j/\(l[j]?).map nm=some s:=by
 rcases qF nm s 0 l with⟨_,a⟩|⟨⟨j,b,a,c,_⟩,_⟩;rw[h]at a;cases a;exact⟨j,b,by rw[a,Nat.zero_add],c⟩
theorem AC{t:At}(l:zY t=0)(m:Ao (t.ai.map Bh.code) s=true):∃i j:Nat,i<t.ai.length/\j<t.zn.length/\Nd t.ai s=i/\Zj t.zn (Ct t.ai i).zone=j/\zp t s=Cg t.zn j:=by
 obtain⟨n,o,_⟩:=nH l;obtain⟨i,e,f,c⟩:=Vh m;have k:=zkE _ _ _ o;have p:=wN _ _ n;have a:(Ct t.ai i).code=s:=by
  unfold Ct;rw[Cr];rw[Cz e]at c ⊢;simpa using c
 obtain⟨j,g,h,d⟩:=Vh (nm:=Cy.name) (k.1 i e).2;have b:(Cg t.zn j).name=(Ct t.ai i).zone:=by
  unfold Cg;rw[Cr];rw[Cz g]at d ⊢;simpa using d
 refine⟨i,j,e,g,f,h,?_⟩;unfold zp;rw[UP e a k.2];simp only;rw[SG g b p.2];rfl
theorem zD{w':Wd}{o:Nat}{v:Value}(h:w.cell? (aD b o)=some v)(a:b<w.heap.size)(c:Bw w w'):w'.cell? (aD b o)=some v:=(c.cell (p:=aD b o) a).trans h
theorem AH(t:At)(c:Ad)(n:Ae)(o:Nat)(q:Ae)(r:Nat)(fa:Ae)(fc:Nat)(p:Bd)(w:Wd)(hT:zY t=0)(hf:Al Hi w fa t.fs)(i j:Nat)(M:i<t.fs.length)(N:j<t.fs.length):
 CV 85 #[Az t n o q r fa fc,Ay c p,i,j] w (.bool (Jj t c i j)):=by
 try delta Ay Az
 obtain⟨b,f,rfl,l,F⟩:=Qg hf (by omega);obtain⟨⟨_,_,G,_,H,_,_,_,_⟩,_⟩:=F i M;obtain⟨⟨_,K,_,L,_,_,_,_,_⟩,_⟩:=F j N;obtain⟨a4,a5,a6,a7⟩:=Lu hT M;obtain⟨a8,a9,b0,b1⟩:=Lu hT N;have a0:-52593120<=(Aa t.fs j).dp-(Aa t.fs i).ar:=by omega
 have a1:(Aa t.fs j).dp-(Aa t.fs i).ar<=52593120:=by omega
 have a2:=(On hT).2.2;clear F hf;cases e0:((Aa t.fs i).to.toList==(Aa t.fs j).fq.toList)
 . have P:=I (show Jj t c i j=false by simp[Jj,e0]);delta CV;go_in;go_wp2_with fail;have s:=I (Ab (J w (Ap t n o q r (some (aD b f)) fc)) (J _ (Aj c p)));have u:=I (zd (o':=(Aj c p)) (zh w (Ap t n o q r (some (aD b f)) fc)));have h:=I (zh (w.alloc (Ap t n o q r (some (aD b f)) fc)) (Aj c p));rw[zr]at h;obtain⟨y,g⟩:=aT (w.heap.size+1);rw[<-g]at h;simp only[<-g];clear g;have k:=s.1;have z:=zD G l k;have Q:=zD H l k;have A:=zD K l k;have R:=zD L l k;have d:=As l k.size;have B:=zC u.1;have C:=zC h.1;have D:=Hk h.1;have v:=Ag u.1;have m:=Ag h.1;clear k u h;generalize (w.alloc (Ap t n o q r (some (aD b f)) fc)).alloc (Aj c p)=W at*;go_quiet (fail);have a:=dr W nq;have S:=zD z d a;have T:=zD A d a;have U:=zD B v a;have V:=zD C m a;have X:=zD D m a;have E:=As d a.size;have Y:=As v a.size;have Z:=As m a.size;have x:=jS s a;clear a s z Q A R B C D v m d;generalize W.drewN nq=W1 at*;go_wp2;go_quiet (fail);go_wp2;go_ret;exact⟨zz P.1.symm,Ab x.1 (dr _ _)⟩
 by_cases e1:c.cn<=(Aa t.fs j).dp-(Aa t.fs i).ar
 . have P:=I (show Jj t c i j=decide ((Aa t.fs j).dp-(Aa t.fs i).ar<=c.sit) by simp[Jj,e0,e1]);have a3:decide (c.cn<=(Aa t.fs j).dp-(Aa t.fs i).ar)=true:=by simpa using e1
   delta CV;go_in;go_wp2_with fail;have s:=I (Ab (J w (Ap t n o q r (some (aD b f)) fc)) (J _ (Aj c p)));have u:=I (zd (o':=(Aj c p)) (zh w (Ap t n o q r (some (aD b f)) fc)));have h:=I (zh (w.alloc (Ap t n o q r (some (aD b f)) fc)) (Aj c p));rw[zr]at h;obtain⟨y,g⟩:=aT (w.heap.size+1);rw[<-g]at h;simp only[<-g];clear g;have k:=s.1;have z:=zD G l k;have Q:=zD H l k;have A:=zD K l k;have R:=zD L l k;have d:=As l k.size;have B:=zC u.1;have C:=zC h.1;have D:=Hk h.1;have v:=Ag u.1;have m:=Ag h.1;clear k u h;generalize (w.alloc (Ap t n o q r (some (aD b f)) fc)).alloc (Aj c p)=W at*;go_quiet (fail);have a:=dr W nq;have S:=zD z d a;have T:=zD A d a;have U:=zD B v a;have V:=zD C m a;have X:=zD D m a;have E:=As d a.size;have Y:=As v a.size;have Z:=As m a.size;have x:=jS s a;clear a s z Q A R B C D v m d;generalize W.drewN nq=W1 at*;go_wp2;go_quiet (fail);go_wp2;go_ret;exact⟨zz P.1.symm,Ab x.1 (dr _ _)⟩
 have P:=I (show Jj t c i j=false by simp[Jj,e1]);have a3:decide (c.cn<=(Aa t.fs j).dp-(Aa t.fs i).ar)=false:=by simpa using e1
 delta CV;go_in;go_wp2_with fail;have s:=I (Ab (J w (Ap t n o q r (some (aD b f)) fc)) (J _ (Aj c p)));have u:=I (zd (o':=(Aj c p)) (zh w (Ap t n o q r (some (aD b f)) fc)));have h:=I (zh (w.alloc (Ap t n o q r (some (aD b f)) fc)) (Aj c p));rw[zr]at h;obtain⟨y,g⟩:=aT (w.heap.size+1);rw[<-g]at h;simp only[<-g];clear g;have k:=s.1;have z:=zD G l k;have Q:=zD H l k;have A:=zD K l k;have R:=zD L l k;have d:=As l k.size;have B:=zC u.1;have C:=zC h.1;have D:=Hk h.1;have v:=Ag u.1;have m:=Ag h.1;clear k u h;generalize (w.alloc (Ap t n o q r (some (aD b f)) fc)).alloc (Aj c p)=W at*;go_quiet (fail);have a:=dr W nq;have S:=zD z d a;have T:=zD A d a;have U:=zD B v a;have V:=zD C m a;have X:=zD D m a;have E:=As d a.size;have Y:=As v a.size;have Z:=As m a.size;have x:=jS s a;clear a s z Q A R B C D v m d;generalize W.drewN nq=W1 at*;go_wp2;go_quiet (fail);go_wp2;go_ret;exact⟨zz P.1.symm,Ab x.1 (dr _ _)⟩
theorem RR{t:At}{n:Int}(h:Gp t n=false):n<0\/(0<=n/\(t.fs.length:Int)<=n):=by
 simp only[Gp,Bool.and_eq_false_iff,decide_eq_false_iff_not]at h;omega
theorem kK(t:At)(c:Ad)(s:Ae)(u:Nat)(v:Ae)(x:Nat)(fa:Ae)(fc:Nat)(p:Bd)(w:Wd)(hT:zY t=0)(hf:Al Hi w fa t.fs)(d:Ai)(da:Ae)(dc:Nat)(a9:d.length<=2^47)(hd:Al Ei w da d):
 CV 97 #[Az t s u v x fa fc,Ay c p,.slice da d.length dc] w (Cc t c d):=by
 try delta Ay Az
 by_cases h1:d.length<1
 . have y:=I (show Cc t c d=5 from iP (.inl h1));delta CV;go_in;go_wp2;go_ret;exact⟨ze y.1.symm,Ab (J w (Ap t s u v x fa fc)) (J _ (Aj c p))⟩
 by_cases h2:6<d.length
 . have y:=I (show Cc t c d=5 from iP (.inr h2));delta CV;go_in;go_wp2;go_ret;exact⟨ze y.1.symm,Ab (J w (Ap t s u v x fa fc)) (J _ (Aj c p))⟩
 have Hv:=I (show Cc t c d=if Av (Fi t d) 0 (d.length-0)≠0 then Av (Fi t d) 0 (d.length-0) else Av (Hq t c d) 1 (d.length-1) from iN (by omega));have HF:=I hf;have HD:=I hd;have a0:=(On hT).2.2;have a1:=I hT;clear hf hd hT;delta CV;go_in;go_wp2_with fail;have HB:=I (Ab (J w (Ap t s u v x fa fc)) (J _ (Aj c p)));have QT:=I (zd (o':=(Aj c p)) (zh w (Ap t s u v x fa fc)));have V:=I (zh (w.alloc (Ap t s u v x fa fc)) (Aj c p));rw[zr]at V;obtain⟨X,C⟩:=aT (w.heap.size+1);rw[<-C]at V;simp only[<-C];clear C;generalize (w.alloc (Ap t s u v x fa fc)).alloc (Aj c p)=W at*;go_loopw [7] (λi wr=>∃(k:Nat),k<=d.length/\i=Bn k/\Af (Av (Fi t d) 0 (d.length-0)=Av (Fi t d) k (d.length-k))/\Af (wr.heap[w.heap.size]?=some (Ap t s u v x fa fc))/\Af (wr.heap[X]?=some (Aj c p))/\Af (Bw w wr)) (λi _=>d.length-(intOf i).toNat);exact⟨0,Bg _,rfl,I rfl,QT,V,HB⟩;clear QT V HB;obtain⟨k,hk,rfl,A,f,o,a⟩:=hrel;have Y:=zC f.1;have xl:=Ag f.1;by_cases h:k<d.length
 . obtain⟨b,a2,D,hb,r⟩:=Ok (HD.1.below a.1) (by omega);have H:=(r k h).1;subst D;clear r;cases B:Gp t (Cm d k).1
   . have l:=I (A.1.trans (Mc h (by rw[Fi,B];decide)));have y:=I (show Cc t c d=6 by rw[Hv.1,l.1,Fi,B];rfl);rcases RR B with g|⟨g,g2⟩
     . clear B;go_wp2;go_quiet (fail);go_wp2;go_ret;exact⟨ze y.1.symm,Ab a.1 (dr _ _)⟩
     clear B;go_wp2;go_quiet (fail);go_wp2;go_ret;exact⟨ze y.1.symm,Ab a.1 (dr _ _)⟩
   obtain⟨m,G,K⟩:=Qh B;have l:=I (A.1.trans (Ns h (by rw[Fi,B];rfl)));rw[G]at H;clear B G;go_wp2;go_quiet (fail);go_wp2;go_roundw;(try((repeat apply eX);refine⟨?_,rfl⟩));exact⟨k+1,by omega,by go_num,l,jT f (dr _ _),jT o (dr _ _),jS a (dr _ _)⟩;simp[intOf];omega
 obtain rfl:k=d.length:=by omega
 have E:=A.1.trans (Nq _ _);have L:=I (λj (hj:j<d.length)=>show Gp t (Cm d j).1=true from by
  have:=Ti _ _ E j (by omega) (by omega);unfold Fi at this
  by_cases e:Gp t (Cm d j).1=true
  . exact e
  rw[iN e]at this;omega)
 have M:=I (Hv.1.trans (iN (by rw[E];simp)));clear Hv A hk h E;go_wp2_with fail;clear Y xl;go_loopw [8] (λi wr=>∃(k:Nat),1<=k/\k<=d.length/\i=Bn k/\Af (Av (Hq t c d) 1 (d.length-1)=Av (Hq t c d) k (d.length-k))/\Af (wr.heap[w.heap.size]?=some (Ap t s u v x fa fc))/\Af (wr.heap[X]?=some (Aj c p))/\Af (Bw w wr)) (λi _=>d.length-(intOf i).toNat);exact⟨1,by omega,by omega,rfl,I rfl,f,o,a⟩;clear f o a;obtain⟨k,b0,hk,rfl,A,f,o,a⟩:=hrel;by_cases h:k<d.length
 . obtain⟨q,rfl⟩:∃q,k=q+1:=⟨k-1,by omega⟩;obtain⟨b,a2,D,hb,r⟩:=Ok (HD.1.below a.1) (by omega);have H:=(r q (by omega)).1;have t1:=(r (q+1) h).1;subst D;obtain⟨m,G,K⟩:=Qh (L.1 q (by omega));obtain⟨n,hn,a3⟩:=Qh (L.1 (q+1) h);have hE:=I (show Hq t c d (q+1)=if Jj t c m n=true then 0 else 14 by rw[Hq,Nat.add_sub_cancel,G,hn];rfl);rw[G]at H;rw[hn]at t1;have b1:((q+1:Nat):Int)-1=(q:Int):=by omega
   have b2:q<d.length:=by omega
   have C1:=I (λdd os=>Fa (AH t c s u v x fa fc p (grow (redrawn wr dd) os) a1.1 (HF.1.below (Ab a.1 (bR wr dd os))) m n K a3));clear r G hn;obtain⟨x0,x1,Y,xl⟩:=Ev f.1;obtain⟨y0,y1,y2,y3,y4,y5,y6,y7,y8,y9,N,P,Q,R,yl⟩:=Ek o.1;go_wp2_with fail;have r0:=cR x0;have r1:=cR x1;have r2:=cR Y;have s0:=cR y0;have s1:=cR y1;have s2:=cR y2;have s3:=cR y3;have s4:=cR y4;have s5:=cR y5;have s6:=cR y6;have s7:=cR y7;have s8:=cR y8;have s9:=cR y9;have a4:=cR N;have a5:=cR P;have a6:=cR Q;have a7:=cR R;have k0:=cR H;have k1:=cR t1;refine wRa ?_;repeat (first|go_big_quiet_step (with_reducible exact C1.1 _ _)|quiet_step (with_reducible exact C1.1 _ _))
   refine wpQuiet_nil ?_;intro _ a8;obtain⟨⟨Z,z⟩,S⟩:=a8;subst S;have F:=jS a (bR wr Z z);have T:=jT f (bR wr Z z);have U:=jT o (bR wr Z z);clear r0 r1 r2 s0 s1 s2 s3 s4 s5 s6 s7 s8 s9 a4 a5 a6 a7 k0 k1 x0 x1 Y xl y0 y1 y2 y3 y4 y5 y6 y7 y8 y9 N P Q R yl H t1 C1 f o a hb;generalize grow (redrawn wr Z) z=W2 at*;cases eJ:Jj t c m n
   . have l:=I (A.1.trans (Mc h (by rw[hE.1,eJ];decide)));have y:=I (show Cc t c d=14 by rw[M.1,l.1,hE.1,eJ];rfl);go_wp2;go_ret;exact jP y F
   have l:=I (A.1.trans (Ns h (by rw[hE.1,eJ];rfl)));go_wp2;go_roundw;(try((repeat apply eX);refine⟨?_,rfl⟩));exact⟨q+1+1,by omega,by omega,by go_num,l,T,U,F⟩;simp[intOf];omega
 obtain rfl:k=d.length:=by omega
 have y:=I (M.1.trans (A.1.trans (Nq _ _)));go_wp2;go_ret;exact jP y a
theorem kT{t:At}{c:Ad}(h:Jn t c=0):zY t=0/\Ax c=0:=by
 unfold Jn at h;by_cases e:zY t=0;rw[iN (by simpa using e)]at h;exact⟨e,h⟩;rw[iP e]at h;exact aB h e
theorem RY{t:At}{c:Ad}{d:Ai}(h:Jn t c≠0):Bk t c d=Jn t c:=by
 by_cases e:zY t=0;have a:Ax c≠0:=by simpa[Jn,e] using h
 rw[pY e a];simp[Jn,e];rw[pW e];simp[Jn,e]
theorem FI(t:At)(c:Ad)(j:Ae)(b:Nat)(k:Ae)(g:Nat)(fa:Ae)(fc:Nat)(p:Bd)(w:Wd)(n:(t.zn.length<=b/\b<=2^47/\t.ai.length<=g/\g<=2^47))(u:c.cs.length<=p.cc/\p.cc<=9223372036854775807)(o:Ea w t c j k fa p)(d:Ai)(da:Ae)(dc:Nat)(v:d.length<=2^47)(F:Al Ei w da d):
 CV 53 #[Az t j b k g fa fc,Ay c p,.slice da d.length dc] w (Bk t c d):=by
 try delta Ay Az
 have G:=I o;have M:=I F;clear o F;delta CV;go_in;go_wp2_with fail;have x:=I (Ab (J w (Ap t j b k g fa fc)) (J _ (Aj c p)));have H:=I (zd (o':=(Aj c p)) (zh w (Ap t j b k g fa fc)));have s:=I (zh (w.alloc (Ap t j b k g fa fc)) (Aj c p));rw[zr]at s;obtain⟨K,l⟩:=aT (w.heap.size+1);rw[<-l]at s;simp only[<-l];clear l;generalize (w.alloc (Ap t j b k g fa fc)).alloc (Aj c p)=W at*;have q:=I (G.1.below x.1);refine ca (kJ t c j b k g fa fc p W W.heap.size (Bv _) n u q.1.z q.1.a q.1.f q.1.c) λN h=>?_;have i:=jS x h;have y:=jT H h;have A:=jT s h;clear h x H s q;by_cases m:Jn t c=0
 . obtain⟨B,L⟩:=kT m;have C:=I (pX (d:=d) B L);have D:=I B;clear B L;obtain⟨T,U,V,X⟩:=Ev y.1;obtain⟨Y,Z,y2,y3,y4,y5,y6,y7,y8,y9,P,Q,R,S,yl⟩:=Ek A.1;rw[m];clear m;go_wp2_with fail;refine ca (kK t c j b k g fa fc p N D.1 (G.1.below i.1).f d da dc v (M.1.below i.1)) λw2 r=>?_;have E:=jS i r;clear r;go_wp2;go_ret;exact jP C E
 have C:=I (RY (d:=d) m);have e1:=qC m
 clear m;go_wp2;go_ret;exact jP C i
theorem Yn{p o n m k j f e:Value}(v0 v1 v2 v3 v4 a d g l:Value)(h:w.heap[b]?=some (.cells #[p,o,n,m,k,j,f,e,c] T (0,0))):(((((((((w.setCell (aD b 0) v0).setCell (aD b 1) v1).setCell (aD b 2) v2).setCell (aD b 3) v3).setCell (aD b 4) v4).setCell (aD b 5) a).setCell (aD b 6) d).setCell (aD b 7) g).setCell (aD b 8) l).heap[b]?=some (.cells #[v0,v1,v2,v3,v4,a,d,g,l] T (0,0)):=by
 have q:(w.setCell (aD b 0) v0).heap[b]?=some (.cells #[v0,o,n,m,k,j,f,e,c] T (0,0)):=zg (i:=0) (u:=v0) h;have r:((w.setCell (aD b 0) v0).setCell (aD b 1) v1).heap[b]?=some (.cells #[v0,v1,n,m,k,j,f,e,c] T (0,0)):=zg (i:=1) (u:=v1) q;have s:(((w.setCell (aD b 0) v0).setCell (aD b 1) v1).setCell (aD b 2) v2).heap[b]?=some (.cells #[v0,v1,v2,m,k,j,f,e,c] T (0,0)):=zg (i:=2) (u:=v2) r;have t:((((w.setCell (aD b 0) v0).setCell (aD b 1) v1).setCell (aD b 2) v2).setCell (aD b 3) v3).heap[b]?=some (.cells #[v0,v1,v2,v3,k,j,f,e,c] T (0,0)):=zg (i:=3) (u:=v3) s;have v:(((((w.setCell (aD b 0) v0).setCell (aD b 1) v1).setCell (aD b 2) v2).setCell (aD b 3) v3).setCell (aD b 4) v4).heap[b]?=some (.cells #[v0,v1,v2,v3,v4,j,f,e,c] T (0,0)):=zg (i:=4) (u:=v4) t;have x:((((((w.setCell (aD b 0) v0).setCell (aD b 1) v1).setCell (aD b 2) v2).setCell (aD b 3) v3).setCell (aD b 4) v4).setCell (aD b 5) a).heap[b]?=some (.cells #[v0,v1,v2,v3,v4,a,f,e,c] T (0,0)):=zg (i:=5) (u:=a) v;have y:(((((((w.setCell (aD b 0) v0).setCell (aD b 1) v1).setCell (aD b 2) v2).setCell (aD b 3) v3).setCell (aD b 4) v4).setCell (aD b 5) a).setCell (aD b 6) d).heap[b]?=some (.cells #[v0,v1,v2,v3,v4,a,d,e,c] T (0,0)):=zg (i:=6) (u:=d) x;have z:((((((((w.setCell (aD b 0) v0).setCell (aD b 1) v1).setCell (aD b 2) v2).setCell (aD b 3) v3).setCell (aD b 4) v4).setCell (aD b 5) a).setCell (aD b 6) d).setCell (aD b 7) g).heap[b]?=some (.cells #[v0,v1,v2,v3,v4,a,d,g,c] T (0,0)):=zg (i:=7) (u:=g) y;have A:(((((((((w.setCell (aD b 0) v0).setCell (aD b 1) v1).setCell (aD b 2) v2).setCell (aD b 3) v3).setCell (aD b 4) v4).setCell (aD b 5) a).setCell (aD b 6) d).setCell (aD b 7) g).setCell (aD b 8) l).heap[b]?=some (.cells #[v0,v1,v2,v3,v4,a,d,g,l] T (0,0)):=zg (i:=8) (u:=l) z;exact A
theorem iU(t:At)(s:Ae)(x:Nat)(y:Ae)(z:Nat)(fa:Ae)(fc:Nat)(w:Wd)(N:Al Hi w fa t.fs)(F:t.fs.length<=200)(d:Ai)(da:Ae)(dc:Nat)(a0:0<d.length/\d.length<=6)(P:Al Ei w da d)(m:Nat)(Q:(Cm d 0).1=m)(G:m<t.fs.length):
 CV 100 #[Az t s x y z fa fc,.slice da d.length dc] w (.agg #[.string (Aa t.fs m).num,.string (Aa t.fs m).fq,.string (Aa t.fs m).to,(Aa t.fs m).dp,(Aa t.fs m).ar,.string (Aa t.fs m).ty,(Aa t.fs m).n0,(Aa t.fs m).n1,(Aa t.fs m).n2]):=by
 try delta Ay Az
 obtain⟨b,q,rfl,i,A⟩:=Qg N (by omega);obtain⟨⟨p0,p1,p2,p3,p4,p5,p6,p7,p8⟩,_⟩:=A m G;obtain⟨b2,B,rfl,C,r⟩:=Ok P (by omega);have E:=(r 0 (by omega)).1;rw[Q]at E;have E:w.cell? (aD b2 B)=some (Bn (m:Int)):=by simpa using E
 clear A r Q N P;delta CV;go_in;go_wp2_with fail;have k:=I (Ab (J w (Ap t s x y z (some (aD b q)) fc)) (J _ jB));have R:=I (zd (o':=jB) (zh w (Ap t s x y z (some (aD b q)) fc)));have H:=I (zh (w.alloc (Ap t s x y z (some (aD b q)) fc)) jB);rw[zr]at H;obtain⟨a,l⟩:=aT (w.heap.size+1);rw[<-l]at H;simp only[<-l];have f:w.heap.size<=a:=by omega
 clear l;generalize (w.alloc (Ap t s x y z (some (aD b q)) fc)).alloc jB=W at*;have S:=zD p0 i k.1;have T:=zD p1 i k.1;have U:=zD p2 i k.1;have V:=zD p3 i k.1;have Y:=zD p4 i k.1;have Z:=zD p5 i k.1;have u6:=zD p6 i k.1;have u7:=zD p7 i k.1;have u8:=zD p8 i k.1;have ut:=zD E C k.1;have g:=As i k.1.size;have D:=As C k.1.size;have o:=I (aI ut (aI S (aI T (aI U (aI V (aI Y (aI Z (aI u6 (aI u7 u8)))))))));clear ut S T U V Y Z u6 u7 u8;refine' Wi [⟨5, [],.kn _⟩,⟨6, [5],.kn _⟩,⟨7, [],.kn _⟩,⟨8, [7],.kn _⟩,⟨9, [8],.kn _⟩,⟨10, [9],.kn _⟩,⟨11, [6,10],.kn _⟩,⟨12, [11],.kn _⟩] [1,2] [12] (λ_ h=>aI (Ag (Ac h R.1)) (aI (zD o.1.2.2.2.2.2.2.2.2.2 g h) (aI (zD o.1.2.2.2.2.2.2.2.2.1 g h) (aI (zD o.1.2.2.2.2.2.2.2.1 g h) (aI (zD o.1.2.2.2.2.2.2.1 g h) (aI (zD o.1.2.2.2.2.2.1 g h) (aI (zD o.1.2.2.2.2.1 g h) (aI (zD o.1.2.2.2.1 g h) (aI (zD o.1.2.2.1 g h) (aI (zD o.1.2.1 g h) (aI (zD o.1.1 D h) ((zm (j:=2) (Ac h R.1) rfl))))))))))))) ?h1 ?c1 ?f1
 case h1=>
  intro u;simp only[Df,Jm,↓reduceIte,Nat.reduceEqDiff];intros;and_intros
  all_goals try (first|trivial|(intros;refine Fy (by assumption) ?_;go_simp <;> rfl))
 case c1=>kernel_rfl
 intro u n i;simp only[Df,Hu,Jm,Act.put,O,↓reduceIte,Nat.reduceEqDiff];intro e1;have K:=jS k i;have c:=Ac i H.1;have z0:=zw c;have f0:=FA c;have z1:=zu c;have f1:n.frozen? (aD a 1)=false:=zQ c;have z2:=zC c;have z3:=Hk c;have z4:=Ks c;have z5:=Lg c;have z6:=Mf c;have z7:=Ic c;have z8:=Jg c;have L:=Ag c;go_simp;clear z0 f0 z1 f1 z2 z3 z4 z5 z6 z7 z8 L;go_wp2_with fail;have p:=Yn (.string (Aa t.fs m).num) (.string (Aa t.fs m).fq) (.string (Aa t.fs m).to) (Bn (Aa t.fs m).dp) (Bn (Aa t.fs m).ar) (.string (Aa t.fs m).ty) (Bn (Aa t.fs m).n0) (Bn (Aa t.fs m).n1) (Bn (Aa t.fs m).n2) c;have M:Bw w (((((((((n.setCell (aD a 0) (.string (Aa t.fs m).num)).setCell (aD a 1) (.string (Aa t.fs m).fq)).setCell (aD a 2) (.string (Aa t.fs m).to)).setCell (aD a 3) (Bn (Aa t.fs m).dp)).setCell (aD a 4) (Bn (Aa t.fs m).ar)).setCell (aD a 5) (.string (Aa t.fs m).ty)).setCell (aD a 6) (Bn (Aa t.fs m).n0)).setCell (aD a 7) (Bn (Aa t.fs m).n1)).setCell (aD a 8) (Bn (Aa t.fs m).n2)):=(((((((((K.1.setCell f _).setCell f _).setCell f _).setCell f _).setCell f _).setCell f _).setCell f _).setCell f _).setCell f _);generalize (((((((((n.setCell (aD a 0) (.string (Aa t.fs m).num)).setCell (aD a 1) (.string (Aa t.fs m).fq)).setCell (aD a 2) (.string (Aa t.fs m).to)).setCell (aD a 3) (Bn (Aa t.fs m).dp)).setCell (aD a 4) (Bn (Aa t.fs m).ar)).setCell (aD a 5) (.string (Aa t.fs m).ty)).setCell (aD a 6) (Bn (Aa t.fs m).n0)).setCell (aD a 7) (Bn (Aa t.fs m).n1)).setCell (aD a 8) (Bn (Aa t.fs m).n2))=X at*;have r0:=zw p;have r1:=zu p;have r2:=zC p;have r3:=Hk p;have r4:=Ks p;have r5:=Lg p;have r6:=Mf p;have r7:=Ic p;have r8:=Jg p;clear c p;refine bP (v:=.agg #[.string (Aa t.fs m).num,.string (Aa t.fs m).fq,.string (Aa t.fs m).to,(Aa t.fs m).dp,(Aa t.fs m).ar,.string (Aa t.fs m).ty,(Aa t.fs m).n0,(Aa t.fs m).n1,(Aa t.fs m).n2]) (by simp[results,results100,go_sem,r0,r1,r2,r3,r4,r5,r6,r7,r8]) rfl ?_;exact⟨rfl,M⟩
theorem eW(t:At)(x:Ae)(y:Nat)(z:Ae)(A:Nat)(fa:Ae)(fc:Nat)(w:Wd)(N:Al Hi w fa t.fs)(F:t.fs.length<=200)(d:Ai)(da:Ae)(dc:Nat)(a0:0<d.length/\d.length<=6)(P:Al Ei w da d)(m:Nat)(B:(Cm d (d.length-1)).1=m)(G:m<t.fs.length):
 CV 99 #[Az t x y z A fa fc,.slice da d.length dc] w (.agg #[.string (Aa t.fs m).num,.string (Aa t.fs m).fq,.string (Aa t.fs m).to,(Aa t.fs m).dp,(Aa t.fs m).ar,.string (Aa t.fs m).ty,(Aa t.fs m).n0,(Aa t.fs m).n1,(Aa t.fs m).n2]):=by
 try delta Ay Az
 obtain⟨b,r,rfl,i,C⟩:=Qg N (by omega);obtain⟨⟨p0,p1,p2,p3,p4,p5,p6,p7,p8⟩,_⟩:=C m G;obtain⟨b2,Q,rfl,D,s⟩:=Ok P (by omega);obtain⟨n,hn⟩:∃n,d.length=n+1:=⟨d.length-1,by omega⟩;have B:(Cm d n).1=m:=by rw[show d.length-1=n by omega]at B;exact B
 have hq:(d.length:Int)-1=(n:Int):=by omega
 have a1:n<d.length:=by omega
 have a2:IntKind.i64.wrap (n:Int)=(n:Int):=by rw[wI];omega
 clear hn;have R:=(s n (by omega)).1;rw[B]at R;clear C s B N P;delta CV;go_in;go_wp2_with fail;have k:=I (Ab (J w (Ap t x y z A (some (aD b r)) fc)) (J _ jB));have S:=I (zd (o':=jB) (zh w (Ap t x y z A (some (aD b r)) fc)));have H:=I (zh (w.alloc (Ap t x y z A (some (aD b r)) fc)) jB);rw[zr]at H;obtain⟨a,l⟩:=aT (w.heap.size+1);rw[<-l]at H;simp only[<-l];have f:w.heap.size<=a:=by omega
 clear l;generalize (w.alloc (Ap t x y z A (some (aD b r)) fc)).alloc jB=W at*;have T:=zD p0 i k.1;have U:=zD p1 i k.1;have V:=zD p2 i k.1;have Y:=zD p3 i k.1;have Z:=zD p4 i k.1;have u5:=zD p5 i k.1;have u6:=zD p6 i k.1;have u7:=zD p7 i k.1;have u8:=zD p8 i k.1;have ut:=zD R D k.1;have g:=As i k.1.size;have E:=As D k.1.size;have p:=I (aI ut (aI T (aI U (aI V (aI Y (aI Z (aI u5 (aI u6 (aI u7 u8)))))))));clear ut T U V Y Z u5 u6 u7 u8;refine' Wi [⟨5, [],.kn _⟩,⟨6, [5],.kn _⟩,⟨7, [],.kn _⟩,⟨8, [],.kn _⟩,⟨9, [8],.kn _⟩,⟨10, [9],.kn _⟩,⟨11, [7,10],.kn _⟩,⟨12, [11],.kn _⟩,⟨13, [12],.kn _⟩,⟨14, [6,13],.kn _⟩,⟨15, [14],.kn _⟩] [1,2] [15] (λ_ h=>aI (Ag (Ac h S.1)) (aI (zD p.1.2.2.2.2.2.2.2.2.2 g h) (aI (zD p.1.2.2.2.2.2.2.2.2.1 g h) (aI (zD p.1.2.2.2.2.2.2.2.1 g h) (aI (zD p.1.2.2.2.2.2.2.1 g h) (aI (zD p.1.2.2.2.2.2.1 g h) (aI (zD p.1.2.2.2.2.1 g h) (aI (zD p.1.2.2.2.1 g h) (aI (zD p.1.2.2.1 g h) (aI (zD p.1.2.1 g h) (aI (zD p.1.1 E h) ((zm (j:=2) (Ac h S.1) rfl))))))))))))) ?h2 ?c2 ?f2
 case h2=>
  intro u;simp only[Df,Jm,↓reduceIte,Nat.reduceEqDiff];intros;and_intros
  all_goals try (first|trivial|(intros;refine Fy (by assumption) ?_;go_simp <;> rfl))
 case c2=>kernel_rfl
 intro u o i;simp only[Df,Hu,Jm,Act.put,O,↓reduceIte,Nat.reduceEqDiff];intro e1;have K:=jS k i;have c:=Ac i H.1;have z0:=zw c;have f0:=FA c;have z1:=zu c;have z2:=zC c;have f2:o.frozen? (aD a 2)=false:=zQ c;have z3:=Hk c;have z4:=Ks c;have z5:=Lg c;have z6:=Mf c;have z7:=Ic c;have z8:=Jg c;have L:=Ag c;go_simp;clear z0 f0 z1 z2 f2 z3 z4 z5 z6 z7 z8 L;go_wp2_with fail;have q:=Yn (.string (Aa t.fs m).num) (.string (Aa t.fs m).fq) (.string (Aa t.fs m).to) (Bn (Aa t.fs m).dp) (Bn (Aa t.fs m).ar) (.string (Aa t.fs m).ty) (Bn (Aa t.fs m).n0) (Bn (Aa t.fs m).n1) (Bn (Aa t.fs m).n2) c;have M:Bw w (((((((((o.setCell (aD a 0) (.string (Aa t.fs m).num)).setCell (aD a 1) (.string (Aa t.fs m).fq)).setCell (aD a 2) (.string (Aa t.fs m).to)).setCell (aD a 3) (Bn (Aa t.fs m).dp)).setCell (aD a 4) (Bn (Aa t.fs m).ar)).setCell (aD a 5) (.string (Aa t.fs m).ty)).setCell (aD a 6) (Bn (Aa t.fs m).n0)).setCell (aD a 7) (Bn (Aa t.fs m).n1)).setCell (aD a 8) (Bn (Aa t.fs m).n2)):=(((((((((K.1.setCell f _).setCell f _).setCell f _).setCell f _).setCell f _).setCell f _).setCell f _).setCell f _).setCell f _);generalize (((((((((o.setCell (aD a 0) (.string (Aa t.fs m).num)).setCell (aD a 1) (.string (Aa t.fs m).fq)).setCell (aD a 2) (.string (Aa t.fs m).to)).setCell (aD a 3) (Bn (Aa t.fs m).dp)).setCell (aD a 4) (Bn (Aa t.fs m).ar)).setCell (aD a 5) (.string (Aa t.fs m).ty)).setCell (aD a 6) (Bn (Aa t.fs m).n0)).setCell (aD a 7) (Bn (Aa t.fs m).n1)).setCell (aD a 8) (Bn (Aa t.fs m).n2))=X at*;have r0:=zw q;have r1:=zu q;have r2:=zC q;have r3:=Hk q;have r4:=Ks q;have r5:=Lg q;have r6:=Mf q;have r7:=Ic q;have r8:=Jg q;clear c q;refine bP (v:=.agg #[.string (Aa t.fs m).num,.string (Aa t.fs m).fq,.string (Aa t.fs m).to,(Aa t.fs m).dp,(Aa t.fs m).ar,.string (Aa t.fs m).ty,(Aa t.fs m).n0,(Aa t.fs m).n1,(Aa t.fs m).n2]) (by simp[results,results99,go_sem,r0,r1,r2,r3,r4,r5,r6,r7,r8]) rfl ?_;exact⟨rfl,M⟩
def Sb(t:At)(c:Ad)(e:Int):Int:=if zY t≠0 then zY t else if Ax c≠0 then Ax c else e
theorem Se{t:At}{c:Ad}(h:zY t≠0):Sb t c e=zY t:=iP h
theorem Sc{t:At}{c:Ad}(h:zY t=0)(a:Ax c≠0):Sb t c e=Ax c:=by rw[Sb,iN (by simpa using h),iP a]
theorem Pd{t:At}{c:Ad}(h:zY t=0)(a:Ax c=0):Sb t c e=e:=by rw[Sb,iN (by simpa using h),iN (by simpa using a)]
theorem Vy(t:At)(c:Ad)(n:Ae)(o:Nat)(q:Ae)(r:Nat)(fa:Ae)(fc:Nat)(p:Bd)(w:Wd)(F:zY t=0)(R:Ax c=0)(S:Al Hi w fa t.fs)(d:Ai)(da:Ae)(dc:Nat)(s:Cc t c d=0)(T:Al Ei w da d):
 CV 98 #[Az t n o q r fa fc,Ay c p,.slice da d.length dc] w (.agg #[.int .i64 (Bm t c d).1,.int .i64 (Bm t c d).2]):=by
 try delta Ay Az
 obtain⟨H,z,L,B⟩:=Jl s;obtain⟨Z,a0,_,_⟩:=Ka s;have ta:=Lu F z;have tz:=Lu F B;obtain⟨a1,a2,_⟩:=Ul R;have f:=(On F).2.2;have a3:IntKind.i64.wrap ((Aa t.fs (fstN d)).dp-c.rp)=((Aa t.fs (fstN d)).dp-c.rp):=by rw[wI];omega
 have a4:IntKind.i64.wrap ((Aa t.fs (lstN d)).ar+c.rl)=((Aa t.fs (lstN d)).ar+c.rl):=by rw[wI];omega
 have U:=I S;have V:=I T;have a5:∀w:Wd,(Instr.field 112 (.agg #[.string (Aa t.fs (fstN d)).num,.string (Aa t.fs (fstN d)).fq,.string (Aa t.fs (fstN d)).to,(Aa t.fs (fstN d)).dp,(Aa t.fs (fstN d)).ar,.string (Aa t.fs (fstN d)).ty,(Aa t.fs (fstN d)).n0,(Aa t.fs (fstN d)).n1,(Aa t.fs (fstN d)).n2]) 3).run prog w=.ok (.int .i64 (Aa t.fs (fstN d)).dp) w:=λ_=>by kernel_rfl
 have a6:∀w:Wd,(Instr.field 112 (.agg #[.string (Aa t.fs (lstN d)).num,.string (Aa t.fs (lstN d)).fq,.string (Aa t.fs (lstN d)).to,(Aa t.fs (lstN d)).dp,(Aa t.fs (lstN d)).ar,.string (Aa t.fs (lstN d)).ty,(Aa t.fs (lstN d)).n0,(Aa t.fs (lstN d)).n1,(Aa t.fs (lstN d)).n2]) 4).run prog w=.ok (.int .i64 (Aa t.fs (lstN d)).ar) w:=λ_=>by kernel_rfl
 show Calls prog 98 #[.agg #[.slice n t.zn.length o,.slice q t.ai.length r,.slice fa t.fs.length fc],.agg #[c.rp,c.rl,c.cn,c.sit,c.lv,c.nf,c.nt,.slice p.ca c.cs.length p.cc,.slice p.ra c.rs.length p.rc,.slice p.ka c.ks.length p.kc,.slice p.xa c.xs.length p.xc,.slice p.la c.ls.length p.lc,.slice p.oa c.oz.length p.oc,c.gu],.slice da d.length dc] w λe w'=>e=.returned (.agg #[.int .i64 ((Aa t.fs (fstN d)).dp-c.rp),.int .i64 ((Aa t.fs (lstN d)).ar+c.rl)])/\Bw w w';clear S T s F R;go_enter func98,ntmps98;go_wp2_with fail;have M:=I (Ab (Ab (J w (Ap t n o q r fa fc)) (J _ (Aj c p))) (J _ jJ));have G:=I (zd (o':=jJ) (zd (o':=(Aj c p)) (zh w (Ap t n o q r fa fc))));have C:=I (zd (o':=jJ) (zh (w.alloc (Ap t n o q r fa fc)) (Aj c p)));have N:=I (zh ((w.alloc (Ap t n o q r fa fc)).alloc (Aj c p)) jJ);rw[zr]at C;rw[zr,zr]at N;obtain⟨b,l⟩:∃b,b=w.heap.size+1+1:=⟨_,rfl⟩;obtain⟨X,x⟩:∃X,X=w.heap.size+1:=⟨_,rfl⟩;rw[<-l]at N;rw[<-x]at C;simp only[<-l];simp only[<-x];have D:w.heap.size<=b:=by omega
 clear l x;generalize ((w.alloc (Ap t n o q r fa fc)).alloc (Aj c p)).alloc jJ=W at*;refine' Wi [⟨7, [],.kn _⟩,⟨8, [],.kn _⟩,⟨9, [7,8],.kn (.agg #[.string (Aa t.fs (fstN d)).num,.string (Aa t.fs (fstN d)).fq,.string (Aa t.fs (fstN d)).to,(Aa t.fs (fstN d)).dp,(Aa t.fs (fstN d)).ar,.string (Aa t.fs (fstN d)).ty,(Aa t.fs (fstN d)).n0,(Aa t.fs (fstN d)).n1,(Aa t.fs (fstN d)).n2])⟩,⟨10, [9],.kn _⟩,⟨11, [],.kn _⟩,⟨12, [11],.kn _⟩,⟨13, [10,12],.kn _⟩,⟨14, [],.kn _⟩,⟨15, [],.kn _⟩,⟨16, [14,15],.kn (.agg #[.string (Aa t.fs (lstN d)).num,.string (Aa t.fs (lstN d)).fq,.string (Aa t.fs (lstN d)).to,(Aa t.fs (lstN d)).dp,(Aa t.fs (lstN d)).ar,.string (Aa t.fs (lstN d)).ty,(Aa t.fs (lstN d)).n0,(Aa t.fs (lstN d)).n1,(Aa t.fs (lstN d)).n2])⟩,⟨17, [16],.kn _⟩,⟨18, [],.kn _⟩,⟨19, [18],.kn _⟩,⟨20, [17,19],.kn _⟩,⟨21, [13,20],.kn _⟩] [2,3,4] [21] (λ_ h=>aI (aI (zm (j:=0) (Ac h G.1) rfl) (aI (zm (j:=1) (Ac h G.1) rfl) (zm (j:=2) (Ac h G.1) rfl))) (aI (zm (j:=0) (Ac h C.1) rfl) (aI (zm (j:=1) (Ac h C.1) rfl) (aI (Ag (Ac h G.1)) (Ag (Ac h C.1)))))) ?h3 ?c3 ?f3
 case h3=>
  intro u;simp only[Df,Jm,↓reduceIte,Nat.reduceEqDiff];intros;and_intros
  all_goals try (first|trivial|(intros;refine Fy (by assumption) ?_;go_simp <;> rfl))
  intro A P e y g q1 q2 K k;go_simp;have m:=Ab M.1 y;refine ca (iU t n o q r fa fc P (U.1.below m) f d da dc ⟨by omega,by omega⟩ (V.1.below m) (fstN d) H z) λw2 h=>?_;exact k.1 _ _ ⟨h,rfl⟩
  intro A P e y g q1 q2 K k;go_simp;have m:=Ab M.1 y;refine ca (eW t n o q r fa fc P (U.1.below m) f d da dc ⟨by omega,by omega⟩ (V.1.below m) (lstN d) L B) λw2 h=>?_;exact k.1 _ _ ⟨h,rfl⟩
 case c3=>kernel_rfl
 intro u E y;simp only[Df,Hu,Jm,Act.put,O,↓reduceIte,Nat.reduceEqDiff];intro e1;have a:=Ac y N.1;have z0:=zw a;have z1:=zu a;have f0:=FA a;have rl:=Ag a;go_simp;go_wp2_with fail;have Q1:(E.setCell (aD b 0) (.int .i64 ((Aa t.fs (fstN d)).dp-c.rp))).heap[b]?=some (oQ ((Aa t.fs (fstN d)).dp-c.rp) 0):=zg (i:=0) (u:=.int .i64 ((Aa t.fs (fstN d)).dp-c.rp)) a;have Y:((E.setCell (aD b 0) (.int .i64 ((Aa t.fs (fstN d)).dp-c.rp))).setCell (aD b 1) (.int .i64 ((Aa t.fs (lstN d)).ar+c.rl))).heap[b]?=some (oQ ((Aa t.fs (fstN d)).dp-c.rp) ((Aa t.fs (lstN d)).ar+c.rl)):=zg (i:=1) (u:=.int .i64 ((Aa t.fs (lstN d)).ar+c.rl)) Q1;have r0:=zw Y;have r1:=zu Y;have Q:Bw w ((E.setCell (aD b 0) (.int .i64 ((Aa t.fs (fstN d)).dp-c.rp))).setCell (aD b 1) (.int .i64 ((Aa t.fs (lstN d)).ar+c.rl))):=(((Ab M.1 y).setCell D _).setCell D _);refine bP (v:=.agg #[.int .i64 ((Aa t.fs (fstN d)).dp-c.rp),.int .i64 ((Aa t.fs (lstN d)).ar+c.rl)]) (by simp[results,results98,go_sem,r0,r1]) rfl ?_;exact⟨rfl,Q⟩
def Vd(w0 w:Wd)(z:Cy)(g:Value->Value)(e:Ending)(w':Wd):Prop:=∃a cap,e=.returned (g (.agg #[.string z.name,z.off,.slice a z.sh.length cap]))/\Cj w0 a z.sh/\z.name.size<=140737488355328/\z.sh.length<=140737488355328/\Below w.heap.size w w'
theorem MK(t:At)(Y:Ae)(z:Nat)(Z:Ae)(B:Nat)(fa:Ae)(fc:Nat)(w:Wd)(ht:zY t=0)(D:Wd)(hw:Bw D w)(Q:Al Nc D Y t.zn)(R:Al Mk D Z t.ai)(s:BA)(hs:Ao (t.ai.map Bh.code) s=true):
 Calls prog 173 #[Az t Y z Z B fa fc,.string s] w (Vd D w (zp t s) λv=>.tuple #[v,.bool true]):=by
 try delta Ay Az
 obtain⟨i,j,hi,hj,E,F,G⟩:=AC ht hs;have hl:=On ht;have HJ:=I F;have HI:=I E;rw[G];obtain⟨b,n,rfl,p,H⟩:=dV Q (by omega);obtain⟨L,d,rfl,M,q⟩:=eF R (by omega);obtain⟨a,m,c0,c1,c2,s1,s2,s3⟩:=H j hj;have d1:=(q i hi).2.1;have S:=I s3;have HZ:=I Q;have HA:=I R;clear H q Q R E F G s3 hs;go_in;go_wp2_with fail;have HB:=I (Ab (J w (Ap t (some (aD b n)) z (some (aD L d)) B fa fc)) (J _ jK));have f:=I (Ab hw HB.1);have C:=I (zd (o':=jK) (zh w (Ap t (some (aD b n)) z (some (aD L d)) B fa fc)));have T:=I (zh (w.alloc (Ap t (some (aD b n)) z (some (aD L d)) B fa fc)) jK);rw[zr]at T;obtain⟨c,o⟩:=aT (w.heap.size+1);rw[<-o]at T;simp only[<-o];have r:w.heap.size<=c:=by omega
 have a0:w.heap.size<c:=by omega
 clear o;generalize (w.alloc (Ap t (some (aD b n)) z (some (aD L d)) B fa fc)).alloc jK=W at*;refine cb (Pf t.ai s (some (aD L d)) B W (HA.1.below f.1) (by omega)) ?_;rw[HI.1];have u0:=zD c0 p f.1;have u1:=zD c1 p f.1;have u2:=zD c2 p f.1;have v1:=zD d1 M f.1;have x:=As p f.1.size;have N:=As M f.1.size;have P:=I (aI v1 (aI u0 (aI u1 u2)));have q0:=zw C.1;have q1:=zu C.1;have xl:=Ag C.1;clear u0 u1 u2 v1;go_wp2_with fail;clear q0 q1 xl;refine' lK [⟨14, [],.kn _⟩,⟨15, [14],.kn _⟩,⟨16, [],.kn _⟩,⟨17, [16],.kn _⟩,⟨18, [],.kn _⟩,⟨19, [18],.kn _⟩,⟨20, [],.kn _⟩,⟨21, [19,20],.kn _⟩,⟨22, [21],.kn _⟩,⟨23, [22],.kn _⟩,⟨24, [17,23],.kn (Bn (j:Int))⟩,⟨25, [15,24],.kn _⟩,⟨26, [25],.kn _⟩] [2,6] [26] (λ_ h=>aI (zm (j:=0) (Ac h C.1) rfl) (aI (zm (j:=1) (Ac h C.1) rfl) (aI (zD P.1.1 N h) (aI (zD P.1.2.1 x h) (aI (zD P.1.2.2.1 x h) (aI (zD P.1.2.2.2 x h) (Ag (Ac h C.1)))))))) ?h1 ?c1 ?f1
 case h1=>
  intro u;simp only[Df,Jm,↓reduceIte,Nat.reduceEqDiff];intros;and_intros
  all_goals try (first|trivial|(intros;refine Fy (by assumption) ?_;go_simp <;> rfl))
  intro A w1 e p g q1 q2 K k;go_simp;refine cb (nD t.zn (Ct t.ai i).zone (some (aD b n)) z w1 (HZ.1.below (Ab f.1 p)) (by omega)) ?_;exact k.1 _ _ ⟨An _ _,by rw[HJ.1]⟩
 case c1=>kernel_rfl
 intro u y p;simp only[Df,Hu,Jm,Act.put,O,↓reduceIte,Nat.reduceEqDiff];intro e1;have l:=jT T p;have U:=jS HB p;have z0:=zw l.1;have f0:=FA l.1;have z1:=zu l.1;have f1:y.frozen? (aD c 1)=false:=zQ l.1;have z2:=zC l.1;have rl:=Ag l.1;go_simp;clear z0 z1 z2 f0 f1 rl;go_wp2_with fail;have Q1:(y.setCell (aD c 0) (.string (Cg t.zn j).name)).heap[c]?=some (oZ (Cg t.zn j).name 0 none 0 0):=zg (i:=0) (u:=.string (Cg t.zn j).name) l.1;have Q2:((y.setCell (aD c 0) (.string (Cg t.zn j).name)).setCell (aD c 1) (Bn (Cg t.zn j).off)).heap[c]?=some (oZ (Cg t.zn j).name (Cg t.zn j).off none 0 0):=zg (i:=1) (u:=Bn (Cg t.zn j).off) Q1;have V:(((y.setCell (aD c 0) (.string (Cg t.zn j).name)).setCell (aD c 1) (Bn (Cg t.zn j).off)).setCell (aD c 2) (.slice a (Cg t.zn j).sh.length m)).heap[c]?=some (Pc (Cg t.zn j) a m):=zg (i:=2) (u:=.slice a (Cg t.zn j).sh.length m) Q2;have r0:=zw V;have r1:=zu V;have r2:=zC V;have X:Bw w (((y.setCell (aD c 0) (.string (Cg t.zn j).name)).setCell (aD c 1) (Bn (Cg t.zn j).off)).setCell (aD c 2) (.slice a (Cg t.zn j).sh.length m)):=(((U.1.setCell r _).setCell r _).setCell r _);refine bP (v:=.tuple #[.agg #[.string (Cg t.zn j).name,(Cg t.zn j).off,.slice a (Cg t.zn j).sh.length m],.bool true]) (by simp[results,results173,go_sem,r0,r1,r2]) rfl ?_;exact⟨a,m,rfl,S.1,s1,s2,X⟩
theorem fV(t:At)(m:Ae)(p:Nat)(n:Ae)(q:Nat)(fa:Ae)(fc:Nat)(w:Wd)(K:zY t=0)(o:Wd)(L:Bw o w)(D:Al Nc o m t.zn)(E:Al Mk o n t.ai)(s:BA)(M:Ao (t.ai.map Bh.code) s=true):
 Calls prog 102 #[Az t m p n q fa fc,.string s] w (Vd o w (zp t s) λv=>v):=by
 try delta Ay Az
 have N:=I D;have P:=I E;clear D E;go_in;go_wp2_with fail;have y:=I (Ab (J w (Ap t m p n q fa fc)) (J _ jK));have x:=I (zh (w.alloc (Ap t m p n q fa fc)) jK);rw[zr]at x;obtain⟨b,f⟩:=aT (w.heap.size+1);rw[<-f]at x;simp only[<-f];have j:w.heap.size<=b:=by omega
 clear f;generalize (w.alloc (Ap t m p n q fa fc)).alloc jK=W at*;refine(MK t m p n q fa fc W K o (Ab L y.1) N.1 P.1 s M).mono ?_;rintro e k ⟨a,c,rfl,F,G,H,l⟩;have A:=jS y l;have d:=jT x l;have r:=I F;clear l F y x;obtain⟨z,g⟩:=aT (zp t s);rw[<-g]at r G H;simp only[<-g];have h:=I g;clear g;have rl:=Ag d.1;have Q:=zw d.1;have R:=zu d.1;have S:=zC d.1;have T:=FA d.1;go_wp2_with fail;clear Q R S T;have X:(k.setCell (aD b 0) (.string z.name)).heap[b]?=some (oZ z.name 0 none 0 0):=zg (i:=0) (u:=.string z.name) d.1;have Y:((k.setCell (aD b 0) (.string z.name)).setCell (aD b 1) (Bn z.off)).heap[b]?=some (oZ z.name z.off none 0 0):=zg (i:=1) (u:=Bn z.off) X;have Z:(((k.setCell (aD b 0) (.string z.name)).setCell (aD b 1) (Bn z.off)).setCell (aD b 2) (.slice a z.sh.length c)).heap[b]?=some (Pc z a c):=zg (i:=2) (u:=.slice a z.sh.length c) Y;have B:=zd (o':=(Pc z a c)) Z;have r0:=zw B;have r1:=zu B;have r2:=zC B;have C:Bw w ((((k.setCell (aD b 0) (.string z.name)).setCell (aD b 1) (Bn z.off)).setCell (aD b 2) (.slice a z.sh.length c)).alloc (Pc z a c)):=Ab (((A.1.setCell j _).setCell j _).setCell j _) (J _ _);refine bP (v:=.agg #[.string z.name,z.off,.slice a z.sh.length c]) (by simp[results,results102,go_sem,r0,r1,r2]) rfl ?_;exact⟨a,c,by rw[<-h.1],by rw[<-h.1];exact r.1,by rw[<-h.1];exact G,by rw[<-h.1];exact H,C⟩
theorem uD(s:BA)(o t:Int)(l:List (Int×Int))(a:Ae)(cap:Nat)(w:Wd)(b:l.length<=1000000)(c:Cj w a l):
 CV 171 #[.agg #[.string s,o,.slice a l.length cap],t] w (Cw o l t):=Tc s o t l a cap w b c
theorem vP(z:Cy)(a:Ae)(cap:Nat)(t:Int)(w:Wd)(h:z.name.size<=2^47)(i:z.sh.length<=1000000)(f:Cj w a z.sh):
 CV 190 #[.agg #[.string z.name,z.off,.slice a z.sh.length cap],t] w (Bn (Kt z.name.data.toList z.off z.sh t).2.1):=by
 have j:=I f;have c:z.name.size<=maxLen:=by unfold maxLen;omega
 delta CV;go_in;go_wp2_with fail;have g:=I (J w (Pc z a cap));generalize w.alloc (Pc z a cap)=W at*;refine ca (pA z.name z.off t z.sh a cap W c i (j.1.below g.1)) λk b=>?_;have d:=jS g b;go_wp2;go_ret;exact⟨rfl,d.1⟩
theorem X_{o:Obj}(h:w.heap[b]?=some o)(a:b≠p)(d e f:Nat)(g i j:Value):(((w.setCell (aD p d) g).setCell (aD p e) i).setCell (aD p f) j).heap[b]?=some o:=by
 have m:=Ag h;have c:some b≠some p:=by simpa using a
 have k:=((Lib.grownBy_setCell w p d g).block b m c).trans h;have l:=((Lib.grownBy_setCell _ p e i).block b (Ag k) c).trans k;exact((Lib.grownBy_setCell _ p f j).block b (Ag l) c).trans l
theorem W_{c d:Array Value}{t u:TypeId}{f g:Nat×Nat}(h:w.heap[b]?=some (.cells c t f))(a:w.heap[p]?=some (.cells d u g))(e:t≠u):b≠p:=by
 rintro rfl;rw[h]at a;simp at a;exact e a.2.1
theorem gB{b:Value}{d:TypeId}(h:w.heap[p]?=some (.cells #[a,b,c] d (0,0))):w.cell? (aD p 0)=some a/\w.cell? (aD p 1)=some b/\w.cell? (aD p 2)=some c/\w.frozen? (aD p 0)=false/\w.frozen? (aD p 1)=false/\w.frozen? (aD p 2)=false/\p<w.heap.size:=
 ⟨zm (j:=0) h rfl,zm (j:=1) h rfl,zm (j:=2) h rfl,zQ h,zQ h,zQ h,Ag h⟩
theorem Kk{q:Nat}{b:Value}(h:w.heap[q]?=some (Obj.cells #[a,b] T)):w.cell? (aD q 0)=some a/\w.cell? (aD q 1)=some b/\q<w.heap.size:=⟨zm (j:=0) h rfl,zm (j:=1) h rfl,Ag h⟩
theorem PC{t:At}(a:zY t=0)(c:Ao (t.ai.map Bh.code) s=true):Fv (zp t s)=0:=by
 obtain⟨i,j,d,b,_,_,e⟩:=AC a c;rw[e];refine pI (nH a).1 _ ?_;unfold Cg;rw[Cr,Cz b];exact gM b
theorem iI{t:At}(f:zY t=0)(g:Ao (t.ai.map Bh.code) s=true){x:Int}(i:0<=x/\x<52596000):Cw (zp t s).off (zp t s).sh x=(Ej (zp t s).name.data.toList (zp t s).off (zp t s).sh x).1:=by
 have h:=PC f g;have a:zG (zp t s).name.data.toList (zp t s).off (zp t s).sh=0:=h;have b:Ji none (zp t s).sh=0:=by
  unfold zG at a;by_cases c:Gu (zp t s).name.data.toList=false;rw[iP c]at a;omega;rw[iN c]at a;by_cases d:Dr (zp t s).off=false;rw[iP d]at a;omega;rw[iN d]at a;by_cases e:16<(zp t s).sh.length;rw[iP e]at a;omega;rwa [iN e]at a
 unfold Ej;rw[iN (by simpa using a),iN (by simp[Ew];omega),gN _ none _ _ b]
def fA(t:At)(c:Ad)(f1 f2:BA)(x y:Int):Value:=.tuple #[.int .i64 (y-x),.int .i64 (Jp (zp t f1).name.data.toList (zp t f1).off (zp t f1).sh x y c.nf c.nt).1,(mx (Cw (zp t f2).off (zp t f2).sh y-Cw (zp t f1).off (zp t f1).sh x) (-(Cw (zp t f2).off (zp t f2).sh y-Cw (zp t f1).off (zp t f1).sh x))),.int .i64 (Kt (zp t f1).name.data.toList (zp t f1).off (zp t f1).sh x).2.1,.int .i64 (Kt (zp t f2).name.data.toList (zp t f2).off (zp t f2).sh y).2.1]
theorem PD(t:At)(c:Ad)(H:Ae)(P:Nat)(L:Ae)(Q:Nat)(fa:Ae)(fc:Nat)(p:Bd)(w:Wd)(R:zY t=0)(hz:Al Nc w H t.zn)(ha:Al Mk w L t.ai)(f1 f2:BA)(a0:Ao (t.ai.map Bh.code) f1=true)(a3:Ao (t.ai.map Bh.code) f2=true)(x y:Int)(b0:0<=x/\x<=y/\y<52596000):
 CV 118 #[Az t H P L Q fa fc,Ay c p,.string f1,.string f2,.agg #[x,y]] w (fA t c f1 f2 x y):=by
 try delta Ay Az
 have HZ:=I hz;have HA:=I ha;clear hz ha;delta CV;go_in;go_wp2_with fail;have HB:=I (Ab (Ab (J w (Ap t H P L Q fa fc)) (J _ (Aj c p))) (J _ (oQ x y)));have F:=I (zd (o':=(oQ x y)) (zd (o':=(Aj c p)) (zh w (Ap t H P L Q fa fc))));have G:=I (zd (o':=(oQ x y)) (zh (w.alloc (Ap t H P L Q fa fc)) (Aj c p)));have z:=I (zh ((w.alloc (Ap t H P L Q fa fc)).alloc (Aj c p)) (oQ x y));rw[zr]at G;rw[zr,zr]at z;obtain⟨sb,B⟩:=aT (w.heap.size+1+1);obtain⟨cb,T⟩:=aT (w.heap.size+1);rw[<-B]at z;rw[<-T]at G;simp only[<-B];simp only[<-T];clear B T;generalize ((w.alloc (Ap t H P L Q fa fc)).alloc (Aj c p)).alloc (oQ x y)=W at*;have xl:=Ag F.1;clear xl;refine' Gf [⟨19, [],.kn _⟩,⟨20, [],.kn _⟩,⟨21, [19,20],.pu λv=>∃d c1,v=.agg #[.string (zp t f1).name,(zp t f1).off,.slice d (zp t f1).sh.length c1]/\Cj w d (zp t f1).sh/\(zp t f1).name.size<=2^47⟩,⟨22, [],.kn _⟩,⟨23, [],.kn _⟩,⟨24, [22,23],.pu λv=>∃d c1,v=.agg #[.string (zp t f2).name,(zp t f2).off,.slice d (zp t f2).sh.length c1]/\Cj w d (zp t f2).sh/\(zp t f2).name.size<=2^47⟩,⟨15, [],.bx jK⟩,⟨16, [],.bx jK⟩,⟨1008, [15,21],.st 15 21 λ_ o=>∃d c1,o=(Pc (zp t f1) d c1)/\Cj w d (zp t f1).sh/\(zp t f1).name.size<=2^47⟩,⟨1009, [16,24],.st 16 24 λ_ o=>∃d c1,o=(Pc (zp t f2) d c1)/\Cj w d (zp t f2).sh/\(zp t f2).name.size<=2^47⟩] [2,3,5] [1008,1009] (λ_ h=>aI (zm (j:=0) (Ac h F.1) rfl) (aI (zm (j:=1) (Ac h F.1) rfl) (aI (zm (j:=2) (Ac h F.1) rfl) (Ag (Ac h F.1))))) ?h1 ?c1 ?f1
 case h1=>
  intro u;simp only[Df,↓reduceIte,Nat.reduceEqDiff];intros;and_intros
  all_goals try (first|trivial|(intros;refine Fy (by assumption) ?_;go_simp <;> rfl))
  intro A f e b g q1 q2 K k;go_simp;refine(fV t H P L Q fa fc f R w (Ab HB.1 b) HZ.1 HA.1 f1 a0).mono ?_;rintro e' m ⟨a,q,rfl,h2,U,_,M⟩;exact k.1 _ _ ⟨M,a,q,rfl,h2,U⟩;intro A f e b g q1 q2 K k;go_simp;refine(fV t H P L Q fa fc f R w (Ab HB.1 b) HZ.1 HA.1 f2 a3).mono ?_;rintro e' m ⟨a,q,rfl,h2,U,_,M⟩;exact k.1 _ _ ⟨M,a,q,rfl,h2,U⟩;intro A f e b g K k;go_simp;exact k.1 _ _ ⟨J _ _,rfl,zh _ _⟩;intro A f e b g K k;go_simp;exact k.1 _ _ ⟨J _ _,rfl,zh _ _⟩;rintro A f e b g ⟨p,h1,_,h2⟩ ⟨a,q,U,M,h5⟩ K k;obtain⟨z0,z1,z2,g0,g1,g2,gl⟩:=gB h2;go_simp;exact k.1 undef _ ⟨p,_,h1,Qz (Qz (Qz (dP p f))),zg (i:=2) (zg (i:=1) (zg (i:=0) h2)),a,q,rfl,M,h5⟩;rintro A f e b g ⟨p,h1,_,h2⟩ ⟨a,q,U,M,h5⟩ K k;obtain⟨z0,z1,z2,g0,g1,g2,gl⟩:=gB h2;go_simp;exact k.1 undef _ ⟨p,_,h1,Qz (Qz (Qz (dP p f))),zg (i:=2) (zg (i:=1) (zg (i:=0) h2)),a,q,rfl,M,h5⟩
 case c1=>kernel_rfl
 intro u f b;simp only[Df,Hu,Act.put,O,↓reduceIte,Nat.reduceEqDiff];rintro⟨p6,_,e6,_,S,d,c1,rfl,S1,N1⟩ ⟨p7,_,e7,_,E7,a2,c2,rfl,S2,N2⟩;rw[e6,e7];replace F:=Ac b F.1;replace G:=Ac b G.1;replace z:=Ac b z.1;have BL:=Ab HB.1 b;clear b HB e6 e7;have b1:(zp t f1).name.size<=maxLen:=by unfold maxLen;omega
 have V:(zp t f1).sh.length<=1000000:=by have:=Vz R f1;omega
 have a4:(zp t f2).sh.length<=1000000:=by have:=Vz R f2;omega
 obtain⟨b2,c0,b3⟩:=b0;have a5:=iI R a0 (x:=x) ⟨b2,by omega⟩;have a6:=iI R a3 (x:=y) ⟨by omega,b3⟩;have a7:=gY (nm:=(zp t f1).name.data.toList) (o:=(zp t f1).off) (l:=(zp t f1).sh) (t:=x);have a8:=gY (nm:=(zp t f2).name.data.toList) (o:=(zp t f2).off) (l:=(zp t f2).sh) (t:=y);rw[<-a5]at a7;rw[<-a6]at a8;clear a5 a6;have S1:=I S1;have S2:=I S2;have F:=I F;have G:=I G;have z:=I z;have S:=I S;have E7:=I E7;have BL:=I BL;have c3:=I R;clear R;have k0:=zw S.1;have k1:=zu S.1;have k2:=zC S.1;have kl:=Ag S.1;have m0:=zw z.1;have m1:=zu z.1;have ml:=Ag z.1;have y5:=Lg G.1;have y6:=Mf G.1;have yl:=Ag G.1;go_wp2_with fail;refine(FX (zp t f1).name (zp t f1).off x y c.nf c.nt (zp t f1).sh d c1 f b1 V (S1.1.below BL.1)).mono ?_;rintro e m ⟨rfl,C⟩;have D:=jT z C;have r:=jT S C;have s:=jT E7 C;have N:=jS BL C;clear C k0 k1 k2 kl m0 m1 ml y5 y6 yl F G z S E7 BL;have k0:=zw r.1;have k1:=zu r.1;have k2:=zC r.1;have kl:=Ag r.1;have j0:=zw s.1;have j1:=zu s.1;have j2:=zC s.1;have jl:=Ag s.1;have m0:=zw D.1;have m1:=zu D.1;have ml:=Ag D.1;have C1:=I (λdd os=>Fa (uD (zp t f2).name (zp t f2).off y (zp t f2).sh a2 c2 (grow (redrawn m dd) os) a4 (S2.1.below (Ab N.1 (bR m dd os)))));have C2:=I (λdd os=>Fa (uD (zp t f1).name (zp t f1).off x (zp t f1).sh d c1 (grow (redrawn m dd) os) V (S1.1.below (Ab N.1 (bR m dd os)))));obtain⟨ni,X⟩:∃n,n=(Jp (zp t f1).name.data.toList (zp t f1).off (zp t f1).sh x y c.nf c.nt).1:=⟨_,rfl⟩;simp only[<-X];have b4:=I X;clear X;go_wp2_with fail;have r0:=cR k0;have r1:=cR k1;have r2:=cR k2;have r3:=cR j0;have r4:=cR j1;have r5:=cR j2;have r6:=cR m0;have r7:=cR m1;refine wRa ?_;repeat (first|go_big_quiet_step (with_reducible first|exact C1.1 _ _|exact C2.1 _ _)|quiet_step (with_reducible first|exact C1.1 _ _|exact C2.1 _ _))
 refine wpQuiet_nil ?_;intro _ b5;obtain⟨⟨dq,E⟩,a9⟩:=b5;subst a9;have b6:=jT D (bR m dq E);have b7:=jT r (bR m dq E);have b8:=jT s (bR m dq E);have Y:=jS N (bR m dq E);clear r0 r1 r2 r3 r4 r5 r6 r7 C1 C2 k0 k1 k2 kl j0 j1 j2 jl m0 m1 ml D r s N;generalize grow (redrawn m dq) E=W3 at*;obtain⟨sh,Z⟩:∃n,n=(Cw (zp t f2).off (zp t f2).sh y-Cw (zp t f1).off (zp t f1).sh x):=⟨_,rfl⟩;simp only[<-Z];have b9:=I Z;have c4:-1680<=sh/\sh<=1680:=by omega
 have c5:IntKind.i64.wrap (-sh)=-sh:=by rw[wI];omega
 have c6:IntKind.i64.wrap (y-x)=y-x:=by rw[wI];omega
 clear Z a7 a8;go_wp2_with fail;refine' Gf [⟨49, [],.kn _⟩,⟨50, [49],.kn _⟩,⟨51, [],.kn _⟩,⟨52, [51],.kn _⟩,⟨53, [50,52],.kn _⟩,⟨54, [],.kn _⟩,⟨55, [],.kn _⟩,⟨56, [],.kn _⟩,⟨57, [56],.kn _⟩,⟨58, [55,57],.kn (Bn (mx sh (-sh)))⟩,⟨59, [],.kn _⟩,⟨60, [],.kn _⟩,⟨61, [60],.kn _⟩,⟨62, [59,61],.kn (Bn (Kt (zp t f1).name.data.toList (zp t f1).off (zp t f1).sh x).2.1)⟩,⟨63, [],.kn _⟩,⟨64, [],.kn _⟩,⟨65, [64],.kn _⟩,⟨66, [63,65],.kn (Bn (Kt (zp t f2).name.data.toList (zp t f2).off (zp t f2).sh y).2.1)⟩,⟨10, [53],.kn _⟩,⟨11, [54],.kn _⟩,⟨12, [58],.kn _⟩,⟨13, [62],.kn _⟩,⟨14, [66],.kn _⟩] [9,15,16,17,18] [10,11,12,13,14] (λ_ h=>aI (Kk (Ac h b6.1)) (aI (gB (Ac h b7.1)) (gB (Ac h b8.1)))) ?h2 ?c2 ?f2
 case h2=>
  intro u;simp only[Df,↓reduceIte,Nat.reduceEqDiff];intros;and_intros
  all_goals try (first|trivial|(intros;refine Fy (by assumption) ?_;go_simp <;> rfl))
  intros;refine Fy (by assumption) ?_;unfold mx;go_simp;split <;> omega;intro A f e b g q1 q2 K k;go_simp;refine(vP (zp t f1) d c1 x f N1 V (S1.1.below (Ab Y.1 b))).mono ?_;rintro e' m ⟨rfl,h⟩;exact k.1 _ _ ⟨h,rfl⟩;intro A f e b g q1 q2 K k;go_simp;refine(vP (zp t f2) a2 c2 y f N2 a4 (S2.1.below (Ab Y.1 b))).mono ?_;rintro e' m ⟨rfl,h⟩;exact k.1 _ _ ⟨h,rfl⟩
 case c2=>kernel_rfl
 intro u w5 b;simp only[Df,Hu,Act.put,O,↓reduceIte,Nat.reduceEqDiff];intro h1 h2 U M h5;go_wp2_with fail;refine bP (v:=fA t c f1 f2 x y) (by simp[results,results118,go_sem,fA,b4.1,b9.1,h1,h2,U,M,h5]) rfl ?_;exact⟨rfl,Ab Y.1 b⟩
theorem RQ:(prog.info? 109).map (λi=>(i.zero,i.size,i.bytes))=some (some (.agg #[.string ByteArray.empty,Bn 0]),2,24):=by kernel_rfl
def Tu(w0:Wd)(N:LB)(q:LI)(e:Ending)(w':Wd):Prop:=∃v base,e=.returned v/\w0.heap.size<=base/\w'.ownsRow base 109 2 v q.length (Lv N q q.length)/\Below w0.heap.size w0 w'
theorem qO(k:Nat)(h0:0<k)(hk:k<4)(q:LI)(qa:Ae)(qc:Nat)(w:Wd)(hq:q.length=(zk k).length)(hI:zW w qa q):Calls prog 104 #[k,.slice qa q.length qc] w (Tu w (zk k) q):=by
 have a4:=dZ k;obtain⟨i0,hi,R,S,T⟩:=info_parts RQ;have HI:=I hI;go_in;go_wp2_with fail;refine(sN k hk w).mono ?_;rintro e s ⟨na,nc,rfl,hA,C⟩;have HN:=I hA;have U:=I (HI.1.below C);have H:=I C;have HO:=I (show s.ownsRow s.heap.size 109 2 Hn 0 (Lv (zk k) q 0) from⟨rfl,.inl ⟨rfl,rfl⟩⟩);go_wp2_with fail;go_loopw [5,7] (λl i wr=>∃(j:Nat) (v:Value),j<=(zk k).length/\i=Bn j/\v=l/\Af (wr.ownsRow s.heap.size 109 2 v j (Lv (zk k) q j))/\Af (Bw s wr)) (λ_ i _=>(zk k).length-(intOf i).toNat);exact⟨0,_,Bg _,rfl,rfl,HO,I (An _ _)⟩;obtain⟨j,v,hj,rfl,rfl,V,n⟩:=hrel;by_cases W:j<(zk k).length
 . have X:j<q.length:=by omega
   obtain⟨b,f,Y,Z,L⟩:=HN.1.cells (by omega);obtain⟨G,c,a0,D,x⟩:=U.1.cells (by omega);have d0:=L j W;have d1:=x j X;subst Y;subst a0;go_wp2_with fail;have d:=I n.1.drew;have E:Af (wr.drew.ownsRow s.heap.size 109 2 v j (Lv (zk k) q j)):=V;have a:wr.drew.cell? (aD b (f+j))=some (.string (Bl (zk k) j))/\wr.drew.cell? (aD G (c+j))=some (Bn (Am q j)):=⟨zD d0 Z d.1,zD d1 D d.1⟩;obtain⟨y,F⟩:∃y,wr.drew=y:=⟨_,rfl⟩;rw[F]at d E a;have a1:=As Z d.1.size;have M:=As D d.1.size;refine Ys (λw'=>w'.cell? (aD b (f+j))=some (.string (Bl (zk k) j))/\w'.cell? (aD G (c+j))=some (Bn (Am q j))) [] (by kernel_rfl) F ?_;refine jV (i:=0) (v:=v) rfl a ?_;try simp only[O]
   refine jV (i:=1) (v:=Hy b f (zk k).length nc) rfl a ?_;try simp only[O]
   refine jV (i:=2) (v:=Bn (j:Int)) rfl a ?_;try simp only[O]
   refine jV (i:=3) (v:=hZ b (f+j)) rfl a ?_;try simp only[O]
   refine jV (i:=4) (v:=.string (Bl (zk k) j)) rfl a ?_;try simp only[O]
   refine jV (i:=5) (v:=Hy G c q.length qc) rfl a ?_;try simp only[O]
   refine jV (i:=6) (v:=Bn (j:Int)) rfl a ?_;try simp only[O]
   refine jV (i:=7) (v:=hZ G (c+j)) rfl a ?_;try simp only[O]
   refine jV (i:=8) (v:=Bn (Am q j)) rfl a ?_;try simp only[O]
   refine yA (i:=9) (v:=.agg #[.string (Bl (zk k) j),(Am q j)]) rfl ?_;try simp only[O]
   refine CW (i:=10) rfl λK hK=>?_;go_simp;refine hK.1 _ _ (λ_ h=>⟨zD h.1 a1 (J y _),zD h.2 M (J y _)⟩) ?_;try simp only[O]
   refine CW (i:=11) rfl λK hK=>?_;refine wp_append_lies _ (Operand.tmp 16) (Operand.tmp 26) 44 rfl s.heap.size 109 i0 (.agg #[.string ByteArray.empty,Bn 0]) 2 24 underlying44 hi R S T rfl (by decide) v j _ rfl (E.1.alloc _) (aD y.heap.size 0) 1 1 [.string (Bl (zk k) j),Bn (Am q j)] rfl rfl (Hh y [.string (Bl (zk k) j),Bn (Am q j)] 109) ?q1 (by decide) ?q2 ?q3 ?q4 _ rfl ?q5
   case q1=>intro u hu;simp at hu;rcases hu with rfl|rfl <;> rfl
   case q2=>unfold maxLen;omega
   case q3=>omega
   case q4=>have:=d.1.size;simp;omega
   intro g a2 w3 B r a3 N;have P:=I (show w3.ownsRow s.heap.size 109 2 (Hy g 0 (j+1) a2) (j+1) (Lv (zk k) q (j+1)) from B);have t:=I ((Ab d.1 (J y (Obj.cells #[.string (Bl (zk k) j),(Am q j)] 109))).grown r (Ab d.1 (J y (Obj.cells #[.string (Bl (zk k) j),(Am q j)] 109))).size (λm hm=>Lt E.1 m hm));have Q:w3.cell? (aD b (f+j))=some (.string (Bl (zk k) j))/\w3.cell? (aD G (c+j))=some (Bn (Am q j)):=⟨(t.1.cell (p:=aD b (f+j)) Z).trans d0,(t.1.cell (p:=aD G (c+j)) D).trans d1⟩;refine hK.1 _ _ (λ_ _=>Q) ?_;try simp only[O]
   refine CW (i:=12) rfl λK hK=>?_;go_simp;refine hK.1 _ _ (λ_ h=>h) ?_;try simp only[O]
   refine zM (by kernel_rfl) ?_;go_wp2;go_roundw;(try((repeat apply eX);refine⟨?_,rfl⟩));exact⟨j+1,_,by omega,by go_num,rfl,P,t⟩;simp[intOf];omega
 obtain rfl:j=(zk k).length:=by omega
 have HR:=I (show wr.ownsRow s.heap.size 109 2 v q.length (Lv (zk k) q q.length) by rw[hq];exact V.1);go_wp2;go_ret;exact⟨v,s.heap.size,rfl,H.1.size,HR.1,Ab H.1 n.1⟩
theorem eO{t:At}(e:zY t=0){m:Nat}(b:m<t.fs.length):Ao (t.ai.map Bh.code) (Aa t.fs m).fq=true/\Ao (t.ai.map Bh.code) (Aa t.fs m).to=true:=by
 have a:=pJ (nH e).2.2 (Aa t.fs m) (by
  unfold Aa
  rw[Cr,Cz b];exact gM b)
 unfold El at a;by_cases c:(Oz (Aa t.fs m).num.data.toList&&Gu (Aa t.fs m).ty.data.toList)=false;rw[iP c]at a;omega;rw[iN c]at a;by_cases d:(Ao (t.ai.map Bh.code) (Aa t.fs m).fq&&Ao (t.ai.map Bh.code) (Aa t.fs m).to)=false;rw[iP d]at a;omega;simpa using d
theorem Yd(a b:Int):mx (a-b) (-(a-b))=mx (b-a) (a-b):=by
 unfold mx;split <;> split <;> omega
theorem UY{t:At}{c:Ad}{d:Ai}(a:zY t=0)(f:Ax c=0)(g:Cc t c d=0):fA t c (Aa t.fs (fstN d)).fq (Aa t.fs (lstN d)).to (Bm t c d).1 (Bm t c d).2=.tuple #[(Zq t c (fstN d) (lstN d)),(Un t c (fstN d) (lstN d)),(Nt t c (fstN d) (lstN d)),(Ov t c (fstN d)),(Mx t c (lstN d))]:=by
 obtain⟨h,b,i,e⟩:=Jl g;have n:=Lu a b;have o:=Lu a e;obtain⟨j,k,_⟩:=Ul f;have p:=oG a f g;have l:(Bm t c d).1=(Aa t.fs (fstN d)).dp-c.rp:=rfl;have m:(Bm t c d).2=(Aa t.fs (lstN d)).ar+c.rl:=rfl;rw[l,m];unfold fA;rw[iI a (eO a b).1 (by omega),iI a (eO a e).2 (by omega),Yd];rfl
theorem yT{t:At}{c:Ad}{d:Ai}(a:zY t=0)(f:Ax c=0)(g:Cc t c d=0):0<=(Bm t c d).1/\(Bm t c d).1<=(Bm t c d).2/\(Bm t c d).2<52596000:=by
 obtain⟨h,b,i,e⟩:=Jl g;have n:=Lu a b;have o:=Lu a e;obtain⟨j,k,_⟩:=Ul f;have p:=oG a f g;have l:(Bm t c d).1=(Aa t.fs (fstN d)).dp-c.rp:=rfl;have m:(Bm t c d).2=(Aa t.fs (lstN d)).ar+c.rl:=rfl;rw[l,m];omega
theorem mS(t:At)(d:Ai)(k:Nat):By t d (k+1)=Jv t d k (Ta t d k (By t d k)):=by
 rw[By];generalize By t d k=s;unfold Jv Ta;by_cases a:(Cm d k).2=true <;> by_cases b:0<k <;> simp only[a,b,if_true,if_false] <;> rfl
theorem mW(l:LB)(j:Nat)(a:j<l.length)(s:BA):Ao (l.take (j+1)) s=(Ao (l.take j) s || (l.getD j ByteArray.empty).toList==s.toList):=by
 rw[show l.take (j+1)=l.take j++ [l[j]] by simp,eN,pE];congr 1;rw[Cr,Cz a];simp only[Option.getD_some];by_cases h:s=l[j];subst h;simp;have b:¬ l[j]=s:=λe=>h e.symm;have:((l[j]).toList==s.toList)=false:=by
  rw[beq_eq_false_iff_ne];intro e;exact b (bD (by rw[e];simp))
 rw[this];simp[h]
theorem aR{t:At}{c:Ad}{d:Ai}(h:Bk t c d=0):zY t=0/\Ax c=0/\Cc t c d=0:=by
 unfold Bk at h;by_cases a:zY t=0;by_cases b:Ax c=0;simp[a,b]at h;exact⟨a,b,h⟩;simp[a,b]at h;simp[a]at h
def ztG(w:Wd)(e:Ending)(w':Wd):Prop:=∃n:Int,e=.returned n/\(Lit.int .i64 n).wf=true/\Below w.heap.size w w'
def ztH(B:Nat)(x:zH):Prop:=∀(a:Ae) (cap:Nat) (w:Wd),B<=w.heap.size->x.args.length<=140737488355328->Et B w a x.args->Calls prog 131 #[.agg #[x.op,x.num,.string x.name,.slice a x.args.length cap]] w (ztG w)
theorem zpi(B:Nat)(o n:Int)(s:BA)(l:List zH)(A:∀k,k<l.length->ztH B (Au l k)):ztH B (.mk o n s l):=by
 intro a f w g D v;simp only[zH.op,zH.num,zH.name,zH.args]at D v ⊢;have E:=I A;have F:=I v;go_enter func131,ntmps131;go_wp2_with fail;have G:=I (J w (Dq o n s a l.length f));have H:=I (zh w (Dq o n s a l.length f));generalize w.alloc (Dq o n s a l.length f)=W at*;go_loopw [3,4] (λm i wr=>∃(k:Nat) (z:Int),k<=l.length/\i=Bn k/\m=Bn z/\(Lit.int .i64 z).wf=true/\Af (wr.heap[w.heap.size]?=some (Dq o n s a l.length f))/\Af (Bw w wr)) (λ_ i _=>l.length-(intOf i).toNat);exact⟨0,1,Bg _,rfl,rfl,by decide,H,G⟩;obtain⟨k,z,U,rfl,rfl,C,u,c⟩:=hrel;have V:=Hk u.1;have X:=Ag u.1;by_cases j:k<l.length
 . by_cases K:z<1000
   . obtain⟨b,L,rfl,Y,p⟩:=F.1.cells (by omega);obtain⟨M,q,x,⟨N,P,Q,R⟩,r,d⟩:=(p.keep (c.1.mono g)).at k j;have t:=I d;have S:b<wr.heap.size:=As x (Bf g c.1.size);go_wp2_with fail;refine(E.1 k j M q wr (Bf g c.1.size) r.2.1 t.1).mono ?_;rintro e Z ⟨m,rfl,hm,h⟩;have y:=jS c h;have T:=I ((h.block _ (Ag u.1)).trans u.1);go_wp2;go_roundw;exact⟨k+1,_,by omega,by go_num,rfl,wrap64_wf _,T,y⟩;simp[intOf];omega
   go_wp2;go_ret;exact⟨_,rfl,C,c.1⟩
 go_wp2;go_ret;exact⟨_,rfl,C,c.1⟩
theorem r_(B:Nat)(x:zH):ztH B x:=by
 obtain⟨m,a⟩:=aT (SizeOf.sizeOf x);induction m using Nat.strongRecOn generalizing x with
 |_ m ih=>
  subst a;obtain⟨o,n,s,l⟩:=x;exact zpi B o n s l λk hk=>ih _ (Rc (x:=.mk o n s l) hk) _ rfl
theorem zom(t:At)(a d fa:Ae)(e f fc:Nat)(w:Wd)(g:t.zn.length<=2^47/\t.ai.length<=2^47/\t.fs.length<=2^47)(o:Al Nc w a t.zn):Calls prog 71 #[Az t a e d f fa fc] w (zkh w):=by
 try delta Ay Az
 have q:=I o;obtain⟨x,y,z⟩:=g;go_in;go_wp2_with fail;have h:=I (J w (Ap t a e d f fa fc));have j:=zh w (Ap t a e d f fa fc);have A:=zw j;have B:=Ag j;generalize w.alloc (Ap t a e d f fa fc)=W at*;go_loop [3,4] (λn i=>∃k m:Nat,k<=t.zn.length/\i=Bn k/\n=Bn m/\m<=422212465066000) (λ_ i=>t.zn.length-(intOf i).toNat);exact⟨0,t.zn.length+t.ai.length+t.fs.length,Bg _,rfl,by go_num,by omega⟩;obtain⟨k,m,C,rfl,rfl,D⟩:=hrel;by_cases l:k<t.zn.length
 . by_cases r:m<1000
   . obtain⟨b,s,rfl,E,c⟩:=dV (q.1.below h.1) (by omega);obtain⟨F,p,G,H,K,L,M,u⟩:=c k l;have v:decide ((m:Int)<1000)=true:=by simp;omega
     go_wp2;go_round;exact⟨k+1,m+(Cg t.zn k).sh.length,by omega,by go_num,by go_num,by omega⟩;simp[intOf];omega
   have v:decide ((m:Int)<1000)=false:=by simp;omega
   go_wp2;go_ret;exact⟨_,rfl,h.1⟩
 go_wp2;go_ret;exact⟨_,rfl,h.1⟩
theorem zon(c:Ad)(p:Bd)(w:Wd)(x:Kb w.heap.size w c p):Calls prog 72 #[Ay c p] w (zkh w):=by
 try delta Ay Az
 have N:=I x;have l7:=x.cs.1;have l8:=x.rs.1;have l9:=x.ks.1;have T:=x.creditN;have U:=x.ls.1;have V:=x.oz.1;clear x;go_enter func72,ntmps72
 go_wp2_with fail;have X:=I (J w (Aj c p));have Y:=I (zh w (Aj c p));have P:(Lit.int .i64 ((c.ls.length:Int)+(c.oz.length:Int))).wf=true:=by simp[Lit.wf,IntKind.min,IntKind.max,IntKind.signed,IntKind.bits];omega
 generalize w.alloc (Aj c p)=W at*;go_loopw [3,4] (λm i wr=>∃(k:Nat) (z:Int),k<=c.cs.length/\i=.int .i64 k/\m=.int .i64 z/\(Lit.int .i64 z).wf=true/\Af (wr.heap[w.heap.size]?=some (Aj c p))/\Af (Bw w wr)) (λ_ i _=>c.cs.length-(intOf i).toNat)
 case atStart=>exact⟨0,_,Bg _,rfl,by go_num,P,Y,X⟩
 obtain⟨k,z,Q,rfl,rfl,v,g,a⟩:=hrel;have u:=Ic g.1;have M:=Ag g.1;by_cases r:k<c.cs.length/\z<3000
 . obtain⟨s,y⟩:=r;obtain⟨b,A,h,B,j⟩:=((N.1.keep a.1).cs).cells (by omega);obtain⟨_,_,C,l,⟨D,E,F,G⟩,n,d⟩:=j k s;have o:=I d;have H:b<wr.heap.size:=As B a.1.size;rw[h]at u;clear j d h;go_wp2_with fail;refine(r_ w.heap.size (Ak c.cs k).ex C l wr a.1.size n.2.1 o.1).mono ?_;rintro e R ⟨m,rfl,S,f⟩;have t:=jS a f;have K:=I ((f.block _ (Ag g.1)).trans g.1);clear f D E F G o u;go_wp2;go_roundw
   case rel=>exact⟨k+1,_,by omega,by go_num,rfl,wrap64_wf _,K,t⟩
   case measure=>simp[intOf];omega
 have q:(k<c.cs.length/\¬ z<3000)\/¬ k<c.cs.length:=by omega
 rcases q with⟨q,L⟩|q <;>
 (
 go_wp2_with fail;go_loopw [3,5] (λm i wr=>∃(k:Nat) (z:Int),k<=c.rs.length/\i=.int .i64 k/\m=.int .i64 z/\(Lit.int .i64 z).wf=true/\Af (wr.heap[w.heap.size]?=some (Aj c p))/\Af (Bw w wr)) (λ_ i _=>c.rs.length-(intOf i).toNat)
 case atStart=>exact⟨0,_,Bg _,rfl,rfl,v,g,a⟩
 case round=>
  clear v g a u M q;obtain⟨k,z,Q,rfl,rfl,v,g,a⟩:=hrel;have u:=Jg g.1;have M:=Ag g.1;by_cases r:k<c.rs.length/\z<3000
  . obtain⟨s,y⟩:=r;obtain⟨b,A,h,B,j⟩:=((N.1.keep a.1).rs).cells (by omega);obtain⟨_,_,_,_,C,l,⟨D,E,F,G⟩,n,d⟩:=j k s;have o:=I d;have H:b<wr.heap.size:=As B a.1.size;rw[h]at u;clear j d h;go_wp2_with fail;refine(r_ w.heap.size (Ah c.rs k).ex C l wr a.1.size n.2.1 o.1).mono ?_;rintro e R ⟨m,rfl,S,f⟩;have t:=jS a f;have K:=I ((f.block _ (Ag g.1)).trans g.1);clear f D E F G o u;go_wp2;go_roundw
    case rel=>exact⟨k+1,_,by omega,by go_num,rfl,wrap64_wf _,K,t⟩
    case measure=>simp[intOf];omega
  have q:(k<c.rs.length/\¬ z<3000)\/¬ k<c.rs.length:=by omega
  rcases q with⟨q,L⟩|q <;>
  (
  go_wp2_with fail;go_loopw [3,6] (λm i wr=>∃(k:Nat) (z:Int),k<=c.ks.length/\i=.int .i64 k/\m=.int .i64 z/\(Lit.int .i64 z).wf=true/\Af (wr.heap[w.heap.size]?=some (Aj c p))/\Af (Bw w wr)) (λ_ i _=>c.ks.length-(intOf i).toNat)
  case atStart=>exact⟨0,_,Bg _,rfl,rfl,v,g,a⟩
  case round=>
   clear v g a u M q;obtain⟨k,z,Q,rfl,rfl,v,g,a⟩:=hrel;have u:=Mg g.1;have M:=Ag g.1;by_cases r:k<c.ks.length/\z<3000
   . obtain⟨s,y⟩:=r;obtain⟨b,A,h,B,j⟩:=((N.1.keep a.1).ks).cells (by omega);obtain⟨_,_,C,l,⟨D,E,F,G⟩,n,d⟩:=j k s;have o:=I d;have H:b<wr.heap.size:=As B a.1.size;rw[h]at u;clear j d h;go_wp2_with fail;refine(r_ w.heap.size (Aq c.ks k).ex C l wr a.1.size n.2.1 o.1).mono ?_;rintro e R ⟨m,rfl,S,f⟩;have t:=jS a f;have K:=I ((f.block _ (Ag g.1)).trans g.1);clear f D E F G o u;go_wp2;go_roundw
     case rel=>exact⟨k+1,_,by omega,by go_num,rfl,wrap64_wf _,K,t⟩
     case measure=>simp[intOf];omega
   have q:(k<c.ks.length/\¬ z<3000)\/¬ k<c.ks.length:=by omega
   rcases q with⟨q,L⟩|q <;>
   (
   go_wp2_with fail;go_loopw [3,7] (λm i wr=>∃(k:Nat) (z:Int),k<=c.xs.length/\i=.int .i64 k/\m=.int .i64 z/\(Lit.int .i64 z).wf=true/\Af (wr.heap[w.heap.size]?=some (Aj c p))/\Af (Bw w wr)) (λ_ i _=>c.xs.length-(intOf i).toNat)
   case atStart=>exact⟨0,_,Bg _,rfl,rfl,v,g,a⟩
   case round=>
    clear v g a u M q;obtain⟨k,z,Q,rfl,rfl,v,g,a⟩:=hrel;have u:=Ol g.1;have M:=Ag g.1;by_cases r:k<c.xs.length/\z<3000
    . obtain⟨s,y⟩:=r;obtain⟨b,A,h,B,j⟩:=((N.1.keep a.1).xs).cells (by omega);obtain⟨C,l,Z,⟨D,E,F,G⟩,n,d⟩:=j.at k s;have o:=I d;have H:b<wr.heap.size:=As B a.1.size;rw[h]at u;clear j d h;go_wp2_with fail;refine(r_ w.heap.size (Au c.xs k) C l wr a.1.size n.2.1 o.1).mono ?_;rintro e R ⟨m,rfl,S,f⟩;have t:=jS a f;have K:=I ((f.block _ (Ag g.1)).trans g.1);clear f D E F G o u;go_wp2;go_roundw
      case rel=>exact⟨k+1,_,by omega,by go_num,rfl,wrap64_wf _,K,t⟩
      case measure=>simp[intOf];omega
    have q:(k<c.xs.length/\¬ z<3000)\/¬ k<c.xs.length:=by omega
    rcases q with⟨q,L⟩|q <;>
    (
    go_wp2;go_ret;exact⟨_,rfl,a.1⟩)
   )
  )
 )
theorem zhE(t:At)(c:Ad)(f:Ae)(m:Nat)(g:Ae)(n:Nat)(fa:Ae)(fc:Nat)(p:Bd)(w:Wd)(E:t.zn.length<=2^47/\t.ai.length<=2^47/\t.fs.length<=2^47)(K:Ea w t c f g fa p):Calls prog 20 #[Az t f m g n fa fc,Ay c p] w (zkh w):=by
 try delta Ay Az
 have L:=I K;go_in;go_wp2_with fail;have h:=I (Ab (J w (Ap t f m g n fa fc)) (J _ (Aj c p)));have F:=I (zd (o':=(Aj c p)) (zh w (Ap t f m g n fa fc)));have D:=I (zh (w.alloc (Ap t f m g n fa fc)) (Aj c p));rw[zr]at D;generalize (w.alloc (Ap t f m g n fa fc)).alloc (Aj c p)=N at*;refine(zom t f g fa m n fc N E (L.1.below h.1).z).mono ?_;rintro e P ⟨Q,rfl,b⟩;have d:=jS h b;have M:=I ((b.block _ (Ag F.1)).trans F.1);have a:=I ((b.block _ (Ag D.1)).trans D.1);have R:=zC M.1;have S:=Ag M.1;cases Q
 . go_wp2;go_ret;exact⟨_,rfl,d.1⟩
 by_cases T:t.fs.length<=12
 . have G:decide ((t.fs.length:Int)<=12)=true:=by simp;omega
   have o:=zw a.1;have q:=zu a.1;have r:=zC a.1;have s:=Hk a.1;have u:=Ks a.1;have v:=Lg a.1;have x:=Mf a.1;have y:=Ic a.1;have A:=Jg a.1;have B:=Mg a.1;have i:=Ol a.1;have j:=Qk a.1;have k:=Qj a.1;have l:=Ui a.1;have U:=Ag a.1;go_wp2_with fail;refine(zon c p P (L.1.below d.1).c).mono ?_;rintro e V ⟨W,rfl,C⟩;have H:=jS d C;go_wp2;go_ret;exact⟨_,rfl,H.1⟩
 have G:decide ((t.fs.length:Int)<=12)=false:=by simp;omega
 go_wp2;go_ret;exact⟨_,rfl,d.1⟩
end Go.Proofs.YtelojoopofolpaaGreat
