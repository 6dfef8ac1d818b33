/- a part of the proof -/
import Derived.Sort.Walk0
import Derived.Test.YtafdcbmgdfliiaaGreatG6
set_option linter.all false
set_option maxRecDepth 100000
set_option maxHeartbeats 3000000
namespace Go.Proofs.YtafdcbmgdfliiaaGreat
open Go.RowKit Go.Sort Go.Proofs.Tryz
variable {f g:Ft}{s:BA}{w:Wd}
theorem zr0{a b:List UInt8}(e:Op.bytesLess a b=false)(f:(a==b)=false):Op.bytesLess b a=true:=by
 grind[bytesLess_eq]
theorem RC{a b:List UInt8}(h:Op.bytesLess a b=true\/(a==b)=true):Op.bytesLess b a=false:=by
 grind[bytesLess_eq]
theorem wZ(h:f.dp=g.dp):Oq f g=Op.bytesLess f.num.toList g.num.toList:=by grind[Oq]
theorem wY(h:¬ f.dp=g.dp):Oq f g=decide (f.dp<g.dp):=by grind[Oq]
def Mi(t:At):LB:=t.ai.map Bh.code
def Kj(t:At)(i:Nat):Int:=if El (Mi t) (Aa t.fs i)≠0 then El (Mi t) (Aa t.fs i) else if 0<i/\Oq (Aa t.fs (i-1)) (Aa t.fs i)=false then 8 else 0
theorem Td{t:At}{i:Nat}{n:Int}(h:El (Mi t) (Aa t.fs i)=n)(a:n≠0):Kj t i=n:=by
 grind[Kj]
theorem zsn{t:At}(h:Nd t.ai s<0):Ao (Mi t) s=false:=by
 rw[Mi,<-bN Bh.code s 0];grind[Nd]
theorem kF{t:At}(h:¬ Nd t.ai s<0):Ao (Mi t) s=true:=by
 grind[Mi,bN,Nd]
def LM(t:At)(F k fa:Ae)(G l fc:Nat)(w:Wd)(f:t.ai.length<=2^47)(Q:Al Mk w k t.ai)(R:Al Hi w fa t.fs)(i:Nat)(V:i<t.fs.length)(W:t.fs.length<=2^47):
 CV 205 #[Az t F G k l fa fc,i] w (Kj t i):=by
 try delta Ay Az
 obtain⟨b,y,rfl,X,u⟩:=Qg R (by omega);have⟨⟨d0,d1,d2,d3,d4,d5,d6,d7,d8⟩,p,h2,h3,m⟩:=u i V;have H:=I u;replace m:(Aa t.fs i).ty.size<=maxLen:=by unfold maxLen;omega
 have a:=I (Ab (J w (Ap t F G k l (some (aD b y)) fc)) (J _ (oW (Aa t.fs i))));have g:=I (Q.below a.1);cases S:Oz (Aa t.fs i).num.data.toList
 . have d:=I (Td (t:=t) (i:=i) (n:=1) (by simp[El,S]) (by decide));delta CV;go_in;go_wp2_with (first|(go_at_call 253;refine cb (Tf _ _ p) ?_)|(go_at_call 248;refine cb (zU _ _ m) ?_)|(go_at_call 74;refine cb (Pf t.ai _ k l _ g.1 f) ?_));go_ret;exact hU d a
 cases T:Gu (Aa t.fs i).ty.data.toList
 . have d:=I (Td (t:=t) (i:=i) (n:=1) (by simp[El,T]) (by decide));delta CV;go_in;go_wp2_with (first|(go_at_call 253;refine cb (Tf _ _ p) ?_)|(go_at_call 248;refine cb (zU _ _ m) ?_)|(go_at_call 74;refine cb (Pf t.ai _ k l _ g.1 f) ?_));go_ret;exact hU d a
 have z:=I (show El (Mi t) (Aa t.fs i)=if(Ao (Mi t) (Aa t.fs i).fq&&Ao (Mi t) (Aa t.fs i).to)=false then 6 else if((Aa t.fs i).fq.toList==(Aa t.fs i).to.toList)=true then 14 else if Pj (Aa t.fs i)=false then 5 else if(Dx (Aa t.fs i).n0&&Dx (Aa t.fs i).n1&&Dx (Aa t.fs i).n2)=false then 5 else 0 by simp[El,S,T]);by_cases K:Nd t.ai (Aa t.fs i).fq<0
 . have d:=I (Td (t:=t) (i:=i) (n:=6) (z.1.trans (by simp[zsn K])) (by decide));delta CV;go_in;go_wp2_with (first|(go_at_call 253;refine cb (Tf _ _ p) ?_)|(go_at_call 248;refine cb (zU _ _ m) ?_)|(go_at_call 74;refine cb (Pf t.ai _ k l _ g.1 f) ?_));go_ret;exact hU d a
 by_cases L:Nd t.ai (Aa t.fs i).to<0
 . have d:=I (Td (t:=t) (i:=i) (n:=6) (z.1.trans (by simp[zsn L])) (by decide));delta CV;go_in;go_wp2_with (first|(go_at_call 253;refine cb (Tf _ _ p) ?_)|(go_at_call 248;refine cb (zU _ _ m) ?_)|(go_at_call 74;refine cb (Pf t.ai _ k l _ g.1 f) ?_));go_ret;exact hU d a
 cases U:((Aa t.fs i).fq.toList==(Aa t.fs i).to.toList)
 case true=>
  have d:=I (Td (t:=t) (i:=i) (n:=14) (z.1.trans (by simp[kF K,kF L,U])) (by decide));delta CV;go_in;go_wp2_with (first|(go_at_call 253;refine cb (Tf _ _ p) ?_)|(go_at_call 248;refine cb (zU _ _ m) ?_)|(go_at_call 74;refine cb (Pf t.ai _ k l _ g.1 f) ?_));go_ret;exact hU d a
 have v:Af (El (Mi t) (Aa t.fs i)=if Pj (Aa t.fs i)=false then 5 else if(Dx (Aa t.fs i).n0&&Dx (Aa t.fs i).n1&&Dx (Aa t.fs i).n2)=false then 5 else 0):=I (z.1.trans (by rw[kF K,kF L,U];rfl));cases x:Pj (Aa t.fs i)
 . have d:=I (Td (t:=t) (i:=i) (n:=5) (v.1.trans (by rw[x];rfl)) (by decide));have M:¬ (2880<=(Aa t.fs i).dp/\(Aa t.fs i).ar<=52593120/\(Aa t.fs i).dp<(Aa t.fs i).ar/\(Aa t.fs i).ar-(Aa t.fs i).dp<=1440):=by simpa[Pj] using x
   by_cases Y:(Aa t.fs i).dp<2880
   . skip;delta CV;go_in;go_wp2_with (first|(go_at_call 253;refine cb (Tf _ _ p) ?_)|(go_at_call 248;refine cb (zU _ _ m) ?_)|(go_at_call 74;refine cb (Pf t.ai _ k l _ g.1 f) ?_));go_ret;exact hU d a
   by_cases Z:52593120<(Aa t.fs i).ar
   . skip;delta CV;go_in;go_wp2_with (first|(go_at_call 253;refine cb (Tf _ _ p) ?_)|(go_at_call 248;refine cb (zU _ _ m) ?_)|(go_at_call 74;refine cb (Pf t.ai _ k l _ g.1 f) ?_));go_ret;exact hU d a
   by_cases t3:(Aa t.fs i).ar<=(Aa t.fs i).dp
   . skip;delta CV;go_in;go_wp2_with (first|(go_at_call 253;refine cb (Tf _ _ p) ?_)|(go_at_call 248;refine cb (zU _ _ m) ?_)|(go_at_call 74;refine cb (Pf t.ai _ k l _ g.1 f) ?_));go_ret;exact hU d a
   have t4:1440<(Aa t.fs i).ar-(Aa t.fs i).dp:=by omega
   delta CV;go_in;go_wp2_with (first|(go_at_call 253;refine cb (Tf _ _ p) ?_)|(go_at_call 248;refine cb (zU _ _ m) ?_)|(go_at_call 74;refine cb (Pf t.ai _ k l _ g.1 f) ?_));go_ret;exact hU d a
 have r:Af (El (Mi t) (Aa t.fs i)=if(Dx (Aa t.fs i).n0&&Dx (Aa t.fs i).n1&&Dx (Aa t.fs i).n2)=false then 5 else 0):=I (v.1.trans (by rw[x];rfl));obtain⟨Y,Z,t3,t4⟩:2880<=(Aa t.fs i).dp/\(Aa t.fs i).ar<=52593120/\(Aa t.fs i).dp<(Aa t.fs i).ar/\(Aa t.fs i).ar-(Aa t.fs i).dp<=1440:=by simpa[Pj] using x
 delta CV;go_in;go_wp2_with (first|(go_at_call 253;refine cb (Tf _ _ p) ?_)|(go_at_call 248;refine cb (zU _ _ m) ?_)|(go_at_call 74;refine cb (Pf t.ai _ k l _ g.1 f) ?_));go_loop [6] (λq=>q=Bn 0\/(q=Bn 1/\Dx (Aa t.fs i).n0=true)\/(q=Bn 2/\Dx (Aa t.fs i).n0=true/\Dx (Aa t.fs i).n1=true)\/(q=Bn 3/\Dx (Aa t.fs i).n0=true/\Dx (Aa t.fs i).n1=true/\Dx (Aa t.fs i).n2=true)) (λq=>(3-intOf q).toNat)
 case atStart=>exact .inl rfl
 rcases hrel with rfl|⟨rfl,A⟩|⟨rfl,A,N⟩|⟨rfl,A,N,n2⟩
 . cases o:Dx (Aa t.fs i).n0
   . have d:=I (Td (t:=t) (i:=i) (n:=5) (r.1.trans (by rw[o];simp)) (by decide));have M:¬ (0<=(Aa t.fs i).n0/\(Aa t.fs i).n0<=8):=by simpa[Dx] using o
     by_cases B:(Aa t.fs i).n0<0
     . go_wp2;go_ret;exact hU d a
     have C:8<(Aa t.fs i).n0:=by omega
     go_wp2;go_ret;exact hU d a
   obtain⟨B,C⟩:0<=(Aa t.fs i).n0/\(Aa t.fs i).n0<=8:=by simpa[Dx] using o
   go_wp2;go_round
   case rel=>exact(.inr (.inl ⟨rfl,trivial⟩))
   case measure=>simp[intOf]
 . cases o:Dx (Aa t.fs i).n1
   . have d:=I (Td (t:=t) (i:=i) (n:=5) (r.1.trans (by rw[o];simp)) (by decide));have M:¬ (0<=(Aa t.fs i).n1/\(Aa t.fs i).n1<=8):=by simpa[Dx] using o
     by_cases B:(Aa t.fs i).n1<0
     . go_wp2;go_ret;exact hU d a
     have C:8<(Aa t.fs i).n1:=by omega
     go_wp2;go_ret;exact hU d a
   obtain⟨B,C⟩:0<=(Aa t.fs i).n1/\(Aa t.fs i).n1<=8:=by simpa[Dx] using o
   go_wp2;go_round
   case rel=>exact(.inr (.inr (.inl ⟨rfl,A,trivial⟩)))
   case measure=>simp[intOf]
 . cases o:Dx (Aa t.fs i).n2
   . have d:=I (Td (t:=t) (i:=i) (n:=5) (r.1.trans (by rw[o];simp)) (by decide));have M:¬ (0<=(Aa t.fs i).n2/\(Aa t.fs i).n2<=8):=by simpa[Dx] using o
     by_cases B:(Aa t.fs i).n2<0
     . go_wp2;go_ret;exact hU d a
     have C:8<(Aa t.fs i).n2:=by omega
     go_wp2;go_ret;exact hU d a
   obtain⟨B,C⟩:0<=(Aa t.fs i).n2/\(Aa t.fs i).n2<=8:=by simpa[Dx] using o
   go_wp2;go_round
   case rel=>exact(.inr (.inr (.inr ⟨rfl,A,N,trivial⟩)))
   case measure=>simp[intOf]
 have D:Af (El (Mi t) (Aa t.fs i)=0):=I (r.1.trans (by rw[A,N,n2];rfl));by_cases P:i=0
 . subst P;have d:=I (show Kj t 0=0 by unfold Kj;rw[iN (by rw[D.1];simp),iN (by simp)]);go_wp2;go_ret;exact hU d a
 have a0:0<i:=by omega
 obtain⟨j,rfl⟩:∃j,i=j+1:=⟨i-1,by omega⟩;have⟨⟨p0,p1,p2,p3,p4,p5,p6,p7,p8⟩,_⟩:=(H.1.below X a.1) j (by omega);have E:=I (show Kj t (j+1)=if Oq (Aa t.fs j) (Aa t.fs (j+1))=false then 8 else 0 by unfold Kj;rw[iN (by rw[D.1];simp),Nat.add_sub_cancel];simp);have a1:((j+1:Nat):Int)-1=(j:Int):=by omega
 have s:=I (λo1 o2=>Ab (Ab (J w (Ap t F G k l (some (aD b y)) fc)) (J _ o1)) (J _ o2));go_wp2_with fail
 . next q1 q2 q3 _=>
   go_ret;exact⟨ze (by rw[E.1,wZ q2.symm,iP (RC q3)]),s.1 _ _⟩
 . next q1 q2 q3 _=>
   go_ret;exact⟨ze (by rw[E.1,wZ q2.symm,iN (by rw[zr0 q3.1 q3.2];simp)]),s.1 _ _⟩
 . next q1 q2 q3 _=>
   go_ret;exact⟨ze (by rw[E.1,wY (λh=>q2 h.symm),iN (by simp;omega)]),s.1 _ _⟩
 next _ q1=>
 go_ret;exact⟨ze (by rw[E.1,wY (by omega),iP (by simp;omega)]),s.1 _ _⟩
theorem Al.take{A:Type}{r:RT A}{a:Ae}{l:List A}(h:Al r w a l)(k:Nat):Al r w a (l.take k):=by
 rcases h with rfl|⟨b,c,e,f,g⟩;exact .inl (by simp);refine .inr ⟨b,c,e,f,λi hi=>?_⟩;have d:i<l.length:=by rw[List.length_take]at hi;omega
 simp_all
theorem nE(t:At):∀(m k:Nat),k+m=t.fs.length->Dw (Mi t) (Tm t.fs k) (t.fs.drop k)=Av (Kj t) k m
 |0,k,h=>by
  grind[Dw,Av]
 |m+1,k,h=>by
  have c:k<t.fs.length:=by omega
  rw[Av];by_cases a:El (Mi t) (Aa t.fs k)≠0
  . grind[xW,Kj]
  have b:El (Mi t) (Aa t.fs k)=0:=Classical.not_not.1 a;cases k with
  |zero=>
   have e:Kj t 0=0:=by unfold Kj;rw[iN a,iN (by simp)]
   rw[e,iN (by simp),vX c b];exact nE t m 1 (by omega)
  |succ k=>
   cases d:Oq (Aa t.fs k) (Aa t.fs (k+1))
   . grind[Kj,xV]
   have e:Kj t (k+1)=0:=by unfold Kj;rw[iN a,iN (by simp_all)]
   rw[e,iN (by simp),AF c b d];exact nE t m (k+1+1) (by omega)
def Calls.still{f:Nat}{a:Array Value}{r:Ending}(h:Calls prog f a w λe w'=>e=r/\w=w'):Calls prog f a w λe w'=>e=r/\Bw w w':=h.mono λe w' h=>⟨h.1,h.2 ▸ An _ _⟩
def GM(s:BA)(o:Int)(l:List (Int×Int))(a:Ae)(cap:Nat)(w:Wd)(d:s.size<=maxLen)(k:l.length<=2^47)(h:Cj w a l):
 CV 202 #[.agg #[B_ s,o,CU a l.length cap]] w (zG s.data.toList o l):=by
 by_cases i:l.length<=1000000;exact gG s o l a cap w d i h;have j:16<l.length:=by omega
 cases f:Gu s.data.toList
 . have c:Af (zG s.data.toList o l=1):=I (by simp[zG,f]);delta CV;go_in;go_wp2_with (first|(go_at_call 248;refine cb (zU _ _ d) ?_)|(go_at_call 250;refine cb (Oh _ _) ?_));go_ret;exact⟨ze c.1.symm,(An _ _).alloc (Bv _) _⟩
 cases g:Dr o
 . have c:Af (zG s.data.toList o l=5):=I (by simp[zG,f,g]);delta CV;go_in;go_wp2_with (first|(go_at_call 248;refine cb (zU _ _ d) ?_)|(go_at_call 250;refine cb (Oh _ _) ?_));go_ret;exact⟨ze c.1.symm,(An _ _).alloc (Bv _) _⟩
 have c:Af (zG s.data.toList o l=10):=I (by simp[zG,f,g,j]);delta CV;go_in;go_wp2_with (first|(go_at_call 248;refine cb (zU _ _ d) ?_)|(go_at_call 250;refine cb (Oh _ _) ?_));go_ret;exact⟨ze c.1.symm,(An _ _).alloc (Bv _) _⟩
def GO(t:At)(B D fa:Ae)(s u fc:Nat)(w:Wd)(a3:t.zn.length<=s/\s<=2^47/\t.ai.length<=u/\u<=2^47)(hz:Al Nc w B t.zn)(ha:Al Mk w D t.ai)(hf:Al Hi w fa t.fs):
 CV 126 #[Az t B s D u fa fc] w (zY t):=by
 try delta Ay Az
 by_cases g1:16<t.zn.length
 . have H:Af (zY t=10):=I (iP (.inl g1));delta CV;go_in;go_wp2;go_ret;exact⟨ze H.1.symm,J _ _⟩
 by_cases g2:64<t.ai.length
 . have H:Af (zY t=10):=I (iP (.inr (.inl g2)));delta CV;go_in;go_wp2;go_ret;exact⟨ze H.1.symm,J _ _⟩
 by_cases g3:200<t.fs.length
 . have H:Af (zY t=10):=I (iP (.inr (.inr g3)));delta CV;go_in;go_wp2;go_ret;exact⟨ze H.1.symm,J _ _⟩
 have H:zY t=if(Ca [] t.zn).1≠0 then(Ca [] t.zn).1
  else if(Cb (Ca [] t.zn).2 [] t.ai).1≠0 then(Cb (Ca [] t.zn).2 [] t.ai).1
  else Dw (Cb (Ca [] t.zn).2 [] t.ai).2 none t.fs:=iN (by omega)
 have Hv:=I H;clear H;have HZ:=I hz;have HA:=I ha;have HF:=I hf;clear hz ha hf;delta CV;go_in;go_wp2_with fail;have HT:=I (Gm.new w B D fa t.zn.length s t.ai.length u t.fs.length fc);have HB:=I (J w (Ap t B s D u fa fc));generalize w.alloc (Ap t B s D u fa fc)=W at*;go_loopw [3] (λi wr=>∃(k:Nat),k<=t.zn.length/\i=Bn k/\Af (Ca [] t.zn=Ca ((t.zn.take k).map Cy.name) (t.zn.drop k))/\Af (Gm wr w.heap.size B t.zn.length s D t.ai.length u fa t.fs.length fc)/\Af (Bw w wr)) (λi _=>t.zn.length-(intOf i).toNat);exact⟨0,Bg _,rfl,I rfl,HT,HB⟩;clear HT HB;obtain⟨k,hk,rfl,a,h,c⟩:=hrel;have K:=h.1.2.1;have L:=h.1.1;by_cases d:k<t.zn.length
 . have⟨b,M,N,X,v⟩:=dV (HZ.1.below c.1) (by omega);have⟨sa,a4,c1,c2,c3,Y,s2,s3⟩:=v k d;rw[N]at K;have S3:=I s3;clear s3 v;replace Y:(Cg t.zn k).name.size<=maxLen:=by unfold maxLen;omega
   have a5:b<wr.heap.size:=X;go_wp2_with fail;refine ca (GM _ _ _ _ _ _ Y s2 S3.1) λp j=>?_;have q:=I (Ab c.1 j);have n:=I (h.1.below j);have ez:zG (Cg t.zn k).name.data.toList (Cg t.zn k).off (Cg t.zn k).sh=Fv (Cg t.zn k):=rfl;simp only[ez];by_cases E:Fv (Cg t.zn k)=0
   . have P:(t.zn.take k).length=k:=by rw[List.length_take];omega
     have F:=I (λdd os=>Fa (Calls.still (nD (t.zn.take k) (Cg t.zn k).name (some (aD b M)) s (grow (redrawn p dd) os) (((N ▸ (HZ.1.below q.1)).take k).below (bR p dd os)) (by omega))));rw[P]at F;have V:=n.1.2.1;have xl:=n.1.1;rw[N]at V;have y0:=zj c1 X j;have yl:b<p.heap.size:=As X j.size;rw[E];clear j c1 c2 c3 S3 ez;go_wp2_with fail;have r0:=cR V;have r1:=cR y0;refine SY ?_;repeat go_big_quiet_step (with_reducible exact F.1 _ _)
     refine wpQuiet_nil ?_;intro _ Q;obtain⟨⟨C,l⟩,x⟩:=Q;subst x;have o:=I (Ab q.1 (bR p C l));have r:=I (n.1.below (bR p C l));clear r0 r1 F V y0;generalize grow (redrawn p C) l=W2 at*;have g:=bN Cy.name (Cg t.zn k).name 0 (t.zn.take k);by_cases R:0<=Zj (t.zn.take k) (Cg t.zn k).name
     . have f:=I (a.1.trans (xQ d E (by rw[<-g];exact decide_eq_true R)));have y:Af (zY t=7):=I (Hv.1.trans (by rw[f.1];rfl));clear g;go_wp2;go_ret;exact hU y o
     have f:=I (a.1.trans (AE d E (by rw[<-g];exact decide_eq_false R)));clear g;go_wp2;go_roundw;exact⟨k+1,by omega,by go_num,I (by rw[zo9 _ _ d,Ii];exact f.1),r,o⟩;simp[intOf];omega
   have f:=I (a.1.trans (xR d E));have y:Af (zY t=Fv (Cg t.zn k)):=I (Hv.1.trans (by rw[f.1];exact iP E));clear j c1 c2 c3 S3 ez;go_wp2;go_ret;exact hU y q
 obtain rfl:k=t.zn.length:=by omega
 have z:Ca [] t.zn=(0,t.zn.map Cy.name):=a.1.trans (by rw[Gk,List.take_length];rfl);have A:Af (zY t=if(Cb (t.zn.map Cy.name) [] t.ai).1≠0 then(Cb (t.zn.map Cy.name) [] t.ai).1 else Dw (Cb (t.zn.map Cy.name) [] t.ai).2 none t.fs):=I (Hv.1.trans (by rw[z];exact iN (by simp)));clear z Hv a hk d;have K:=h.1.2.1;have S:=h.1.2.2.1;have Z:=h.1.2.2.2;have L:=h.1.1;go_wp2_with fail;clear K S Z L;go_loopw [5] (λi wr=>∃(k:Nat),k<=t.ai.length/\i=Bn k/\Af (Cb (t.zn.map Cy.name) [] t.ai=Cb (t.zn.map Cy.name) ((t.ai.take k).map Bh.code) (t.ai.drop k))/\Af (Gm wr w.heap.size B t.zn.length s D t.ai.length u fa t.fs.length fc)/\Af (Bw w wr)) (λi _=>t.ai.length-(intOf i).toNat);exact⟨0,Bg _,rfl,I rfl,h,c⟩;clear h c;obtain⟨k,hk,rfl,a,h,c⟩:=hrel;have S:=h.1.2.2.1;have L:=h.1.1;by_cases d:k<t.ai.length
 . have⟨b,M,T,X,v⟩:=eF (HA.1.below c.1) (by omega);have⟨c1,c2,Y,s2⟩:=v k d;rw[T]at S;have a0:=I T;clear v T;have U:=I (Ab c.1 (J wr (oA (Ct t.ai k))));cases R:Eo (Ct t.ai k).code.data.toList
   . have f:=I (a.1.trans (yC d R));have y:Af (zY t=1):=I (A.1.trans (by rw[f.1];rfl));go_wp2_with (go_at_call 204;refine cb (sT _ _ Y) ?_);go_ret;exact hU y U
   have P:(t.ai.take k).length=k:=by rw[List.length_take];omega
   have n:=I (h.1.below (J wr (oA (Ct t.ai k))));have G:=zh wr (oA (Ct t.ai k));have V:=zw G;have x1:=zu G;have xl:=Ag G;have a6:b<(wr.alloc (oA (Ct t.ai k))).heap.size:=Nat.lt_trans X xl;clear G;go_wp2_with (go_at_call 204;refine cb (sT _ _ Y) ?_);generalize wr.alloc (oA (Ct t.ai k))=p at*;have F:=I (λdd os=>Fa (Calls.still (Pf (t.ai.take k) (Ct t.ai k).code (some (aD b M)) u (grow (redrawn p dd) os) (((a0.1 ▸ (HA.1.below U.1)).take k).below (bR p dd os)) (by omega))));rw[P]at F;have z1:=n.1.2.2.1;have zl:=n.1.1;rw[a0.1]at z1;have r0:=cR z1;have r1:=cR V;refine SY ?_;repeat go_big_quiet_step (with_reducible exact F.1 _ _)
   refine wpQuiet_nil ?_;intro _ Q;obtain⟨⟨C,l⟩,x⟩:=Q;subst x;have o:=I (Ab U.1 (bR p C l));have r:=I (n.1.below (bR p C l));have y1:=cR x1 C l;have yl:wr.heap.size<(grow (redrawn p C) l).heap.size:=As xl (bR p C l).size;clear r0 r1 F V x1 z1 zl;generalize grow (redrawn p C) l=W2 at*;have g:=bN Bh.code (Ct t.ai k).code 0 (t.ai.take k);by_cases e2:0<=Nd (t.ai.take k) (Ct t.ai k).code
   . have f:=I (a.1.trans (xZ d R (by rw[<-g];exact decide_eq_true e2)));have y:Af (zY t=7):=I (A.1.trans (by rw[f.1];rfl));clear g;go_wp2;go_ret;exact hU y o
   have a1:=I (show Ao ((t.ai.take k).map Bh.code) (Ct t.ai k).code=false by rw[<-g];exact decide_eq_false e2);clear g;have g:=bN Cy.name (Ct t.ai k).zone 0 t.zn;have p0:=r.1.2.1;have pl:=r.1.1;go_wp2_with fail;refine cb (nD t.zn (Ct t.ai k).zone B s _ (HZ.1.below o.1) (by omega)) ?_;by_cases e3:Zj t.zn (Ct t.ai k).zone<0
   . have f:=I (a.1.trans (xY d R a1.1 (by rw[<-g];simpa[Zj] using e3)));have y:Af (zY t=6):=I (A.1.trans (by rw[f.1];rfl));clear g;go_wp2;go_ret;exact hU y o
   have f:=I (a.1.trans (zoZ d R a1.1 (by rw[<-g];simpa[Zj] using e3)));clear g;go_wp2;go_roundw;have m:=I (show Cb (t.zn.map Cy.name) [] t.ai=Cb (t.zn.map Cy.name) ((t.ai.take (k+1)).map Bh.code) (t.ai.drop (k+1)) by rw[zpe _ _ d,Ii];exact f.1);first|exact⟨k+1,by omega,by go_num,m,r,o⟩|((repeat apply eX);exact⟨⟨k+1,by omega,by go_num,m,r,o⟩,rfl⟩)
   simp[intOf];omega
 obtain rfl:k=t.ai.length:=by omega
 have z:Cb (t.zn.map Cy.name) [] t.ai=(0,Mi t):=a.1.trans (by rw[Gk,List.take_length];rfl);have a2:Af (zY t=Av (Kj t) 0 t.fs.length):=I (A.1.trans (by rw[z];exact(iN (by simp)).trans (nE t t.fs.length 0 (by omega))));clear z A a hk d;have K:=h.1.2.1;have S:=h.1.2.2.1;have Z:=h.1.2.2.2;have L:=h.1.1;go_wp2_with fail;clear K S Z L;go_loopw [7] (λi wr=>∃(k:Nat),k<=t.fs.length/\i=Bn k/\Af (zY t=Av (Kj t) k (t.fs.length-k))/\Af (Gm wr w.heap.size B t.zn.length s D t.ai.length u fa t.fs.length fc)/\Af (Bw w wr)) (λi _=>t.fs.length-(intOf i).toNat);exact⟨0,Bg _,rfl,a2,h,c⟩;clear h c;obtain⟨k,hk,rfl,a,h,c⟩:=hrel;have K:=h.1.2.1;have S:=h.1.2.2.1;have Z:=h.1.2.2.2;have L:=h.1.1;by_cases d:k<t.fs.length
 . have f:=I (a.1.trans (show Av (Kj t) k (t.fs.length-k)=if Kj t k≠0 then Kj t k else Av (Kj t) (k+1) (t.fs.length-(k+1)) by rw[show t.fs.length-k=(t.fs.length-(k+1))+1 by omega,Av]));clear a;go_wp2_with fail;refine ca (LM t B D fa s u fc _ (by omega) (HA.1.below c.1) (HF.1.below c.1) k d (by omega)) λp j=>?_;have q:=I (Ab c.1 j);have n:=I (h.1.below j);clear j K S Z L;by_cases E:Kj t k=0
   . have m:=I (f.1.trans (iN (by simpa using E)));rw[E];go_wp2;go_roundw;exact⟨k+1,by omega,by go_num,m,n,q⟩;simp[intOf];omega
   have m:=I (f.1.trans (iP E));go_wp2;go_ret;exact hU m q
 obtain rfl:k=t.fs.length:=by omega
 have y:Af (zY t=0):=I (a.1.trans (by rw[Nat.sub_self,Av]));go_wp2;go_ret;exact hU y c
