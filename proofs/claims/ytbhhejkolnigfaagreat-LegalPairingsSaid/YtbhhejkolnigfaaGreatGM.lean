/- a part of the proof -/
import Derived.Test.YtbhhejkolnigfaaGreatGL
import Derived.Test.YtbhhejkolnigfaaGreatGJ
set_option linter.unusedVariables false
set_option linter.unusedSimpArgs false
set_option maxRecDepth 100000
set_option maxHeartbeats 51200000
namespace Go.Proofs.YtbhhejkolnigfaaGreat
open Go.RowKit Go.Sort Go.Proofs.Tryz
def arIx(l:List (ByteArray×Int))(s:ByteArray):Int:=ixF Prod.fst s 0 l
theorem zoP(s:ByteArray):∀(N:List ByteArray) (q:List Int),q.length=N.length->(N.zip q).findIdx? (λx=>decide (x.1=s))=wi N s
 |[], [],_=>rfl
 |[],y::q,h=>by simp at h
 |x::N, [],h=>by simp at h
 |x::N,y::q,h=>by
  have a:=zoP s N q (by simpa using h);unfold wi at a ⊢
  rw[List.zip_cons_cons,List.findIdx?_cons,List.findIdx?_cons,a]
theorem zns{N:List ByteArray}{q:List Int}(s:ByteArray)(h:q.length=N.length):arIx (N.zip q) s=match wi N s with|some i=>(i:Int)|none=>-1:=by
 unfold arIx
 rw[zmg,zoP s N q h];cases wi N s with
 |none=>rfl
 |some i=>simp
theorem znt{N:List ByteArray}{q:List Int}(h:q.length=N.length){i:Nat}(b:i<q.length):arAt (N.zip q) i=(sAt N i,iAt q i):=by
 have c:i<N.length:=by omega
 have a:(N.zip q)[i]?=some (N[i],q[i]):=List.getElem?_zip_eq_some.2 ⟨zt1 c,zt1 b⟩;unfold arAt sAt iAt
 rw[zt0,zt0,zt0,a,zt1 c,zt1 b];rfl
theorem zr2{l:List (ByteArray×Int)}{s:ByteArray}{k:Nat}(h:k<l.length)(e:(arAt l k).1=s):ixF Prod.fst s k (l.drop k)=k:=by rw[zka l k h,ixF,if_pos e]
theorem ztr{l:List (ByteArray×Int)}{s:ByteArray}{k:Nat}(h:k<l.length)(e:¬ (arAt l k).1=s):ixF Prod.fst s k (l.drop k)=ixF Prod.fst s (k+1) (l.drop (k+1)):=by rw[zka l k h,ixF,if_neg e]
theorem zli(l:List (ByteArray×Int))(s:ByteArray)(a:zua)(cap:Nat)(w:World)(h:zcs w a l)(o:l.length<=140737488355328):Calls prog 116 #[.slice a l.length cap,.string s] w λe w'=>e=.returned (arIx l s)/\w=w':=by
 have j:=I h;clear h;go_enter func116,ntmps116
 go_wp2_with fail;go_loop [5] (λi=>∃k:Nat,k<=l.length/\i=.int .i64 k/\ztR (arIx l s=ixF Prod.fst s k (l.drop k))) (λi=>l.length-(intOf i).toNat)
 case atStart=>exact⟨0,ztX _,rfl,I rfl⟩
 obtain⟨k,p,rfl,g⟩:=hrel;by_cases c:k<l.length
 . obtain⟨b,m,rfl,q,d⟩:=j.1.cells (by omega);have r:=(d k c).1;clear d;by_cases e:(arAt l k).1=s
   . have n:((arAt l k).1.toList==s.toList)=true:=by rw[zV];simpa using e
     have f:=I (g.1.trans (zr2 c e));clear e;go_wp2_with fail;go_ret;exact⟨ze f.1.symm,rfl⟩
   have n:((arAt l k).1.toList==s.toList)=false:=by rw[zV];simpa using e
   have f:=I (g.1.trans (ztr c e));clear e;go_wp2_with fail;go_round
   case rel=>exact⟨k+1,by omega,by go_num,f⟩
   case measure=>simp[intOf];omega
 have f:=I (g.1.trans (show ixF Prod.fst s k (l.drop k)=-1 by rw[List.drop_of_length_le (by omega)];rfl));obtain rfl:k=l.length:=by omega
 go_wp2_with fail;go_ret;exact⟨ze f.1.symm,rfl⟩
theorem zcs.of_own{w:World}{b:Nat}{v:Value}{N:List ByteArray}{q:List Int}(h:w.ownsRow b 79 2 v q.length (zbL N q q.length))(m:q.length=N.length):∃a c,v=.slice a q.length c/\zcs w a (N.zip q):=by
 rcases h.2 with⟨f,j⟩|⟨g,c,n,rfl,f,d,o,p,r,s⟩
 . exact⟨none,0,by rw[f,j],.inl (by have:q= []:=List.length_eq_zero_iff.1 j;subst this;simp)⟩
 refine⟨_,_,rfl,.inr ⟨g,0,rfl,ztW d,λi hi=>?_⟩⟩;have e:i<q.length:=by rw[List.length_zip]at hi;omega
 obtain⟨k,l⟩:=zfr N q m q.length (ztY _) i e;rw[<-s,List.getElem?_take,if_pos (by omega)]at k l;exact⟨zm d (by rw[Nat.zero_add];simpa using k),zm d (by rw[Nat.zero_add];simpa using l)⟩
theorem ztq{b:ByteArray->Option (Int×Int)}{f:ByteArray->Int}{a:Int}{q:List Int}(E:zq8 b f a q){o n:Int}{s:ByteArray}{l:List zH}(p:wfE (.mk o n s l)=true)(z:o≠6)(g:(tyE b a (.mk o n s l)).2=0):
 (∀k,k<l.length->(tyE b a (eAt l k)).2=0)/\(∀k,k<l.length->inR (iAt (za5 q (cmpL f a l)) k))/\(o=14->isB (iAt (za5 q (cmpL f a l)) 0))/\(19<=o->∀k,k<l.length->isB (iAt (za5 q (cmpL f a l)) k)):=by
 obtain⟨w,r⟩:=ze8 p;simp only[zcR,zt5]at w;obtain⟨⟨⟨A,i⟩,t⟩,B⟩:=w;obtain⟨C,x⟩:=zbz.1 A;rw[zo7 _ _ _ _ _ _ z]at g;by_cases m:(tyL b a l).1≠0
 . rw[if_pos m]at g;exact absurd g m
 rw[if_neg m]at g;have u:(tyL b a l).1=0:=Classical.not_not.1 m;by_cases j:resK o (tyL b a l).2≠0
 . obtain⟨D,v⟩:=zjh u;have y:=zph E l r (λk hk=>(v k hk).1);have c:(cmpL f a l).length=l.length:=zc5 f a l;have d:∀k,k<l.length->iAt (tyL b a l).2 k=4->isB (iAt (za5 q (cmpL f a l)) k):=λk hk h4=>by
    rw[zbk q _ k (by rw[c];exact hk)];exact(y.2 k hk) (by rw[<-(v k hk).2];exact h4)
   refine⟨λk hk=>(v k hk).1,λk hk=>zjN _ y.1 k (by rw[zcM,c];exact hk),λh14=>?_,λh19 k hk=>?_⟩
   . subst h14;have F:l.length=3:=by simp[zL]at i;omega
     have e:resK 14 (tyL b a l).2=if((iAt (tyL b a l).2 0==4)&&(iAt (tyL b a l).2 1==iAt (tyL b a l).2 2))=true then iAt (tyL b a l).2 1 else 0:=rfl;rw[e]at j;by_cases h:((iAt (tyL b a l).2 0==4)&&(iAt (tyL b a l).2 1==iAt (tyL b a l).2 2))=true
     . exact d 0 (by omega) (by simpa using(Bool.and_eq_true_iff.1 h).1)
     rw[if_neg h]at j;exact absurd rfl j
   refine d k hk ?_;have h:cmpB o (tyL b a l).2=true:=by
    refine Classical.byContradiction λh=>j ?_
    obtain rfl|rfl|rfl|rfl:o=19\/o=20\/o=21\/o=22:=by omega
    all_goals (simp only[resK];simp[h])
   have G:allB (tyL b a l).2 4=true:=by
    obtain rfl|rfl|rfl|rfl:o=19\/o=20\/o=21\/o=22:=by omega
    all_goals simpa[cmpB] using h
   exact zmI G k (by rw[D];exact hk)
 rw[if_neg j]at g;exact absurd g (by decide)
theorem ztA(q:List Int)(e:ByteArray->Int)(f o n:Int)(s:ByteArray)(l:List zH)(i:1<=o)(g:o≠6):apV o n (za5 q (cmpL e f l))=fval q (cmpE e f (.mk o n s l)):=by
 rw[cmpE];unfold apV
 by_cases h:o<=3
 . have a:o=1\/o=2\/o=3:=by omega
   rw[if_pos h,if_pos a,fval,if_pos rfl]
 have a:¬ (o=1\/o=2\/o=3):=by omega
 rw[if_neg h,if_neg a];by_cases b:o=4
 . subst b;rw[if_pos rfl,if_pos rfl,fval,if_pos rfl]
 rw[if_neg b,if_neg b];by_cases c:o=5
 . subst c;rw[if_pos rfl,if_pos rfl,fval,if_pos rfl]
 have d:¬ o=1:=by omega
 rw[if_neg c,if_neg c,if_neg g,fval,if_neg d,if_neg g]
structure QOk(k:Nat)(q:List Int):Prop where
 len:q.length=(zk k).length
 val:∀i,i<q.length->inR (iAt q i)/\(zad k (sAt (zk k) i)=3->0<=iAt q i/\iAt q i<1440)/\(zad k (sAt (zk k) i)=4->isB (iAt q i))
theorem QOk.env{k:Nat}{q:List Int}(h:QOk k q)(b:k<4)(l:List zB)(n:Nat):zq8 (lkC l n) (cvC l n) k q where
 attr:=λs i hp=>by
  have c:=zrc hp;have d:=zsw hp;have a:=h.val i (by rw[h.len];exact c);rw[d]at a;exact⟨by rw[h.len];exact c,a.1,a.2.2⟩
 none:=λs hp=>zd2 b hp
 named:=λs i hp=>zqX b hp
 const:=λs r hr h0=>(zjS l n (λj _ hjl h0=>zqF l j hjl h0)).const s r hr h0
theorem QOk.atr{k:Nat}{q:List Int}(h:QOk k q){s:ByteArray}{i:Nat}(c:plA k s=some i):atrV (zad k s) (iAt q i)=iAt q i:=by
 have f:=zrc c;have g:=zsw c;have d:=h.val i (by rw[h.len];exact f);rw[g]at d;obtain⟨j,l,m⟩:=d;unfold atrV
 by_cases a:zad k s=3
 . rw[if_pos a];have:=l a;omega
 rw[if_neg a];by_cases b:zad k s=4
 . rw[if_pos b];rcases m b with e|e <;> rw[e] <;> decide
 rw[if_neg b];exact zdm j
structure zoM(k:Nat)(q0 q:List Int):Prop where
 l0:q0.length=(zk k).length
 ok:QOk k q
 atr:∀s i,plA k s=some i->atrV (zad k s) (iAt q0 i)=iAt q i
 bd:∀i,i<q0.length->-9000000000000000000<=iAt q0 i/\iAt q0 i<=9000000000000000000
theorem QOk.self{k:Nat}{q:List Int}(h:QOk k q):zoM k q q where
 l0:=h.len
 ok:=h
 atr:=λs i hp=>h.atr hp
 bd:=λi hi=>by have:=(h.val i hi).1;unfold inR at this;omega
theorem QOk.nil:QOk 0 []:=⟨rfl,λi hi=>by simp at hi⟩
def refB(c:ConM)(k:Nat)(q:List Int):Nat->List ByteArray
 |0=> []
 |j+1=>if(rlAt c.rules j).scope=(k:Int)/\fval q (cmpX c k (rlAt c.rules j).ex)=0 then refB c k q j++ [(rlAt c.rules j).name] else refB c k q j
theorem znb{c:ConM}{k:Nat}{q:List Int}{j:Nat}(a:(rlAt c.rules j).scope=(k:Int))(b:fval q (cmpX c k (rlAt c.rules j).ex)=0):refB c k q (j+1)=refB c k q j++ [(rlAt c.rules j).name]:=if_pos ⟨a,b⟩
theorem zm9{c:ConM}{k:Nat}{q:List Int}{j:Nat}(a:fval q (cmpX c k (rlAt c.rules j).ex)≠0):refB c k q (j+1)=refB c k q j:=if_neg λh=>a h.2
theorem zpJ{c:ConM}{k:Nat}{q:List Int}{j:Nat}(a:(rlAt c.rules j).scope≠(k:Int)):refB c k q (j+1)=refB c k q j:=if_neg λh=>a h.1
theorem zna(c:ConM)(k:Nat)(q:List Int):∀j,(refB c k q j).length<=j
 |0=>ztY _
 |j+1=>by
  have:=zna c k q j;rw[refB];split
  . rw[zt2];simp;omega
  omega
theorem ziZ(q:List Int)(l a:List (ByteArray×zE)):∀n,(∀i,i<n->ruAt l i=ruAt a i)->brkF q l n=brkF q a n
 |0,_=>rfl
 |n+1,h=>by rw[brkF,brkF,ziZ q l a n (λi hi=>h i (by omega)),h n (by omega)]
theorem zqV(q:List Int)(l:List (ByteArray×zE))(x:ByteArray×zE):brkF q (l++ [x]) (l++ [x]).length=if fval q x.2=0 then brkF q l l.length++ [x.1] else brkF q l l.length:=by
 rw[zt2,List.length_singleton,brkF,zgp,ziZ q (l++ [x]) l l.length (λi hi=>zgo hi)]
theorem zk0(c:ConM)(k:Nat)(q:List Int):∀j,j<=c.rules.length->refB c k q j=brkF q (zaD c (c.rules.take j) k) (zaD c (c.rules.take j) k).length
 |0,_=>rfl
 |j+1,h=>by
  have d:=zk0 c k q j (by omega);rw[zpb c.rules j (by omega),zho];by_cases a:(rlAt c.rules j).scope=(k:Int)
  . rw[if_pos a,zqV];by_cases b:fval q (cmpX c k (rlAt c.rules j).ex)=0
    . rw[if_pos b,znb a b,d]
    rw[if_neg b,zm9 b,d]
  rw[if_neg a,zpJ a,d]
theorem zru(c:ConM)(k:Nat)(q:List Int):refB c k q c.rules.length=brkF q (zaR c k) (zaR c k).length:=by
 rw[zk0 c k q _ (ztY _),List.take_length];rfl
def refC(c:ConM)(k:Nat)(q:List Int):Nat->Int
 |0=>0
 |j+1=>if(coAt c.costs j).scope=(k:Int) then refC c k q j+fval q (cmpX c k (coAt c.costs j).ex) else refC c k q j
theorem zjt{c:ConM}{k:Nat}{q:List Int}{j:Nat}(a:(coAt c.costs j).scope=(k:Int)):refC c k q (j+1)=refC c k q j+fval q (cmpX c k (coAt c.costs j).ex):=if_pos a
theorem zl5{c:ConM}{k:Nat}{q:List Int}{j:Nat}(a:(coAt c.costs j).scope≠(k:Int)):refC c k q (j+1)=refC c k q j:=if_neg a
theorem ziG(q:List Int)(l a:List zE):∀n,(∀i,i<n->gAt l i=gAt a i)->sumF q l n=sumF q a n
 |0,_=>rfl
 |n+1,h=>by rw[sumF,sumF,ziG q l a n (λi hi=>h i (by omega)),h n (by omega)]
theorem zmk{l:List zE}{x:zE}{i:Nat}(h:i<l.length):gAt (l++ [x]) i=gAt l i:=by
 unfold gAt;rw[zt0,zt8 h,<-zt0]
theorem zml{l:List zE}{x:zE}:gAt (l++ [x]) l.length=x:=by simp[gAt]
theorem zpf(q:List Int)(l:List zE)(x:zE):sumF q (l++ [x]) (l++ [x]).length=sumF q l l.length+fval q x:=by
 rw[zt2,List.length_singleton,sumF,zml,ziG q (l++ [x]) l l.length (λi hi=>zmk hi)]
theorem zkZ(c:ConM)(k:Nat)(q:List Int):∀j,j<=c.costs.length->refC c k q j=sumF q (zau c (c.costs.take j) k) (zau c (c.costs.take j) k).length
 |0,_=>rfl
 |j+1,h=>by
  have b:=zkZ c k q j (by omega);rw[zjk c.costs j (by omega),zhT];by_cases a:(coAt c.costs j).scope=(k:Int)
  . rw[if_pos a,zpf,zjt a,b]
  rw[if_neg a,zl5 a,b]
theorem zrt(c:ConM)(k:Nat)(q:List Int):refC c k q c.costs.length=sumF q (zaW c k) (zaW c k).length:=by
 rw[zkZ c k q _ (ztY _),List.take_length];rfl
theorem zm6{c:ConM}(h:valT c=0){k:Nat}(f:k<4){q:List Int}(g:QOk k q){i:Nat}(a:i<c.rules.length)(j:(rlAt c.rules i).scope=(k:Int)):wfE (rlAt c.rules i).ex=true/\cntE (rlAt c.rules i).ex<=200/\(tyE (lkC c.consts c.consts.length) k (rlAt c.rules i).ex).2=0:=by
 obtain⟨m,l,_,_,b,d,e⟩:=zpu h a;obtain rfl:m=k:=by omega
 exact⟨b,d,e⟩
theorem zj1{c:ConM}(h:valT c=0){k:Nat}(d:k<4){q:List Int}(e:QOk k q){i:Nat}(f:i<c.costs.length)(j:(coAt c.costs i).scope=(k:Int)):wfE (coAt c.costs i).ex=true/\cntE (coAt c.costs i).ex<=200/\(tyE (lkC c.consts c.consts.length) k (coAt c.costs i).ex).2=0/\inR (fval q (cmpX c k (coAt c.costs i).ex)):=by
 obtain⟨m,l,_,_,a,g,b⟩:=zqO h f;obtain rfl:m=k:=by omega
 exact⟨a,g,b,zcb _ (zlS (e.env d c.consts c.consts.length) _ a b).1⟩
theorem zpI{c:ConM}(h:valT c=0){k:Nat}(g:k<4){q:List Int}(i:QOk k q):∀j,j<=c.costs.length->-(1099511627776*(j:Int))<=refC c k q j/\refC c k q j<=1099511627776*(j:Int)
 |0,_=>by simp[refC]
 |j+1,hj=>by
  obtain⟨a,b⟩:=zpI h g i j (by omega);by_cases d:(coAt c.costs j).scope=(k:Int)
  . obtain⟨_,_,_,e,f⟩:=zj1 h g i (by omega) d;rw[zjt d];omega
  rw[zl5 d];omega
theorem zmd{c:ConM}{k i:Nat}(d:i<(zaR c k).length):∃j,j<c.rules.length/\(rlAt c.rules j).scope=(k:Int)/\(ruAt (zaR c k) i).2=cmpX c k (rlAt c.rules j).ex:=by
 have f:ruAt (zaR c k) i∈zaR c k:=by
  unfold ruAt;rw[zt0,zt1 d];exact List.getElem_mem d
 unfold zaR zaD at f
 obtain⟨r,l,e⟩:=List.mem_map.1 f;obtain⟨a,b⟩:=List.mem_filter.1 l;obtain⟨j,g,rfl⟩:=List.getElem_of_mem a;have h:rlAt c.rules j=c.rules[j]:=by unfold rlAt;rw[zt0,zt1 g];rfl
 exact⟨j,g,by rw[h];exact of_decide_eq_true b,by rw[h];show(ruAt (zaD c c.rules k) i).2=_;unfold zaD;rw[<-e]⟩
theorem zme{c:ConM}{k i:Nat}(h:i<(zaW c k).length):∃j,j<c.costs.length/\(coAt c.costs j).scope=(k:Int)/\gAt (zaW c k) i=cmpX c k (coAt c.costs j).ex:=by
 have d:gAt (zaW c k) i∈zaW c k:=zqr h;unfold zaW zau at d
 obtain⟨r,l,e⟩:=List.mem_map.1 d;obtain⟨a,b⟩:=List.mem_filter.1 l;obtain⟨j,f,rfl⟩:=List.getElem_of_mem a;have g:coAt c.costs j=c.costs[j]:=by unfold coAt;rw[zt0,zt1 f];rfl
 exact⟨j,f,by rw[g];exact of_decide_eq_true b,by rw[g];show gAt (zau c c.costs k) i=_;unfold zau;rw[<-e]⟩
theorem zpt{c:ConM}(h:valT c=0){k:Nat}(a:k<4){q:List Int}(b:QOk k q):∀i,i<(zaR c k).length->fok q (ruAt (zaR c k) i).2:=λi hi=>by
 obtain⟨j,d,f,e⟩:=zmd hi;obtain⟨g,m,l⟩:=zm6 h a b d f;rw[e];exact(zlS (b.env a c.consts c.consts.length) _ g l).1
theorem zqN{c:ConM}(h:valT c=0){k:Nat}(a:k<4){q:List Int}(b:QOk k q):∀i,i<(zaW c k).length->fok q (gAt (zaW c k) i):=λi hi=>by
 obtain⟨j,d,f,e⟩:=zme hi;obtain⟨g,m,l,_⟩:=zj1 h a b d f;rw[e];exact(zlS (b.env a c.consts c.consts.length) _ g l).1
theorem zl3(c:ConM)(k:Nat):(zaR c k).length<=c.rules.length:=by
 unfold zaR zaD;rw[List.length_map];exact List.length_filter_le _ _
theorem zmx(c:ConM)(k:Nat):(zaW c k).length<=c.costs.length:=by
 unfold zaW zau;rw[List.length_map];exact List.length_filter_le _ _
theorem zor(q:List Int)(b:ByteArray->Int)(c:Int)(l:List zH)(j:Nat)(d:j<l.length):za5 q (cmpL b c (l.take (j+1)))=za5 q (cmpL b c (l.take j))++ [fval q (cmpE b c (eAt l j))]:=by
 rw[zfQ b c l j d];generalize cmpL b c (l.take j)=a;induction a with
 |nil=>rfl
 |cons x a ih=>rw[List.cons_append,za5,za5,ih,List.cons_append]
theorem zsY{l:List zB}{n:Nat}{s:ByteArray}{r:Int×Int}(h:lkC l n s=some r):∃i:Nat,fi l s=some i/\i<n/\ciI (l.take n) s=i/\iAt (tabV l n) i=cvC l n s:=by
 unfold lkC at h
 cases b:fi l s with
 |none=>rw[b]at h;cases h
 |some i=>
  rw[b]at h;by_cases a:i<n
  . refine⟨i,rfl,a,?_,?_⟩
    . unfold ciI
      rw[zhK,b];simp[a]
    unfold cvC
    rw[b];simp only[if_pos a];exact(zmY l n i).trans (if_pos a)
  simp only[if_neg a]at h;cases h
def ztD(B:Nat)(l:List zB)(n:Nat)(la:zua)(lc:Nat)(k:Nat)(va:zua)(vc:Nat)(q0 q:List Int)(ta:zua)(tc:Nat)(x:zH):Prop:=∀(xa:zua) (xc:Nat) (w:World),B<=w.heap.size->za2 x->wfE x=true->cntE x<=200->zaz B w xa x.args->(tyE (lkC l n) k x).2=0->zW w va (tabV l n)->zbd B w la (l.take n)->zcs w ta ((zk k).zip q0)->
 Calls prog 92 #[.slice va n vc,.slice la n lc,k,.slice ta q0.length tc,.agg #[x.op,x.num,.string x.name,.slice xa x.args.length xc]] w λe w'=>e=.returned (fval q (cmpE (cvC l n) k x))/\Below w.heap.size w w'
theorem znB(B:Nat)(l:List zB)(n:Nat)(hn:n<=l.length)(la:zua)(lc:Nat)(k:Nat)(b0:k<4)(va:zua)(vc:Nat)(L q:List Int)(hQ:zoM k L q)(ta:zua)(tc:Nat)(o p:Int)(s:ByteArray)(c:List zH)(IH:∀j,j<c.length->ztD B l n la lc k va vc L q ta tc (eAt c j)):ztD B l n la lc k va vc L q ta tc (.mk o p s c):=by
 intro Z xc w f z P A ha Q hV R a5;obtain⟨hs,d8,_,_⟩:=z;simp only[zH.op,zH.num,zH.name,zH.args]at d8 ha hs ⊢;have b1:(l.take n).length=n:=by rw[List.length_take];omega
 have g2:n<=140737488355328:=by have:=R.1;omega
 have f8:1+cntL c<=200:=by rw[cntE]at A;exact A
 have d9:c.length<=200:=by have:=zgZ c;omega
 obtain⟨hh,a6⟩:=ze8 P;simp only[zcR,zt5]at hh;obtain⟨⟨⟨g1,h3⟩,_⟩,_⟩:=hh;obtain⟨h1,h2⟩:=zbz.1 g1;have E:=hQ.ok.env b0 l n;have HW:=I a6;have HI:=I IH;have HA:=I ha;have HV:=I hV;have b2:=I R;have b3:=I a5;have f9:L.length<=25:=by rw[hQ.l0];exact zdF k
 obtain⟨i0,hi,b4,b5,b6⟩:=info_parts zjJ;by_cases o6:o=6
 . subst o6;have f0:=I Q;have HQ:=I hQ;have HE:=I E;clear IH ha hV R h3 a6 g1 P A a5 Q hQ E hi b4 b5 b6;go_enter func92,ntmps92
   go_wp2_with fail;have HB:=I (J w (oEg 6 p s Z c.length xc));have QX:=I (zh w (oEg 6 p s Z c.length xc));generalize w.alloc (oEg 6 p s Z c.length xc)=W at*;refine ca (zeg k b0 s W hs) λw1 D=>?_;have d:=I (ztS HB.1 D);have b7:=I (blkA D QX.1);have z2:=zC b7.1;have zl:=ztW b7.1;clear D HB QX;cases S:plA k s with
   |some i=>
    have F:zad k s≠0:=HE.1.named s i S;have e2:(erK (zad k s)==0)=true:=by rw[erK,if_neg F];rfl
    have b8:i<L.length:=by have:=zrc S;rw[HQ.1.l0];exact this
    have hr:=I (show fval q (cmpE (cvC l n) k (.mk 6 p s c))=atrV (zad k s) (iAt L i) by
     rw[HQ.1.atr s i S,cmpE,if_neg (by decide),if_neg (by decide),if_neg (by decide),if_pos rfl,S];simp only[];rw[fval,if_neg (by decide),if_pos rfl];simp)
    have f1:=I ((zns s HQ.1.l0).trans (by rw[show wi (zk k) s=some i from S]):arIx ((zk k).zip L) s=(i:Int));have b9:((zk k).zip L).length=L.length:=by rw[List.length_zip,HQ.1.l0];exact Nat.min_self _
    have A1:=b3.1.below d.1;obtain⟨b,a7,rfl,hb,g⟩:=A1.cells (by omega);have d1:=(g i (by omega)).2;rw[znt HQ.1.l0 b8]at d1;have c6:=HQ.1.bd i b8;have HF:=I (zli ((zk k).zip L) s (some ⟨b,a7,none⟩) tc w1 A1 (by omega));rw[b9,f1.1]at HF;clear g A1 F S b9;go_wp2_with fail;refine HF.1.mono ?_;rintro e w2 ⟨rfl,rfl⟩;clear HF;go_wp2_with fail;refine cb (zqY (zad k s) (iAt L i) w1 c6.1 c6.2) ?_;go_wp2_with fail;go_ret;exact⟨ze hr.1.symm,d.1⟩
   |none=>
    have F:zad k s=0:=HE.1.none s S;have e2:(erK (zad k s)==0)=false:=by rw[F];rfl
    have hl:∃r,lkC l n s=some r:=by
     have h:=f0.1;rw[zo6,if_neg (by simpa using F)]at h;cases hk:lkC l n s with
     |none=>rw[hk]at h;exact absurd h (by decide)
     |some r=>exact⟨r,rfl⟩
    obtain⟨r,c7⟩:=hl;obtain⟨i,f2,g3,c8,c9⟩:=zsY c7
    have hr:=I (show fval q (cmpE (cvC l n) k (.mk 6 p s c))=iAt (tabV l n) i by
     rw[c9,cmpE,if_neg (by decide),if_neg (by decide),if_neg (by decide),if_pos rfl,S];simp only[];rw[fval,if_pos rfl])
    have V1:=HV.1.below d.1;obtain⟨b,a7,rfl,hb,g⟩:=V1.cells (by rw[zcV];omega);have d1:=g i (by rw[zcV];omega);have a8:=I (zhV (l.take n) s la lc B w1 (ztV f d.1.size) (b2.1.keep (d.1.mono f) (zbs.keep (d.1.mono f))));rw[b1,c8]at a8;clear g V1 F S c7 f2 c8 c9;go_wp2_with fail;refine a8.1.mono ?_;rintro e w2 ⟨rfl,rfl⟩;clear a8;go_wp2_with fail;go_ret;exact⟨ze hr.1.symm,d.1⟩
 obtain⟨a1,a2,a3,a4⟩:=ztq E P o6 Q;have HT:=I a1;have HR:=I a2;have f3:=I a3;have f4:=I a4;have H3:=I h3;have Hv:=I (ztA q (cvC l n) k o p s c h1 o6);have e6:(o==6)=false:=by simpa using o6
 have O6:=I o6;clear IH ha hV R h3 a6 g1 P A a5 Q hQ E a1 a2 a3 a4 o6;go_enter func92,ntmps92
 go_wp2_with fail;have HB:=I (J w (oEg o p s Z c.length xc));have QX:=I (zh w (oEg o p s Z c.length xc));have HO:=I (show World.ownsRow (w.alloc (oEg o p s Z c.length xc)) w.heap.size 3 1 (.slice none 0 0) 0 (([]:List Int).map (Value.int .i64)) from⟨rfl,.inl ⟨rfl,rfl⟩⟩);generalize w.alloc (oEg o p s Z c.length xc)=W at*;go_loopw [13,14] (λt i wr=>∃(j:Nat) (v:Value) (G:List Int),j<=c.length/\i=.int .i64 j/\t=v/\G.length=j/\ztR (G=za5 q (cmpL (cvC l n) k (c.take j)))/\ztR (wr.ownsRow w.heap.size 3 1 v G.length (G.map (Value.int .i64)))/\ztR (wr.heap[w.heap.size]?=some (oEg o p s Z c.length xc))/\ztR (Bw w wr)) (λ_ i _=>c.length-(intOf i).toNat)
 case atStart=>exact⟨0,_, [],ztX _,rfl,rfl,rfl,I (by simp[cmpL,za5]),HO,QX,HB⟩
 clear HO QX HB;obtain⟨j,v,G,hj,rfl,rfl,T,C,hO,H,a⟩:=hrel;have x0:=zw H.1;have x1:=zu H.1;have x3:=zaj H.1;have f5:=ztW H.1;by_cases K:j<c.length
 . obtain⟨b,a7,d0,hb,g⟩:=HA.1.cells (by omega);obtain⟨a2,d2,f6,⟨c0,c1,c2,c3⟩,z,M⟩:=(g.keep (a.1.mono f)).at j K;have f7:b<wr.heap.size:=ztU f6 (ztV f a.1.size);rw[d0]at x3;have C1:=I (HI.1 j K a2 d2 wr (ztV f a.1.size) z (zkq HW.1 j K) (by have:=zhW (l:=c) j K;omega) M (HT.1 j K) (HV.1.below a.1) (b2.1.keep (a.1.mono f) (zbs.keep (a.1.mono f))) (b3.1.below a.1));clear g M z d0;go_wp2_with fail;refine C1.1.mono ?_;rintro e W2 ⟨rfl,U⟩;have a9:=I (ztS a.1 U);have V:=I (blkA U H.1);have X:=I (zbQ hO.1 a.1 U);clear C1 U c0 c1 c2 c3 x0 x1 x3 f5 f7 hO H a;obtain⟨y,hy⟩:∃y,y=fval q (cmpE (cvC l n) k (eAt c j)):=⟨_,rfl⟩;rw[<-hy];have d3:=I (show G++ [y]=za5 q (cmpL (cvC l n) k (c.take (j+1))) by rw[zor q _ _ _ j K,<-C.1,hy]);have g0:G.length<=200:=by omega
   have nx:=za7 X.1 V.1 (by decide);clear hy C;go_wp2_with (at_builtin;refine wpList_append_own _ rfl _ _ 72 rfl w.heap.size 3 i0 (.int .i64 0) 1 8 underlying72 hi b4 b5 b6 rfl (by decide) _ _ _ rfl (X.1.alloc _) ⟨W2.heap.size,0,none⟩ 1 1 [.int .i64 y] rfl rfl ?c1 ?c2 ?c3 ?c4 ?c5 ?_)
   case c1=>exact zaa W2 [.int .i64 y] 3
   case c2=>intro u hu;simp at hu;subst hu;rfl
   case c3=>unfold maxLen;omega
   case c4=>omega
   case c5=>have:=a9.1.size;simp;omega
   intro v' w3 N x _;have d4:=I (zaG (e':=3) a9.1 rfl X.1 x);have d5:=I ((x.block _ (ztW (zd V.1)) nx).trans (zd V.1))
   have d6:=I (show w3.ownsRow w.heap.size 3 1 v' (G++ [y]).length ((G++ [y]).map (Value.int .i64)) by
    rw[zt2,zt3,T];exact N)
   have a0:(G++ [y]).length=j+1:=by simp[T]
   clear N x nx X V a9;go_wp2_with fail;go_roundw
   case rel=>first|exact⟨j+1,_,_,by omega,by go_num,rfl,a0,d3,d6,d5,d4⟩|((repeat apply Exists.intro);exact⟨⟨j+1,_,_,by omega,by go_num,rfl,a0,d3,d6,d5,d4⟩,rfl⟩)
   case measure=>simp[intOf];omega
 obtain rfl:j=c.length:=by omega
 have Y:=I (show G=(za5 q (cmpL (cvC l n) k c)) by rw[C.1,List.take_length]);obtain⟨a3,d7,rfl,hI⟩:=zW.of_own hO.1;have CA:=I (zoE o p G a3 d7 wr ⟨h1,h2⟩ O6.1 (by omega) (by rw[T];exact H3.1) (λm hm=>by rw[Y.1];exact HR.1 m (by omega)) (λh=>by rw[Y.1];exact f3.1 h) (λh m hm=>by rw[Y.1];exact f4.1 h m (by omega)) hI);have hr:=I (show apV o p G=fval q (cmpE (cvC l n) k (.mk o p s c)) by rw[Y.1];exact Hv.1);clear hI C T hO;go_wp2_with fail;refine CA.1.mono ?_;rintro e w1 ⟨rfl,D⟩;have d:=I (ztS a.1 D);clear D CA;go_wp2_with fail;go_ret;exact⟨ze hr.1,d.1⟩
theorem ziz(B:Nat)(l:List zB)(n:Nat)(r:n<=l.length)(c:zua)(d:Nat)(k:Nat)(a:k<4)(e:zua)(f:Nat)(b q:List Int)(t:zoM k b q)(g:zua)(h:Nat)(x:zH):ztD B l n c d k e f b q g h x:=by
 obtain⟨m,u⟩:∃m,m=SizeOf.sizeOf x:=⟨_,rfl⟩;induction m using Nat.strongRecOn generalizing x with
 |_ m ih=>
  subst u;obtain⟨o,i,s,p⟩:=x;exact znB B l n r c d k a e f b q t g h o i s p λj hj=>ih _ (zbM (x:=.mk o i s p) hj) _ rfl
theorem znC(B:Nat)(l:List zB)(n:Nat)(j:n<=l.length)(a:zua)(g:Nat)(b:zua)(h:Nat)(x:zH)(c:zua)(i:Nat)(w:World)(k:B<=w.heap.size)(m:za2 x)(d:wfE x=true)(o:cntE x<=200)(p:zaz B w c x.args)(f:(tyE (lkC l n) 0 x).2=0)(q:zW w b (tabV l n))(r:zbd B w a (l.take n)):
 Calls prog 92 #[.slice b n h,.slice a n g,.int .i64 0,.slice none 0 0,.agg #[x.op,x.num,.string x.name,.slice c x.args.length i]] w λe w'=>e=.returned (fval [] (cmpE (cvC l n) 0 x))/\Bw w w':=
 ziz B l n j a g 0 (by decide) b h [] [] QOk.nil.self none 0 x c i w k m d o p f q r (.inl (by simp))
theorem zi7(B:Nat)(l:List zB)(b:zua)(j:Nat)(n:Int)(k:Nat)(c:n=(k:Int))(s:k<4)(d:zua)(o:Nat)(a q:List Int)(t:zoM k a q)(f:zua)(p:Nat)(m:Nat)(u:m=a.length)(x:zH)(g:zua)(r:Nat)(w:World)(v:B<=w.heap.size)(y:za2 x)(h:wfE x=true)(z:cntE x<=200)(A:zaz B w g x.args)(i:(tyE (lkC l l.length) k x).2=0)(C:zW w d (tabV l l.length))(D:zbd B w b l)(E:zcs w f ((zk k).zip a)):
 Calls prog 92 #[.slice d l.length o,.slice b l.length j,n,.slice f m p,.agg #[x.op,x.num,.string x.name,.slice g x.args.length r]] w λe w'=>e=.returned (fval q (cmpE (cvC l l.length) k x))/\Bw w w':=by
 subst c u;exact ziz B l l.length (ztY _) b j k s d o a q t f p x g r w v y h z A i C (by rw[List.take_length];exact D) E
theorem zhU{c:ConM}(h:valT c=0):∀i,i<c.consts.length->(ctyp c.consts i).2=0:=by
 unfold valT at h
 by_cases a:valG c≠0
 . rw[if_pos a]at h;exact absurd h a
 rw[if_neg a]at h;by_cases b:fstE (cErr c.consts) 0 (c.consts.length-0)≠0
 . rw[if_pos b]at h;exact absurd h b
 intro i e;have d:=zcN _ _ (Classical.not_not.1 b) i (ztX _) (by omega);unfold cErr at d
 split at d
 . omega
 exact d
theorem zda{c:ConM}(h:valT c=0):c.consts.length<=32/\c.rules.length<=40/\c.costs.length<=16/\c.credit.length<=1:=by
 have h:=(zch (zbV h).g).1;simp only[zdP,zt5,decide_eq_true_eq]at h;omega
def zoL(w:World)(l:List zB)(e:Ending)(w':World):Prop:=∃a cap,e=.returned (.slice a l.length cap)/\zW w' a (tabV l l.length)/\Below w.heap.size w w'
theorem zfn(l:List zB)(la:zua)(N:Nat)(B:Nat)(w:World)(d:B<=w.heap.size)(a7:l.length<=N/\N<=140737488355328)(a8:l.length<=1000)(ha:zbd B w la l)(P:∀i,i<l.length->(ctyp l i).2=0):Calls prog 91 #[.slice la l.length N] w (zoL w l):=by
 have HA:=I ha;have Q:=I P;obtain⟨i0,hi,a0,a1,a3⟩:=info_parts zjJ;clear ha P;go_enter func91,ntmps91
 go_wp2_with fail;go_loopw [3,4] (λt i wr=>∃(j:Nat) (v:Value),j<=l.length/\i=.int .i64 j/\v=t/\ztR (wr.ownsRow w.heap.size 3 1 v (tabV l j).length ((tabV l j).map (Value.int .i64)))/\ztR (Bw w wr)) (λ_ i _=>l.length-(intOf i).toNat)
 case atStart=>exact⟨0,_,ztX _,rfl,rfl,I (World.ownsRow_nil _ _ _ _),I (ztT _ _)⟩
 obtain⟨j,v,a9,rfl,rfl,Y,a⟩:=hrel;by_cases D:j<l.length
 . obtain⟨b,a4,a5,hb,R⟩:=(HA.1.keep (a.1.mono d) (zbs.keep (a.1.mono d))).cells (by omega);obtain⟨_,_,a2,s,⟨c1,c2,c3,c4⟩,x,k⟩:=R j D;have g:b<wr.heap.size:=by have:=a.1.size;omega
   have HF:=I x;have E:=I k;obtain⟨g1,g2,g3⟩:=zjZ (Q.1 j D);obtain⟨S,A,_⟩:=zcA g1;have r:B<=wr.heap.size:=ztV d a.1.size;have e:(l.take j).length=j:=by rw[List.length_take];omega
   have e0:(typX (l.take j) j 0 (csAt l j).ex).2=0:=by rw[zkI,zkJ];exact Q.1 j D
   have p:=I (λdd os=>ztZ (zfd (l.take j) la N B 0 (by decide) (csAt l j).ex a2 s (grow (redrawn wr dd) os) (ztV r (below_regrown wr dd os).size) (by rw[e];omega) (by rw[e];omega) (zc4 (HA.1.keep ((ztS a.1 (below_regrown wr dd os)).mono d) (zbs.keep ((ztS a.1 (below_regrown wr dd os)).mono d))) j) HF.1 (E.1.keep ((below_regrown wr dd os).mono r))));simp only[e,e0]at p;subst a5;obtain⟨kx,T⟩:∃z,z=(typX (l.take j) j 0 (csAt l j).ex).1:=⟨_,rfl⟩;rw[<-T]at p;have F:=I (And.intro S (And.intro A g2));clear R k x T e0 g1 g2 g3 S A e;go_wp2_with fail;have r1:=λdd os=>cell_regrown c1 dd os
   have r2:=λdd os=>cell_regrown c2 dd os
   have r3:=λdd os=>cell_regrown c3 dd os
   have r4:=λdd os=>cell_regrown c4 dd os
   refine wp_region_quiet_below (by kernel_rfl) (by kernel_rfl) ?_;repeat (first|go_big_quiet_step (first|(with_reducible exact p.1 _ _))|quiet_step (first|(with_reducible exact p.1 _ _)))
   refine wpQuiet_nil ?_;intro _ G;obtain⟨⟨f,c⟩,m⟩:=G;subst m;have H:=I (zbQ Y.1 a.1 (below_regrown wr f c));have h:=I (ztS a.1 (below_regrown wr f c));have C:=I (E.1.keep ((below_regrown wr f c).mono r));have z1:=zj c1 g (below_regrown wr f c);have z2:=zj c2 g (below_regrown wr f c);have z3:=zj c3 g (below_regrown wr f c);have z4:=zj c4 g (below_regrown wr f c);have U:b<(grow (redrawn wr f) c).heap.size:=ztU g (below_regrown wr f c).size;clear r1 r2 r3 r4 p c1 c2 c3 c4 g r Y a E;generalize grow (redrawn wr f) c=q at*;obtain⟨va,vc,rfl,V⟩:=zW.of_own H.1;have Z:=I V;rw[zcV] at*;have K:B<=q.heap.size:=ztV d h.1.size;have p:=I (λdd os=>ztZ (znC B l j (by omega) (some ⟨b,a4,none⟩) N va vc (csAt l j).ex a2 s (grow (redrawn q dd) os) (ztV K (below_regrown q dd os).size) HF.1 F.1.1 F.1.2.1 (C.1.keep ((below_regrown q dd os).mono K)) F.1.2.2 (Z.1.below (below_regrown q dd os)) (zc4 (HA.1.keep ((ztS h.1 (below_regrown q dd os)).mono d) (zbs.keep ((ztS h.1 (below_regrown q dd os)).mono d))) j)));rw[<-zmt]at p;clear V;go_wp2_with fail;have r1:=λdd os=>cell_regrown z1 dd os
   have r2:=λdd os=>cell_regrown z2 dd os
   have r3:=λdd os=>cell_regrown z3 dd os
   have r4:=λdd os=>cell_regrown z4 dd os
   refine wp_region_quiet_below (by kernel_rfl) (by kernel_rfl) ?_;repeat (first|go_big_quiet_step (first|(with_reducible exact p.1 _ _))|quiet_step (first|(with_reducible exact p.1 _ _)))
   refine wpQuiet_nil ?_;intro _ G;obtain⟨⟨f,c⟩,m⟩:=G;subst m;have L:=I (ztS h.1 (below_regrown q f c));have M:=I (zbQ H.1 h.1 (below_regrown q f c));clear r1 r2 r3 r4 p z1 z2 z3 z4 U K H h Z C;generalize grow (redrawn q f) c=W3 at*;obtain⟨y,hy⟩:∃y,y=cval l j:=⟨_,rfl⟩;rw[<-hy];have a6:=I (show tabV l (j+1)=tabV l j++ [y] by rw[tabV,hy];rfl);clear hy;go_wp2_with (at_builtin;refine wpList_append_own _ rfl _ _ 72 rfl w.heap.size 3 i0 (.int .i64 0) 1 8 underlying72 hi a0 a1 a3 rfl (by decide) _ _ _ rfl (M.1.alloc _) ⟨W3.heap.size,0,none⟩ 1 1 [.int .i64 y] rfl rfl ?c1 ?c2 ?c3 ?c4 ?c5 ?_)
   case c1=>exact zaa W3 [.int .i64 y] 3
   case c2=>intro u hu;simp at hu;subst hu;rfl
   case c3=>unfold maxLen;omega
   case c4=>omega
   case c5=>have:=L.1.size;simp;omega
   intro v' w4 n o _;have W:=I (zaG (e':=3) L.1 rfl M.1 o)
   have X:=I (show w4.ownsRow w.heap.size 3 1 v' (tabV l (j+1)).length ((tabV l (j+1)).map (Value.int .i64)) by
    rw[a6.1,zt2,zt3,zcV];exact n)
   clear n o M L;go_wp2_with fail;go_roundw
   case rel=>first|exact⟨j+1,_,by omega,by go_num,rfl,X,W⟩|((repeat apply Exists.intro);exact⟨⟨j+1,_,by omega,by go_num,rfl,X,W⟩,rfl⟩)
   case measure=>simp[intOf];omega
 obtain rfl:j=l.length:=by omega
 obtain⟨va,vc,rfl,V⟩:=zW.of_own Y.1;have Z:=I V;clear V Y;rw[zcV];go_wp2_with fail;go_ret;exact⟨va,vc,rfl,Z.1,a.1⟩
end Go.Proofs.YtbhhejkolnigfaaGreat
