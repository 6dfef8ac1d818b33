/- a part of the proof -/
import Derived.Test.YtbhhejkolnigfaaGreatGJ
set_option linter.unusedVariables false
set_option linter.unusedSimpArgs false
set_option maxRecDepth 100000
set_option maxHeartbeats 51200000
namespace Go.Proofs.YtbhhejkolnigfaaGreat
open Go.RowKit Go.Sort Go.Proofs.Tryz
theorem zfM(l m:List ByteArray)(s:ByteArray):hasB (l++m) s=(hasB l s || hasB m s):=by rw[hasB,hasB,hasB,List.any_append]
theorem zjM(x s:ByteArray):hasB [x] s=decide (s=x):=by simp[hasB]
theorem zks:∀(l:List zaC) (acc:List ByteArray),(valZ acc l).1=0->(∀j,j<l.length->hasB acc (zAt l j).name=false)/\∀i j,i<j->j<l.length->(zAt l i).name≠(zAt l j).name
 |[],acc,_=>⟨λj hj=>by simp at hj,λi j _ hj=>by simp at hj⟩
 |z::l,acc,h=>by
  rw[valZ]at h;by_cases a:zval z≠0
  . rw[if_pos a]at h;exact absurd h a
  rw[if_neg a]at h;by_cases b:hasB acc z.name=true
  . rw[if_pos b]at h;simp at h
  rw[if_neg b]at h;obtain⟨d,f⟩:=zks l _ h;have c:hasB acc z.name=false:=by simpa using b
  refine⟨λj hj=>?_,λi j hij hj=>?_⟩
  . cases j with
    |zero=>exact c
    |succ j=>
     have:=d j (by simpa using hj);rw[zfM,Bool.or_eq_false_iff]at this;exact this.1
  cases j with
  |zero=>omega
  |succ j=>
   cases i with
   |zero=>
    have:=d j (by simpa using hj);rw[zfM,Bool.or_eq_false_iff,zjM]at this;have g:¬ (zAt l j).name=z.name:=by simpa using this.2
    exact λe=>g e.symm
   |succ i=>exact f i j (by omega) (by simpa using hj)
theorem zkE(a:List ByteArray):∀(l:List AirM) (acc:List ByteArray),(valA a acc l).1=0->(∀j,j<l.length->hasB acc (aAt l j).code=false/\hasB a (aAt l j).zone=true)/\∀i j,i<j->j<l.length->(aAt l i).code≠(aAt l j).code
 |[],acc,_=>⟨λj hj=>by simp at hj,λi j _ hj=>by simp at hj⟩
 |z::l,acc,h=>by
  rw[valA]at h;by_cases g:airB z.code.data.toList=false
  . rw[if_pos g]at h;simp at h
  rw[if_neg g]at h;by_cases c:hasB acc z.code=true
  . rw[if_pos c]at h;simp at h
  rw[if_neg c]at h;by_cases b:hasB a z.zone=false
  . rw[if_pos b]at h;simp at h
  rw[if_neg b]at h;obtain⟨k,m⟩:=zkE a l _ h;have d:hasB acc z.code=false:=by simpa using c
  have f:hasB a z.zone=true:=by simpa using b
  refine⟨λj hj=>?_,λi j hij hj=>?_⟩
  . cases j with
    |zero=>exact⟨d,f⟩
    |succ j=>
     have:=k j (by simpa using hj);rw[zfM,Bool.or_eq_false_iff]at this;exact⟨this.1.1,this.2⟩
  cases j with
  |zero=>omega
  |succ j=>
   cases i with
   |zero=>
    have:=(k j (by simpa using hj)).1;rw[zfM,Bool.or_eq_false_iff,zjM]at this;have b:¬ (aAt l j).code=z.code:=by simpa using this.2
    exact λe=>b e.symm
   |succ i=>exact m i j (by omega) (by simpa using hj)
theorem zrb{l:List zaC}{s:ByteArray}{j:Nat}(c:j<l.length)(a:(zAt l j).name=s)(d:∀i j,i<j->j<l.length->(zAt l i).name≠(zAt l j).name):ze6 l s=some (zAt l j):=by
 have b:∀n,n<=l.length->ze6 (l.take n) s=if j<n then some (zAt l j) else none:=by
  intro n;induction n with
  |zero=>intro _;rfl
  |succ n ih=>
   intro f;rw[zo9 l n (by omega),ziy,ih (by omega)];by_cases e:(zAt l n).name=s
   . have:n=j:=by
      rcases Nat.lt_trichotomy n j with h|h|h
      . exact absurd (e.trans a.symm) (d n j h c)
      . exact h
      exact absurd (a.trans e.symm) (d j n h (by omega))
     subst this;rw[if_pos e,if_pos (by omega)]
   have:n≠j:=λh=>e (h ▸ a)
   rw[if_neg e];by_cases g:j<n
   . rw[if_pos g,if_pos (by omega)]
   rw[if_neg g,if_neg (by omega)]
 have:=b l.length (ztY _);rwa [List.take_length,if_pos c]at this
theorem ztB{l:List AirM}{s:ByteArray}{j:Nat}(c:j<l.length)(a:(aAt l j).code=s)(d:∀i j,i<j->j<l.length->(aAt l i).code≠(aAt l j).code):airN l s=some (aAt l j):=by
 have b:∀n,n<=l.length->airN (l.take n) s=if j<n then some (aAt l j) else none:=by
  intro n;induction n with
  |zero=>intro _;rfl
  |succ n ih=>
   intro f;rw[zpe l n (by omega),zlM,ih (by omega)];by_cases e:(aAt l n).code=s
   . have:n=j:=by
      rcases Nat.lt_trichotomy n j with h|h|h
      . exact absurd (e.trans a.symm) (d n j h c)
      . exact h
      exact absurd (a.trans e.symm) (d j n h (by omega))
     subst this;rw[if_pos e,if_pos (by omega)]
   have:n≠j:=λh=>e (h ▸ a)
   rw[if_neg e];by_cases g:j<n
   . rw[if_pos g,if_pos (by omega)]
   rw[if_neg g,if_neg (by omega)]
 have:=b l.length (ztY _);rwa [List.take_length,if_pos c]at this
theorem zfb{t:TTM}(h:zY t=0):(valZ [] t.zones).1=0/\(valA (t.zones.map zaC.name) [] t.airs).1=0/\valF (t.airs.map AirM.code) none t.fls=0:=by
 unfold zY at h
 by_cases g:16<t.zones.length\/64<t.airs.length\/200<t.fls.length
 . rw[if_pos g]at h;omega
 rw[if_neg g]at h;by_cases d:(valZ [] t.zones).1≠0
 . rw[if_pos d]at h;exact absurd h d
 rw[if_neg d]at h;have i:=Classical.not_not.1 d;have m:(valZ [] t.zones).2=t.zones.map zaC.name:=by
  have:∀(l:List zaC) (a:List ByteArray),(valZ a l).1=0->(valZ a l).2=a++l.map zaC.name:=by
   intro l;induction l with
   |nil=>intro a _;simp[valZ]
   |cons z l ih=>
    intro a h;rw[valZ]at h ⊢;by_cases b:zval z≠0
    . rw[if_pos b]at h;exact absurd h b
    rw[if_neg b]at h ⊢;by_cases c:hasB a z.name=true
    . rw[if_pos c]at h;simp at h
    rw[if_neg c]at h ⊢;rw[ih _ h];simp
  simpa using this t.zones [] i
 rw[m]at h;by_cases e:(valA (t.zones.map zaC.name) [] t.airs).1≠0
 . rw[if_pos e]at h;exact absurd h e
 rw[if_neg e]at h;have j:=Classical.not_not.1 e;have n:(valA (t.zones.map zaC.name) [] t.airs).2=t.airs.map AirM.code:=by
  have:∀(f:List ByteArray) (l:List AirM) (a:List ByteArray),(valA f a l).1=0->(valA f a l).2=a++l.map AirM.code:=by
   intro f l;induction l with
   |nil=>intro a _;simp[valA]
   |cons z l ih=>
    intro a h;rw[valA]at h ⊢;by_cases b:airB z.code.data.toList=false
    . rw[if_pos b]at h;simp at h
    rw[if_neg b]at h ⊢;by_cases c:hasB a z.code=true
    . rw[if_pos c]at h;simp at h
    rw[if_neg c]at h ⊢;by_cases k:hasB f z.zone=false
    . rw[if_pos k]at h;simp at h
    rw[if_neg k]at h ⊢;rw[ih _ h];simp
  simpa using this _ t.airs [] j
 rw[n]at h;exact⟨i,j,h⟩
theorem ix_at{X:Type}{nm:X->ByteArray}{s:ByteArray}{l:List X}(h:hasB (l.map nm) s=true):∃j:Nat,j<l.length/\ixF nm s 0 l=j/\(l[j]?).map nm=some s:=by
 rcases zmf nm s 0 l with⟨_,a⟩|⟨⟨j,b,a,c,_⟩,_⟩
 . rw[h]at a;cases a
 exact⟨j,b,by rw[a,Nat.zero_add],c⟩
theorem zoN{t:TTM}(l:zY t=0){s:ByteArray}(m:hasB (t.airs.map AirM.code) s=true):∃i j:Nat,i<t.airs.length/\j<t.zones.length/\ziu t.airs s=i/\zg4 t.zones (aAt t.airs i).zone=j/\zp t s=zAt t.zones j:=by
 obtain⟨n,o,_⟩:=zfb l;obtain⟨i,e,f,c⟩:=ix_at m;have k:=zkE _ _ _ o;have p:=zks _ _ n;have a:(aAt t.airs i).code=s:=by
  unfold aAt;rw[zt0]
  rw[zt1 e]at c ⊢;simpa using c
 obtain⟨j,g,h,d⟩:=ix_at (nm:=zaC.name) (k.1 i e).2;have b:(zAt t.zones j).name=(aAt t.airs i).zone:=by
  unfold zAt;rw[zt0]
  rw[zt1 g]at d ⊢;simpa using d
 refine⟨i,j,e,g,f,h,?_⟩;unfold zp
 rw[ztB e a k.2];simp only;rw[zrb g b p.2];rfl
def ZPost(w0 w:World)(z:zaC)(g:Value->Value)(e:Ending)(w':World):Prop:=∃a cap,e=.returned (g (.agg #[.string z.name,z.off,.slice a z.sh.length cap]))/\ShAt w0 a z.sh/\z.name.size<=140737488355328/\z.sh.length<=140737488355328/\Below w.heap.size w w'
theorem znz(t:TTM)(Y:zua)(z:Nat)(Z:zua)(B:Nat)(fa:zua)(fc:Nat)(w:World)(ht:zY t=0)(D:World)(hw:Bw D w)(Q:SlAt zcg D Y t.zones)(R:SlAt zei D Z t.airs)(s:ByteArray)(hs:hasB (t.airs.map AirM.code) s=true):
 Calls prog 120 #[aggT t Y z Z B fa fc,.string s] w (ZPost D w (zp t s) λv=>.tuple #[v,.bool true]):=by
 try delta aggC aggT
 obtain⟨i,j,hi,hj,E,F,G⟩:=zoN ht hs;have hl:=zcJ ht;have HJ:=I F;have HI:=I E;rw[G];obtain⟨b,n,rfl,p,H⟩:=zc7 Q (by omega);obtain⟨L,d,rfl,M,q⟩:=zeJ R (by omega);obtain⟨a,m,c0,c1,c2,s1,s2,s3⟩:=H j hj;have d1:=(q i hi).2.1;have S:=I s3;have HZ:=I Q;have HA:=I R;clear H q Q R E F G s3 hs;go_enter func120,ntmps120
 go_wp2_with fail;have HB:=I (ztS (J w (objT t (some ⟨b,n,none⟩) z (some ⟨L,d,none⟩) B fa fc)) (J _ jG));have f:=I (ztS hw HB.1);have C:=I (zd (o':=jG) (zh w (objT t (some ⟨b,n,none⟩) z (some ⟨L,d,none⟩) B fa fc)));have T:=I (zh (w.alloc (objT t (some ⟨b,n,none⟩) z (some ⟨L,d,none⟩) B fa fc)) jG);rw[zr]at T;obtain⟨c,o⟩:∃c,c=w.heap.size+1:=⟨_,rfl⟩;rw[<-o]at T;simp only[<-o];have r:w.heap.size<=c:=by omega
 have a0:w.heap.size<c:=by omega
 clear o;generalize (w.alloc (objT t (some ⟨b,n,none⟩) z (some ⟨L,d,none⟩) B fa fc)).alloc jG=W at*;refine cb (zbE t.airs s (some ⟨L,d,none⟩) B W (HA.1.below f.1) (by omega)) ?_;rw[HI.1];have u0:=zD c0 p f.1;have u1:=zD c1 p f.1;have u2:=zD c2 p f.1;have v1:=zD d1 M f.1;have x:=ztU p f.1.size;have N:=ztU M f.1.size;have P:=I (And.intro v1 (And.intro u0 (And.intro u1 u2)));have q0:=zw C.1;have q1:=zu C.1;have xl:=ztW C.1;clear u0 u1 u2 v1;go_wp2_with fail;clear q0 q1 xl;refine' zxp [⟨14, [],.kn _⟩,⟨15, [14],.kn _⟩,⟨16, [],.kn _⟩,⟨17, [16],.kn _⟩,⟨18, [],.kn _⟩,⟨19, [18],.kn _⟩,⟨20, [],.kn _⟩,⟨21, [19,20],.kn _⟩,⟨22, [21],.kn _⟩,⟨23, [22],.kn _⟩,⟨24, [17,23],.kn (.int .i64 (j:Int))⟩,⟨25, [15,24],.kn _⟩,⟨26, [25],.kn _⟩] [2,6] [26] (λ_ h=>And.intro (zm (j:=0) (blkA h C.1) rfl) (And.intro (zm (j:=1) (blkA h C.1) rfl) (And.intro (zD P.1.1 N h) (And.intro (zD P.1.2.1 x h) (And.intro (zD P.1.2.2.1 x h) (And.intro (zD P.1.2.2.2 x h) (ztW (blkA h C.1)))))))) ?h1 ?c1 ?f1
 case h1=>
  intro u;simp only[rlE,rlL,↓reduceIte,Nat.reduceEqDiff];intros
  refine⟨?_,?_,?_,?_,?_,?_,?_,?_,?_,?_,?_,?_,?_,trivial⟩
  all_goals try (intros;refine rlK (by assumption) ?_;go_simp <;> rfl)
  intro A w1 e p g q1 q2 K k;go_simp;refine cb (zf1 t.zones (aAt t.airs i).zone (some ⟨b,n,none⟩) z w1 (HZ.1.below (ztS f.1 p)) (by omega)) ?_;exact k.1 _ _ ⟨ztT _ _,by rw[HJ.1]⟩
 case c1=>kernel_rfl
 intro u y p;simp only[rlE,rlF,rlL,Act.put,O,↓reduceIte,Nat.reduceEqDiff];intro e1;have l:=I (blkA p T.1);have U:=I (ztS HB.1 p);have z0:=zw l.1;have f0:y.frozen? ⟨c,0,none⟩=false:=zQ l.1;have z1:=zu l.1;have f1:y.frozen? ⟨c,1,none⟩=false:=zQ l.1;have z2:=zC l.1;have f2:y.frozen? ⟨c,2,none⟩=false:=zQ l.1;have rl:=ztW l.1;go_simp;clear z0 z1 z2 f0 f1 f2 rl;go_wp2_with fail;have Q1:(y.setCell ⟨c,0,none⟩ (.string (zAt t.zones j).name)).heap[c]?=some (oZ (zAt t.zones j).name 0 none 0 0):=zg (i:=0) (u:=.string (zAt t.zones j).name) l.1;have Q2:((y.setCell ⟨c,0,none⟩ (.string (zAt t.zones j).name)).setCell ⟨c,1,none⟩ (.int .i64 (zAt t.zones j).off)).heap[c]?=some (oZ (zAt t.zones j).name (zAt t.zones j).off none 0 0):=zg (i:=1) (u:=.int .i64 (zAt t.zones j).off) Q1;have V:(((y.setCell ⟨c,0,none⟩ (.string (zAt t.zones j).name)).setCell ⟨c,1,none⟩ (.int .i64 (zAt t.zones j).off)).setCell ⟨c,2,none⟩ (.slice a (zAt t.zones j).sh.length m)).heap[c]?=some (oZx (zAt t.zones j) a m):=zg (i:=2) (u:=.slice a (zAt t.zones j).sh.length m) Q2;have r0:=zw V;have r1:=zu V;have r2:=zC V;have X:Bw w (((y.setCell ⟨c,0,none⟩ (.string (zAt t.zones j).name)).setCell ⟨c,1,none⟩ (.int .i64 (zAt t.zones j).off)).setCell ⟨c,2,none⟩ (.slice a (zAt t.zones j).sh.length m)):=(((U.1.setCell r _).setCell r _).setCell r _);refine bodyPost_ret (v:=.tuple #[.agg #[.string (zAt t.zones j).name,(zAt t.zones j).off,.slice a (zAt t.zones j).sh.length m],.bool true]) (by simp[results,results120,go_sem,r0,r1,r2]) rfl ?_;exact⟨a,m,rfl,S.1,s1,s2,X⟩
theorem zaN(t:TTM)(m:zua)(p:Nat)(n:zua)(q:Nat)(fa:zua)(fc:Nat)(w:World)(K:zY t=0)(o:World)(L:Bw o w)(D:SlAt zcg o m t.zones)(E:SlAt zei o n t.airs)(s:ByteArray)(M:hasB (t.airs.map AirM.code) s=true):
 Calls prog 76 #[aggT t m p n q fa fc,.string s] w (ZPost o w (zp t s) λv=>v):=by
 try delta aggC aggT
 have N:=I D;have P:=I E;clear D E;go_enter func76,ntmps76
 go_wp2_with fail;have y:=I (ztS (J w (objT t m p n q fa fc)) (J _ jG));have x:=I (zh (w.alloc (objT t m p n q fa fc)) jG);rw[zr]at x;obtain⟨b,f⟩:∃b,b=w.heap.size+1:=⟨_,rfl⟩;rw[<-f]at x;simp only[<-f];have j:w.heap.size<=b:=by omega
 clear f;generalize (w.alloc (objT t m p n q fa fc)).alloc jG=W at*;refine(znz t m p n q fa fc W K o (ztS L y.1) N.1 P.1 s M).mono ?_;rintro e k ⟨a,c,rfl,F,G,H,l⟩;have A:=I (ztS y.1 l);have d:=I (blkA l x.1);have r:=I F;clear l F y x;obtain⟨z,g⟩:∃z,z=zp t s:=⟨_,rfl⟩;rw[<-g]at r G H;simp only[<-g];have h:=I g;clear g;have rl:=ztW d.1;have Q:=zw d.1;have R:=zu d.1;have S:=zC d.1;have T:k.frozen? ⟨b,0,none⟩=false:=zQ d.1;have U:k.frozen? ⟨b,1,none⟩=false:=zQ d.1;have V:k.frozen? ⟨b,2,none⟩=false:=zQ d.1;go_wp2_with fail;clear Q R S T U V;have X:(k.setCell ⟨b,0,none⟩ (.string z.name)).heap[b]?=some (oZ z.name 0 none 0 0):=zg (i:=0) (u:=.string z.name) d.1;have Y:((k.setCell ⟨b,0,none⟩ (.string z.name)).setCell ⟨b,1,none⟩ (.int .i64 z.off)).heap[b]?=some (oZ z.name z.off none 0 0):=zg (i:=1) (u:=.int .i64 z.off) X;have Z:(((k.setCell ⟨b,0,none⟩ (.string z.name)).setCell ⟨b,1,none⟩ (.int .i64 z.off)).setCell ⟨b,2,none⟩ (.slice a z.sh.length c)).heap[b]?=some (oZx z a c):=zg (i:=2) (u:=.slice a z.sh.length c) Y;have B:=zd (o':=(oZx z a c)) Z;have r0:=zw B;have r1:=zu B;have r2:=zC B;have C:Bw w ((((k.setCell ⟨b,0,none⟩ (.string z.name)).setCell ⟨b,1,none⟩ (.int .i64 z.off)).setCell ⟨b,2,none⟩ (.slice a z.sh.length c)).alloc (oZx z a c)):=ztS (((A.1.setCell j _).setCell j _).setCell j _) (J _ _);refine bodyPost_ret (v:=.agg #[.string z.name,z.off,.slice a z.sh.length c]) (by simp[results,results76,go_sem,r0,r1,r2]) rfl ?_;exact⟨a,c,by rw[<-h.1],by rw[<-h.1];exact r.1,by rw[<-h.1];exact G,by rw[<-h.1];exact H,C⟩
theorem zgr(s:ByteArray)(o t:Int)(l:List (Int×Int))(a:zua)(cap:Nat)(w:World)(d:l.length<=1000000)(f:ShAt w a l):
 Calls prog 162 #[.agg #[.string s,o,.slice a l.length cap],t] w λe w'=>e=.returned (offR o l t)/\Bw w w':=by
 rcases f with rfl|⟨b,c,rfl,g,h⟩
 . exact zfD s o t a cap w
 exact ze0 s o t l b c cap w d g h
theorem ziX(z:zaC)(a:zua)(cap:Nat)(t:Int)(w:World)(h:z.name.size<=140737488355328)(i:z.sh.length<=1000000)(f:ShAt w a z.sh):
 Calls prog 163 #[.agg #[.string z.name,z.off,.slice a z.sh.length cap],t] w λe w'=>e=.returned (.int .i64 (zbj z.name.data.toList z.off z.sh t).2.1)/\Bw w w':=by
 have j:=I f;have c:z.name.size<=maxLen:=by unfold maxLen;omega
 clear f h;go_enter func163,ntmps163
 go_wp2_with fail;have g:=I (J w (oZx z a cap));generalize w.alloc (oZx z a cap)=W at*;refine ca (ziv z.name z.off t z.sh a cap W c i (j.1.below g.1)) λk b=>?_;have d:=I (ztS g.1 b);clear b;go_wp2_with fail;go_ret;exact⟨rfl,d.1⟩
theorem zcF{w:World}{p b:Nat}{o:Obj}(h:w.heap[b]?=some o)(a:b≠p)(d e f:Nat)(g i j:Value):(((w.setCell ⟨p,d,none⟩ g).setCell ⟨p,e,none⟩ i).setCell ⟨p,f,none⟩ j).heap[b]?=some o:=by
 have m:=ztW h;have c:some b≠some p:=by simpa using a
 have k:=((Lib.grownBy_setCell w p d g).block b m c).trans h;have l:=((Lib.grownBy_setCell _ p e i).block b (ztW k) c).trans k;exact((Lib.grownBy_setCell _ p f j).block b (ztW l) c).trans l
theorem neb{w:World}{b p:Nat}{c d:Array Value}{t u:TypeId}{f g:Nat×Nat}(h:w.heap[b]?=some (.cells c t f))(a:w.heap[p]?=some (.cells d u g))(e:t≠u):b≠p:=by
 rintro rfl;rw[h]at a;simp at a
 exact e a.2.1
theorem zc3{w:World}{p:Nat}{a b c:Value}{d:TypeId}(h:w.heap[p]?=some (.cells #[a,b,c] d (0,0))):w.cell? ⟨p,0,none⟩=some a/\w.cell? ⟨p,1,none⟩=some b/\w.cell? ⟨p,2,none⟩=some c/\w.frozen? ⟨p,0,none⟩=false/\w.frozen? ⟨p,1,none⟩=false/\w.frozen? ⟨p,2,none⟩=false/\p<w.heap.size:=
 ⟨zm (j:=0) h rfl,zm (j:=1) h rfl,zm (j:=2) h rfl,zQ h,zQ h,zQ h,ztW h⟩
theorem zuw{w:World}{q:Nat}{T:TypeId}{a b:Value}(h:w.heap[q]?=some (Obj.cells #[a,b] T)):w.cell? ⟨q,0,none⟩=some a/\w.cell? ⟨q,1,none⟩=some b/\q<w.heap.size:=⟨zm (j:=0) h rfl,zm (j:=1) h rfl,ztW h⟩
theorem zq9{t:TTM}(a:zY t=0){s:ByteArray}(c:hasB (t.airs.map AirM.code) s=true):zval (zp t s)=0:=by
 obtain⟨i,j,d,b,_,_,e⟩:=zoN a c;rw[e];refine zjf (zfb a).1 _ ?_;unfold zAt
 rw[zt0,zt1 b];exact List.getElem_mem b
theorem zgT{t:TTM}(f:zY t=0){s:ByteArray}(g:hasB (t.airs.map AirM.code) s=true){x:Int}(i:0<=x/\x<52596000):offR (zp t s).off (zp t s).sh x=(zaB (zp t s).name.data.toList (zp t s).off (zp t s).sh x).1:=by
 have h:=zq9 f g;have a:zG (zp t s).name.data.toList (zp t s).off (zp t s).sh=0:=h;have b:zak none (zp t s).sh=0:=by
  unfold zG at a
  by_cases c:zb0 (zp t s).name.data.toList=false
  . rw[if_pos c]at a;omega
  rw[if_neg c]at a;by_cases d:offB (zp t s).off=false
  . rw[if_pos d]at a;omega
  rw[if_neg d]at a;by_cases e:16<(zp t s).sh.length
  . rw[if_pos e]at a;omega
  rwa [if_neg e]at a
 unfold zaB
 rw[if_neg (by simpa using a),if_neg (by simp[insB];omega),zdy _ none _ _ b]
def zqz(t:TTM)(c:ConM)(f1 f2:ByteArray)(x y:Int):Value:=.tuple #[.int .i64 (y-x),.int .i64 (zaJ (zp t f1).name.data.toList (zp t f1).off (zp t f1).sh x y c.nf c.nt).1,(mx (offR (zp t f2).off (zp t f2).sh y-offR (zp t f1).off (zp t f1).sh x) (-(offR (zp t f2).off (zp t f2).sh y-offR (zp t f1).off (zp t f1).sh x))),.int .i64 (zbj (zp t f1).name.data.toList (zp t f1).off (zp t f1).sh x).2.1,.int .i64 (zbj (zp t f2).name.data.toList (zp t f2).off (zp t f2).sh y).2.1]
theorem zqA(t:TTM)(c:ConM)(H:zua)(P:Nat)(L:zua)(Q:Nat)(fa:zua)(fc:Nat)(p:ConP)(w:World)(R:zY t=0)(hz:SlAt zcg w H t.zones)(ha:SlAt zei w L t.airs)(f1 f2:ByteArray)(a0:hasB (t.airs.map AirM.code) f1=true)(a3:hasB (t.airs.map AirM.code) f2=true)(x y:Int)(b0:0<=x/\x<=y/\y<52596000):
 Calls prog 115 #[aggT t H P L Q fa fc,aggC c p,.string f1,.string f2,.agg #[x,y]] w λe w'=>e=.returned (zqz t c f1 f2 x y)/\Bw w w':=by
 try delta aggC aggT
 have HZ:=I hz;have HA:=I ha;clear hz ha;go_enter func115,ntmps115
 go_wp2_with fail;have HB:=I (ztS (ztS (J w (objT t H P L Q fa fc)) (J _ (objC c p))) (J _ (oQ x y)));have F:=I (zd (o':=(oQ x y)) (zd (o':=(objC c p)) (zh w (objT t H P L Q fa fc))));have G:=I (zd (o':=(oQ x y)) (zh (w.alloc (objT t H P L Q fa fc)) (objC c p)));have z:=I (zh ((w.alloc (objT t H P L Q fa fc)).alloc (objC c p)) (oQ x y));rw[zr]at G;rw[zr,zr]at z;obtain⟨sb,B⟩:∃sb,sb=w.heap.size+1+1:=⟨_,rfl⟩;obtain⟨cb,T⟩:∃cb,cb=w.heap.size+1:=⟨_,rfl⟩;rw[<-B]at z;rw[<-T]at G;simp only[<-B];simp only[<-T];clear B T;generalize ((w.alloc (objT t H P L Q fa fc)).alloc (objC c p)).alloc (oQ x y)=W at*;have xl:=ztW F.1;clear xl;refine' rely [⟨19, [],.kn _⟩,⟨20, [],.kn _⟩,⟨21, [19,20],.pu λv=>∃d c1,v=.agg #[.string (zp t f1).name,(zp t f1).off,.slice d (zp t f1).sh.length c1]/\ShAt w d (zp t f1).sh/\(zp t f1).name.size<=140737488355328⟩,⟨22, [],.kn _⟩,⟨23, [],.kn _⟩,⟨24, [22,23],.pu λv=>∃d c1,v=.agg #[.string (zp t f2).name,(zp t f2).off,.slice d (zp t f2).sh.length c1]/\ShAt w d (zp t f2).sh/\(zp t f2).name.size<=140737488355328⟩,⟨15, [],.bx jG⟩,⟨16, [],.bx jG⟩,⟨1008, [15,21],.st 15 21 λ_ o=>∃d c1,o=(oZx (zp t f1) d c1)/\ShAt w d (zp t f1).sh/\(zp t f1).name.size<=140737488355328⟩,⟨1009, [16,24],.st 16 24 λ_ o=>∃d c1,o=(oZx (zp t f2) d c1)/\ShAt w d (zp t f2).sh/\(zp t f2).name.size<=140737488355328⟩] [2,3,5] [1008,1009] (λ_ h=>And.intro (zm (j:=0) (blkA h F.1) rfl) (And.intro (zm (j:=1) (blkA h F.1) rfl) (And.intro (zm (j:=2) (blkA h F.1) rfl) (ztW (blkA h F.1))))) ?h1 ?c1 ?f1
 case h1=>
  intro u;simp only[rlE,↓reduceIte,Nat.reduceEqDiff];intros
  refine⟨?_,?_,?_,?_,?_,?_,?_,?_,?_,?_,trivial⟩
  all_goals try (intros;refine rlK (by assumption) ?_;go_simp <;> rfl)
  . intro A f e b g q1 q2 K k;go_simp;refine(zaN t H P L Q fa fc f R w (ztS HB.1 b) HZ.1 HA.1 f1 a0).mono ?_;rintro e' m ⟨a,q,rfl,h2,U,_,M⟩;exact k.1 _ _ ⟨M,a,q,rfl,h2,U⟩
  . intro A f e b g q1 q2 K k;go_simp;refine(zaN t H P L Q fa fc f R w (ztS HB.1 b) HZ.1 HA.1 f2 a3).mono ?_;rintro e' m ⟨a,q,rfl,h2,U,_,M⟩;exact k.1 _ _ ⟨M,a,q,rfl,h2,U⟩
  . intro A f e b g K k;go_simp;exact k.1 _ _ ⟨J _ _,rfl,zh _ _⟩
  . intro A f e b g K k;go_simp;exact k.1 _ _ ⟨J _ _,rfl,zh _ _⟩
  . rintro A f e b g ⟨p,h1,_,h2⟩ ⟨a,q,U,M,h5⟩ K k;obtain⟨z0,z1,z2,g0,g1,g2,gl⟩:=zc3 h2;go_simp;exact k.1 undef _ ⟨p,_,h1,stS (stS (stS (stR p f))),zg (i:=2) (zg (i:=1) (zg (i:=0) h2)),a,q,rfl,M,h5⟩
  rintro A f e b g ⟨p,h1,_,h2⟩ ⟨a,q,U,M,h5⟩ K k;obtain⟨z0,z1,z2,g0,g1,g2,gl⟩:=zc3 h2;go_simp;exact k.1 undef _ ⟨p,_,h1,stS (stS (stS (stR p f))),zg (i:=2) (zg (i:=1) (zg (i:=0) h2)),a,q,rfl,M,h5⟩
 case c1=>kernel_rfl
 intro u f b;simp only[rlE,rlF,Act.put,O,↓reduceIte,Nat.reduceEqDiff];rintro⟨p6,_,e6,_,S,d,c1,rfl,S1,N1⟩ ⟨p7,_,e7,_,E7,a2,c2,rfl,S2,N2⟩;rw[e6,e7];replace F:=blkA b F.1;replace G:=blkA b G.1;replace z:=blkA b z.1;have BL:=ztS HB.1 b;clear b HB e6 e7;have b1:(zp t f1).name.size<=maxLen:=by unfold maxLen;omega
 have V:(zp t f1).sh.length<=1000000:=by have:=zi3 R f1;omega
 have a4:(zp t f2).sh.length<=1000000:=by have:=zi3 R f2;omega
 obtain⟨b2,c0,b3⟩:=b0;have a5:=zgT R a0 (x:=x) ⟨b2,by omega⟩;have a6:=zgT R a3 (x:=y) ⟨by omega,b3⟩;have a7:=zfE (nm:=(zp t f1).name.data.toList) (o:=(zp t f1).off) (l:=(zp t f1).sh) (t:=x);have a8:=zfE (nm:=(zp t f2).name.data.toList) (o:=(zp t f2).off) (l:=(zp t f2).sh) (t:=y);rw[<-a5]at a7;rw[<-a6]at a8;clear a5 a6;have S1:=I S1;have S2:=I S2;have F:=I F;have G:=I G;have z:=I z;have S:=I S;have E7:=I E7;have BL:=I BL;have c3:=I R;clear R;have k0:=zw S.1;have k1:=zu S.1;have k2:=zC S.1;have kl:=ztW S.1;have m0:=zw z.1;have m1:=zu z.1;have ml:=ztW z.1;have y5:=zbn G.1;have y6:=zbm G.1;have yl:=ztW G.1;go_wp2_with fail;refine(zgP (zp t f1).name (zp t f1).off x y c.nf c.nt (zp t f1).sh d c1 f b1 V (S1.1.below BL.1)).mono ?_;rintro e m ⟨rfl,C⟩;have D:=I (blkA C z.1);have r:=I (blkA C S.1);have s:=I (blkA C E7.1);have N:=I (ztS BL.1 C);clear C k0 k1 k2 kl m0 m1 ml y5 y6 yl F G z S E7 BL;have k0:=zw r.1;have k1:=zu r.1;have k2:=zC r.1;have kl:=ztW r.1;have j0:=zw s.1;have j1:=zu s.1;have j2:=zC s.1;have jl:=ztW s.1;have m0:=zw D.1;have m1:=zu D.1;have ml:=ztW D.1;have C1:=I (λdd os=>ztZ (zgr (zp t f2).name (zp t f2).off y (zp t f2).sh a2 c2 (grow (redrawn m dd) os) a4 (S2.1.below (ztS N.1 (below_regrown m dd os)))));have C2:=I (λdd os=>ztZ (zgr (zp t f1).name (zp t f1).off x (zp t f1).sh d c1 (grow (redrawn m dd) os) V (S1.1.below (ztS N.1 (below_regrown m dd os)))));obtain⟨ni,X⟩:∃n,n=(zaJ (zp t f1).name.data.toList (zp t f1).off (zp t f1).sh x y c.nf c.nt).1:=⟨_,rfl⟩;simp only[<-X];have b4:=I X;clear X;go_wp2_with fail;have r0:=λdd os=>cell_regrown k0 dd os
 have r1:=λdd os=>cell_regrown k1 dd os
 have r2:=λdd os=>cell_regrown k2 dd os
 have r3:=λdd os=>cell_regrown j0 dd os
 have r4:=λdd os=>cell_regrown j1 dd os
 have r5:=λdd os=>cell_regrown j2 dd os
 have r6:=λdd os=>cell_regrown m0 dd os
 have r7:=λdd os=>cell_regrown m1 dd os
 refine wp_region_quiet_below (by kernel_rfl) (by kernel_rfl) ?_;repeat (first|go_big_quiet_step (first|(with_reducible exact C1.1 _ _)|(with_reducible exact C2.1 _ _))|quiet_step (first|(with_reducible exact C1.1 _ _)|(with_reducible exact C2.1 _ _)))
 refine wpQuiet_nil ?_;intro _ b5;obtain⟨⟨dq,E⟩,a9⟩:=b5;subst a9;have b6:=I (blkA (below_regrown m dq E) D.1);have b7:=I (blkA (below_regrown m dq E) r.1);have b8:=I (blkA (below_regrown m dq E) s.1);have Y:=I (ztS N.1 (below_regrown m dq E));clear r0 r1 r2 r3 r4 r5 r6 r7 C1 C2 k0 k1 k2 kl j0 j1 j2 jl m0 m1 ml D r s N;generalize grow (redrawn m dq) E=W3 at*;obtain⟨sh,Z⟩:∃n,n=(offR (zp t f2).off (zp t f2).sh y-offR (zp t f1).off (zp t f1).sh x):=⟨_,rfl⟩;simp only[<-Z];have b9:=I Z;have c4:-1680<=sh/\sh<=1680:=by omega
 have c5:IntKind.i64.wrap (-sh)=-sh:=by rw[IntKind.wrap_i64];omega
 have c6:IntKind.i64.wrap (y-x)=y-x:=by rw[IntKind.wrap_i64];omega
 clear Z a7 a8;go_wp2_with fail;refine' rely [⟨49, [],.kn _⟩,⟨50, [49],.kn _⟩,⟨51, [],.kn _⟩,⟨52, [51],.kn _⟩,⟨53, [50,52],.kn _⟩,⟨54, [],.kn _⟩,⟨55, [],.kn _⟩,⟨56, [],.kn _⟩,⟨57, [56],.kn _⟩,⟨58, [55,57],.kn (.int .i64 (mx sh (-sh)))⟩,⟨59, [],.kn _⟩,⟨60, [],.kn _⟩,⟨61, [60],.kn _⟩,⟨62, [59,61],.kn (.int .i64 (zbj (zp t f1).name.data.toList (zp t f1).off (zp t f1).sh x).2.1)⟩,⟨63, [],.kn _⟩,⟨64, [],.kn _⟩,⟨65, [64],.kn _⟩,⟨66, [63,65],.kn (.int .i64 (zbj (zp t f2).name.data.toList (zp t f2).off (zp t f2).sh y).2.1)⟩,⟨10, [53],.kn _⟩,⟨11, [54],.kn _⟩,⟨12, [58],.kn _⟩,⟨13, [62],.kn _⟩,⟨14, [66],.kn _⟩] [9,15,16,17,18] [10,11,12,13,14] (λ_ h=>And.intro (zuw (blkA h b6.1)) (And.intro (zc3 (blkA h b7.1)) (zc3 (blkA h b8.1)))) ?h2 ?c2 ?f2
 case h2=>
  intro u;simp only[rlE,↓reduceIte,Nat.reduceEqDiff];intros
  refine⟨?_,?_,?_,?_,?_,?_,?_,?_,?_,?_,?_,?_,?_,?_,?_,?_,?_,?_,?_,?_,?_,?_,?_,trivial⟩
  all_goals try (intros;refine rlK (by assumption) ?_;go_simp <;> rfl)
  . intros
    refine rlK (by assumption) ?_;unfold mx
    go_simp;split <;> omega
  . intro A f e b g q1 q2 K k;go_simp;refine(ziX (zp t f1) d c1 x f N1 V (S1.1.below (ztS Y.1 b))).mono ?_;rintro e' m ⟨rfl,h⟩;exact k.1 _ _ ⟨h,rfl⟩
  intro A f e b g q1 q2 K k;go_simp;refine(ziX (zp t f2) a2 c2 y f N2 a4 (S2.1.below (ztS Y.1 b))).mono ?_;rintro e' m ⟨rfl,h⟩;exact k.1 _ _ ⟨h,rfl⟩
 case c2=>kernel_rfl
 intro u w5 b;simp only[rlE,rlF,Act.put,O,↓reduceIte,Nat.reduceEqDiff];intro h1 h2 U M h5;go_wp2_with fail;refine bodyPost_ret (v:=zqz t c f1 f2 x y) (by simp[results,results115,go_sem,zqz,b4.1,b9.1,h1,h2,U,M,h5]) rfl ?_;exact⟨rfl,ztS Y.1 b⟩
theorem zrE:(prog.info? 79).map (λi=>(i.zero,i.size,i.bytes))=some (some (.agg #[.string ByteArray.empty,.int .i64 0]),2,24):=by kernel_rfl
def ARow(w0:World)(N:List ByteArray)(q:List Int)(e:Ending)(w':World):Prop:=∃v base,e=.returned v/\w0.heap.size<=base/\w'.ownsRow base 79 2 v q.length (zbL N q q.length)/\Below w0.heap.size w0 w'
theorem zoD(k:Nat)(h0:0<k)(hk:k<4)(q:List Int)(qa:zua)(qc:Nat)(w:World)(hq:q.length=(zk k).length)(hI:zW w qa q):Calls prog 77 #[k,.slice qa q.length qc] w (ARow w (zk k) q):=by
 have a4:=zdF k;obtain⟨i0,hi,R,S,T⟩:=info_parts zrE;have HI:=I hI;clear hI;go_enter func77,ntmps77
 go_wp2_with fail;refine(zbT k hk w).mono ?_;rintro e s ⟨na,nc,rfl,hA,C⟩;have HN:=I hA;have U:=I (HI.1.below C);have H:=I C;have HO:=I (show s.ownsRow s.heap.size 79 2 (.slice none 0 0) 0 (zbL (zk k) q 0) from⟨rfl,.inl ⟨rfl,rfl⟩⟩);clear hA C HI;go_wp2_with fail;go_loopw [5,7] (λl i wr=>∃(j:Nat) (v:Value),j<=(zk k).length/\i=.int .i64 j/\v=l/\ztR (wr.ownsRow s.heap.size 79 2 v j (zbL (zk k) q j))/\ztR (Bw s wr)) (λ_ i _=>(zk k).length-(intOf i).toNat)
 case atStart=>exact⟨0,_,ztX _,rfl,rfl,HO,I (ztT _ _)⟩
 clear HO;obtain⟨j,v,hj,rfl,rfl,V,n⟩:=hrel;by_cases W:j<(zk k).length
 . have X:j<q.length:=by omega
   obtain⟨b,f,Y,Z,L⟩:=HN.1.cells (by omega);obtain⟨G,c,a0,D,x⟩:=U.1.cells (by omega);have d0:=L j W;have d1:=x j X;subst Y;subst a0;clear L x;go_wp2_with fail;have d:=I n.1.drew;have E:ztR (wr.drew.ownsRow s.heap.size 79 2 v j (zbL (zk k) q j)):=V;have a:wr.drew.cell? ⟨b,f+j,none⟩=some (.string (sAt (zk k) j))/\wr.drew.cell? ⟨G,c+j,none⟩=some (.int .i64 (iAt q j)):=⟨zD d0 Z d.1,zD d1 D d.1⟩;obtain⟨y,F⟩:∃y,wr.drew=y:=⟨_,rfl⟩;rw[F]at d E a;have a1:=ztU Z d.1.size;have M:=ztU D d.1.size;clear V n;refine zbD (λw'=>w'.cell? ⟨b,f+j,none⟩=some (.string (sAt (zk k) j))/\w'.cell? ⟨G,c+j,none⟩=some (.int .i64 (iAt q j))) [] (by kernel_rfl) F ?_;clear F;refine zx (i:=0) (v:=v) rfl (λw' hS'=>?_) a ?_
   . obtain⟨z,A⟩:=hS';go_simp
   try simp only[Act.put,O]
   refine zx (i:=1) (v:=.slice (some ⟨b,f,none⟩) (zk k).length nc) rfl (λw' hS'=>?_) a ?_
   . obtain⟨z,A⟩:=hS';go_simp
   try simp only[Act.put,O]
   refine zx (i:=2) (v:=.int .i64 (j:Int)) rfl (λw' hS'=>?_) a ?_
   . obtain⟨z,A⟩:=hS';go_simp
   try simp only[Act.put,O]
   refine zx (i:=3) (v:=.pointer (some ⟨b,f+j,none⟩)) rfl (λw' hS'=>?_) a ?_
   . obtain⟨z,A⟩:=hS';go_simp
   try simp only[Act.put,O]
   refine zx (i:=4) (v:=.string (sAt (zk k) j)) rfl (λw' hS'=>?_) a ?_
   . obtain⟨z,A⟩:=hS';go_simp
   try simp only[Act.put,O]
   refine zx (i:=5) (v:=.slice (some ⟨G,c,none⟩) q.length qc) rfl (λw' hS'=>?_) a ?_
   . obtain⟨z,A⟩:=hS';go_simp
   try simp only[Act.put,O]
   refine zx (i:=6) (v:=.int .i64 (j:Int)) rfl (λw' hS'=>?_) a ?_
   . obtain⟨z,A⟩:=hS';go_simp
   try simp only[Act.put,O]
   refine zx (i:=7) (v:=.pointer (some ⟨G,c+j,none⟩)) rfl (λw' hS'=>?_) a ?_
   . obtain⟨z,A⟩:=hS';go_simp
   try simp only[Act.put,O]
   refine zx (i:=8) (v:=.int .i64 (iAt q j)) rfl (λw' hS'=>?_) a ?_
   . obtain⟨z,A⟩:=hS';go_simp
   try simp only[Act.put,O]
   refine zT (i:=9) (v:=.agg #[.string (sAt (zk k) j),(iAt q j)]) rfl (λw'=>?_) ?_
   . go_simp
   try simp only[Act.put,O]
   refine zo (i:=10) (o:={dst:=some 26,op:=Op.buildSlice 41 1 #[(0,Operand.tmp 25)],type:=41,pos:= "measure.go:145",after:=_,guard:=none}) (by kernel_rfl) rfl (by rfl) (λK hK=>?_);go_simp;refine hK.1 _ _ (λ_ h=>⟨zD h.1 a1 (J y _),zD h.2 M (J y _)⟩) ?_;clear hK K;try simp only[Act.put,O]
   refine zo (i:=11) (o:={dst:=some 27,op:=Op.call {callee:=Callee.builtin Builtin.append,args:=#[Operand.tmp 16,Operand.tmp 26],argTypes:=#[41,41]},type:=41,pos:= "measure.go:145",after:=_,guard:=none}) (by kernel_rfl) rfl (by rfl) (λK hK=>?_);refine wp_append_lies _ (Operand.tmp 16) (Operand.tmp 26) 41 rfl s.heap.size 79 i0 (.agg #[.string ByteArray.empty,.int .i64 0]) 2 24 underlying41 hi R S T rfl (by decide) v j _ rfl (E.1.alloc _) ⟨y.heap.size,0,none⟩ 1 1 [.string (sAt (zk k) j),.int .i64 (iAt q j)] rfl rfl (zaa y [.string (sAt (zk k) j),.int .i64 (iAt q j)] 79) ?q1 (by decide) ?q2 ?q3 ?q4 _ rfl ?q5
   case q1=>intro u hu;simp at hu;rcases hu with rfl|rfl <;> rfl
   case q2=>unfold maxLen;omega
   case q3=>omega
   case q4=>have:=d.1.size;simp;omega
   intro g a2 w3 B r a3 N;have P:=I (show w3.ownsRow s.heap.size 79 2 (.slice (some ⟨g,0,none⟩) (j+1) a2) (j+1) (zbL (zk k) q (j+1)) from B);have t:=I ((ztS d.1 (J y (Obj.cells #[.string (sAt (zk k) j),(iAt q j)] 79))).grown r (ztS d.1 (J y (Obj.cells #[.string (sAt (zk k) j),(iAt q j)] 79))).size (λm hm=>zaM E.1 m hm));have Q:w3.cell? ⟨b,f+j,none⟩=some (.string (sAt (zk k) j))/\w3.cell? ⟨G,c+j,none⟩=some (.int .i64 (iAt q j)):=⟨(t.1.cell (p:=⟨b,f+j,none⟩) Z).trans d0,(t.1.cell (p:=⟨G,c+j,none⟩) D).trans d1⟩;clear B r a3 N;refine hK.1 _ _ (λ_ _=>Q) ?_;clear hK K Q;try simp only[Act.put,O]
   refine zo (i:=12) (o:={dst:=some 5,op:=Op.assign (Operand.tmp 27),type:=41,pos:= "measure.go:145",after:=_,guard:=none}) (by kernel_rfl) rfl (by rfl) (λK hK=>?_);go_simp;refine hK.1 _ _ (λ_ h=>h) ?_;clear hK K a;try simp only[Act.put,O]
   refine zM (by kernel_rfl) ?_;go_wp2_with fail;go_roundw
   case rel=>first|exact⟨j+1,_,by omega,by go_num,rfl,P,t⟩|((repeat apply Exists.intro);exact⟨⟨j+1,_,by omega,by go_num,rfl,P,t⟩,rfl⟩)
   case measure=>simp[intOf];omega
 obtain rfl:j=(zk k).length:=by omega
 have HR:=I (show wr.ownsRow s.heap.size 79 2 v q.length (zbL (zk k) q q.length) by rw[hq];exact V.1);go_wp2_with fail;go_ret;exact⟨v,s.heap.size,rfl,H.1.size,HR.1,ztS H.1 n.1⟩
theorem zfV{t:TTM}(e:zY t=0){m:Nat}(b:m<t.fls.length):hasB (t.airs.map AirM.code) (fAt t.fls m).frm=true/\hasB (t.airs.map AirM.code) (fAt t.fls m).to=true:=by
 have a:=zjg (zfb e).2.2 (fAt t.fls m) (by
  unfold fAt
  rw[zt0,zt1 b];exact List.getElem_mem b)
 unfold zbh at a
 by_cases c:(zfo (fAt t.fls m).num.data.toList&&zb0 (fAt t.fls m).typ.data.toList)=false
 . rw[if_pos c]at a;omega
 rw[if_neg c]at a;by_cases d:(hasB (t.airs.map AirM.code) (fAt t.fls m).frm&&hasB (t.airs.map AirM.code) (fAt t.fls m).to)=false
 . rw[if_pos d]at a;omega
 simpa using d
theorem mx_neg(a b:Int):mx (a-b) (-(a-b))=mx (b-a) (a-b):=by
 unfold mx
 split <;> split <;> omega
theorem ztd{t:TTM}{c:ConM}{d:Duty}(a:zY t=0)(f:valT c=0)(g:za6 t c d=0):zqz t c (fAt t.fls (fstN d)).frm (fAt t.fls (lstN d)).to (zcK t c d).1 (zcK t c d).2=.tuple #[(zlR t c (fstN d) (lstN d)),(zfF t c (fstN d) (lstN d)),(zcT t c (fstN d) (lstN d)),(zdd t c (fstN d)),(endI t c (lstN d))]:=by
 obtain⟨h,b,i,e⟩:=zfN g;have n:=zas a b;have o:=zas a e;obtain⟨j,k,_⟩:=zdl f;have p:=zhh a f g;have l:(zcK t c d).1=(fAt t.fls (fstN d)).dep-c.report:=rfl;have m:(zcK t c d).2=(fAt t.fls (lstN d)).arr+c.release:=rfl;rw[l,m];unfold zqz
 rw[zgT a (zfV a b).1 (by omega),zgT a (zfV a e).2 (by omega),mx_neg];rfl
theorem znp{t:TTM}{c:ConM}{d:Duty}(a:zY t=0)(f:valT c=0)(g:za6 t c d=0):0<=(zcK t c d).1/\(zcK t c d).1<=(zcK t c d).2/\(zcK t c d).2<52596000:=by
 obtain⟨h,b,i,e⟩:=zfN g;have n:=zas a b;have o:=zas a e;obtain⟨j,k,_⟩:=zdl f;have p:=zhh a f g;have l:(zcK t c d).1=(fAt t.fls (fstN d)).dep-c.report:=rfl;have m:(zcK t c d).2=(fAt t.fls (lstN d)).arr+c.release:=rfl;rw[l,m];omega
theorem zdY(t:TTM)(d:Duty)(k:Nat):dvTo t d (k+1)=dvA t d k (dvB t d k (dvTo t d k)):=by
 rw[dvTo];generalize dvTo t d k=s;unfold dvA dvB
 by_cases a:(tAt d k).2=true <;> by_cases b:0<k <;> simp only[a,b,if_true,if_false] <;> rfl
theorem zeT(l:List ByteArray)(j:Nat)(a:j<l.length)(s:ByteArray):hasB (l.take (j+1)) s=(hasB (l.take j) s || (l.getD j ByteArray.empty).toList==s.toList):=by
 rw[show l.take (j+1)=l.take j++ [l[j]] by simp,zfM,zjM];congr 1
 rw[zt0,zt1 a];simp only[Option.getD_some];by_cases h:s=l[j]
 . subst h;simp
 have b:¬ l[j]=s:=λe=>h e.symm
 have:((l[j]).toList==s.toList)=false:=by
  rw[beq_eq_false_iff_ne];intro e;exact b (zf8 (by rw[e];simp))
 rw[this];simp[h]
end Go.Proofs.YtbhhejkolnigfaaGreat
