/- a part of the proof -/
import Derived.Test.YtdolonpblgfjdaaGreatGJ
set_option linter.unusedVariables false
set_option linter.unusedSimpArgs false
set_option maxRecDepth 100000
set_option maxHeartbeats 12800000
namespace Go.Proofs.YtdolonpblgfjdaaGreat
open Go.RowKit Go.Sort Go.Proofs.Tryz
theorem zfM(l m:List ByteArray)(s:ByteArray):hasB (l++m) s=(hasB l s || hasB m s):=by rw[hasB,hasB,hasB,List.any_append]
theorem zjM(x s:ByteArray):hasB [x] s=decide (s=x):=by simp[hasB]
theorem zks:∀(l:List zaC) (acc:List ByteArray),(valZ acc l).1=0→(∀j,j<l.length→hasB acc (zAt l j).name=false)∧∀i j,i<j→j<l.length→(zAt l i).name≠(zAt l j).name
 |[],acc,_=>⟨fun j hj=>by simp at hj,fun i j _ hj=>by simp at hj⟩
 |z::l,acc,h=>by
  rw[valZ]at h;by_cases a:zval z≠0
  · rw[if_pos a]at h;exact absurd h a
  rw[if_neg a]at h;by_cases b:hasB acc z.name=true
  · rw[if_pos b]at h;simp at h
  rw[if_neg b]at h;obtain⟨d,f⟩:=zks l _ h;have c:hasB acc z.name=false:=by simpa using b
  refine⟨fun j hj=>?_,fun i j hij hj=>?_⟩
  · cases j with
    |zero=>exact c
    |succ j=>
     have:=d j (by simpa using hj);rw[zfM,Bool.or_eq_false_iff]at this;exact this.1
  cases j with
  |zero=>omega
  |succ j=>
   cases i with
   |zero=>
    have:=d j (by simpa using hj);rw[zfM,Bool.or_eq_false_iff,zjM]at this;have g:¬ (zAt l j).name=z.name:=by simpa using this.2
    exact fun e=>g e.symm
   |succ i=>exact f i j (by omega) (by simpa using hj)
theorem zkE(a:List ByteArray):∀(l:List AirM) (acc:List ByteArray),(valA a acc l).1=0→(∀j,j<l.length→hasB acc (aAt l j).code=false∧hasB a (aAt l j).zone=true)∧∀i j,i<j→j<l.length→(aAt l i).code≠(aAt l j).code
 |[],acc,_=>⟨fun j hj=>by simp at hj,fun i j _ hj=>by simp at hj⟩
 |z::l,acc,h=>by
  rw[valA]at h;by_cases g:airB z.code.data.toList=false
  · rw[if_pos g]at h;simp at h
  rw[if_neg g]at h;by_cases c:hasB acc z.code=true
  · rw[if_pos c]at h;simp at h
  rw[if_neg c]at h;by_cases b:hasB a z.zone=false
  · rw[if_pos b]at h;simp at h
  rw[if_neg b]at h;obtain⟨k,m⟩:=zkE a l _ h;have d:hasB acc z.code=false:=by simpa using c
  have f:hasB a z.zone=true:=by simpa using b
  refine⟨fun j hj=>?_,fun i j hij hj=>?_⟩
  · cases j with
    |zero=>exact⟨d,f⟩
    |succ j=>
     have:=k j (by simpa using hj);rw[zfM,Bool.or_eq_false_iff]at this;exact⟨this.1.1,this.2⟩
  cases j with
  |zero=>omega
  |succ j=>
   cases i with
   |zero=>
    have:=(k j (by simpa using hj)).1;rw[zfM,Bool.or_eq_false_iff,zjM]at this;have b:¬ (aAt l j).code=z.code:=by simpa using this.2
    exact fun e=>b e.symm
   |succ i=>exact m i j (by omega) (by simpa using hj)
theorem zrb{l:List zaC}{s:ByteArray}{j:Nat}(c:j<l.length)(a:(zAt l j).name=s)(d:∀i j,i<j→j<l.length→(zAt l i).name≠(zAt l j).name):ze6 l s=some (zAt l j):=by
 have b:∀n,n≤l.length→ze6 (l.take n) s=if j<n then some (zAt l j) else none:=by
  intro n;induction n with
  |zero=>intro _;rfl
  |succ n ih=>
   intro f;rw[zo9 l n (by omega),ziy,ih (by omega)];by_cases e:(zAt l n).name=s
   · have:n=j:=by
      rcases Nat.lt_trichotomy n j with h|h|h
      · exact absurd (e.trans a.symm) (d n j h c)
      · exact h
      exact absurd (a.trans e.symm) (d j n h (by omega))
     subst this;rw[if_pos e,if_pos (by omega)]
   have:n≠j:=fun h=>e (h ▸ a)
   rw[if_neg e];by_cases g:j<n
   · rw[if_pos g,if_pos (by omega)]
   rw[if_neg g,if_neg (by omega)]
 have:=b l.length (ztY _);rwa [List.take_length,if_pos c]at this
theorem ztB{l:List AirM}{s:ByteArray}{j:Nat}(c:j<l.length)(a:(aAt l j).code=s)(d:∀i j,i<j→j<l.length→(aAt l i).code≠(aAt l j).code):airN l s=some (aAt l j):=by
 have b:∀n,n≤l.length→airN (l.take n) s=if j<n then some (aAt l j) else none:=by
  intro n;induction n with
  |zero=>intro _;rfl
  |succ n ih=>
   intro f;rw[zpe l n (by omega),zlM,ih (by omega)];by_cases e:(aAt l n).code=s
   · have:n=j:=by
      rcases Nat.lt_trichotomy n j with h|h|h
      · exact absurd (e.trans a.symm) (d n j h c)
      · exact h
      exact absurd (a.trans e.symm) (d j n h (by omega))
     subst this;rw[if_pos e,if_pos (by omega)]
   have:n≠j:=fun h=>e (h ▸ a)
   rw[if_neg e];by_cases g:j<n
   · rw[if_pos g,if_pos (by omega)]
   rw[if_neg g,if_neg (by omega)]
 have:=b l.length (ztY _);rwa [List.take_length,if_pos c]at this
theorem zfb{t:TTM}(h:zY t=0):(valZ [] t.zones).1=0∧(valA (t.zones.map zaC.name) [] t.airs).1=0∧valF (t.airs.map AirM.code) none t.fls=0:=by
 unfold zY at h
 by_cases g:16<t.zones.length∨64<t.airs.length∨200<t.fls.length
 · rw[if_pos g]at h;omega
 rw[if_neg g]at h;by_cases d:(valZ [] t.zones).1≠0
 · rw[if_pos d]at h;exact absurd h d
 rw[if_neg d]at h;have i:=Classical.not_not.1 d;have m:(valZ [] t.zones).2=t.zones.map zaC.name:=by
  have:∀(l:List zaC) (a:List ByteArray),(valZ a l).1=0→(valZ a l).2=a++l.map zaC.name:=by
   intro l;induction l with
   |nil=>intro a _;simp[valZ]
   |cons z l ih=>
    intro a h;rw[valZ]at h ⊢;by_cases b:zval z≠0
    · rw[if_pos b]at h;exact absurd h b
    rw[if_neg b]at h ⊢;by_cases c:hasB a z.name=true
    · rw[if_pos c]at h;simp at h
    rw[if_neg c]at h ⊢;rw[ih _ h];simp
  simpa using this t.zones [] i
 rw[m]at h;by_cases e:(valA (t.zones.map zaC.name) [] t.airs).1≠0
 · rw[if_pos e]at h;exact absurd h e
 rw[if_neg e]at h;have j:=Classical.not_not.1 e;have n:(valA (t.zones.map zaC.name) [] t.airs).2=t.airs.map AirM.code:=by
  have:∀(f:List ByteArray) (l:List AirM) (a:List ByteArray),(valA f a l).1=0→(valA f a l).2=a++l.map AirM.code:=by
   intro f l;induction l with
   |nil=>intro a _;simp[valA]
   |cons z l ih=>
    intro a h;rw[valA]at h ⊢;by_cases b:airB z.code.data.toList=false
    · rw[if_pos b]at h;simp at h
    rw[if_neg b]at h ⊢;by_cases c:hasB a z.code=true
    · rw[if_pos c]at h;simp at h
    rw[if_neg c]at h ⊢;by_cases k:hasB f z.zone=false
    · rw[if_pos k]at h;simp at h
    rw[if_neg k]at h ⊢;rw[ih _ h];simp
  simpa using this _ t.airs [] j
 rw[n]at h;exact⟨i,j,h⟩
theorem ix_at{X:Type}{nm:X→ByteArray}{s:ByteArray}{l:List X}(h:hasB (l.map nm) s=true):∃j:Nat,j<l.length∧ixF nm s 0 l=j∧(l[j]?).map nm=some s:=by
 rcases zmf nm s 0 l with⟨_,a⟩|⟨⟨j,b,a,c,_⟩,_⟩
 · rw[h]at a;cases a
 exact⟨j,b,by rw[a,Nat.zero_add],c⟩
theorem zoN{t:TTM}(l:zY t=0){s:ByteArray}(m:hasB (t.airs.map AirM.code) s=true):∃i j:Nat,i<t.airs.length∧j<t.zones.length∧ziu t.airs s=i∧zg4 t.zones (aAt t.airs i).zone=j∧zp t s=zAt t.zones j:=by
 obtain⟨n,o,_⟩:=zfb l;obtain⟨i,e,f,c⟩:=ix_at m;have k:=zkE _ _ _ o;have p:=zks _ _ n;have a:(aAt t.airs i).code=s:=by
  unfold aAt;rw[zt0]
  rw[zt1 e]at c ⊢;simpa using c
 obtain⟨j,g,h,d⟩:=ix_at (nm:=zaC.name) (k.1 i e).2;have b:(zAt t.zones j).name=(aAt t.airs i).zone:=by
  unfold zAt;rw[zt0]
  rw[zt1 g]at d ⊢;simpa using d
 refine⟨i,j,e,g,f,h,?_⟩;unfold zp
 rw[ztB e a k.2];simp only;rw[zrb g b p.2];rfl
def ZPost(w0 w:World)(z:zaC)(g:Value→Value)(e:Ending)(w':World):Prop:=∃a cap,e=.returned (g (.agg #[.string z.name,.int .i64 z.off,.slice a z.sh.length cap]))∧ShAt w0 a z.sh∧z.name.size≤140737488355328∧z.sh.length≤140737488355328∧Below w.heap.size w w'
theorem znz(t:TTM)(za:zua)(D:Nat)(aa:zua)(E:Nat)(fa:zua)(fc:Nat)(w:World)(ht:zY t=0)(M:World)(hw:Below M.heap.size M w)(Y:SlAt zcg M za t.zones)(Z:SlAt zei M aa t.airs)(s:ByteArray)(hs:hasB (t.airs.map AirM.code) s=true):
 Calls prog 162 #[.agg #[.slice za t.zones.length D,.slice aa t.airs.length E,.slice fa t.fls.length fc],.string s] w (ZPost M w (zp t s) fun v=>.tuple #[v,.bool true]):=by
 obtain⟨i,j,hi,hj,N,P,Q⟩:=zoN ht hs;have hl:=zcJ ht;have HJ:=I P;have HI:=I N;rw[Q];obtain⟨b,d,rfl,U,R⟩:=zc7 Y (by omega);obtain⟨n,c,rfl,S,F⟩:=zeJ Z (by omega);obtain⟨a,k,c0,c1,c2,s1,s2,s3⟩:=R j hj;have d1:=(F i hi).2.1;have a0:=I s3;have HZ:=I Y;have HA:=I Z;clear R F Y Z N P Q s3 hs;go_enter func162,ntmps162
 go_wp2_with fail;have HB:=I (ztS (J w (Obj.cells #[.slice (some ⟨b,d,none⟩) t.zones.length D,.slice (some ⟨n,c,none⟩) t.airs.length E,.slice fa t.fls.length fc] 26)) (J _ zaf));have m:=I (ztS hw HB.1);have V:=I (zd (o':=zaf) (zh w (Obj.cells #[.slice (some ⟨b,d,none⟩) t.zones.length D,.slice (some ⟨n,c,none⟩) t.airs.length E,.slice fa t.fls.length fc] 26)));have X:=I (zh (w.alloc (Obj.cells #[.slice (some ⟨b,d,none⟩) t.zones.length D,.slice (some ⟨n,c,none⟩) t.airs.length E,.slice fa t.fls.length fc] 26)) (Obj.cells #[.string ⟨#[]⟩,.int .i64 0,.slice none 0 0] 129));rw[zr]at X;obtain⟨g,r⟩:∃g,g=w.heap.size+1:=⟨_,rfl⟩;rw[←r]at X;simp only[←r];have H:w.heap.size≤g:=by omega
 have a3:w.heap.size<g:=by omega
 clear r;generalize (w.alloc (Obj.cells #[.slice (some ⟨b,d,none⟩) t.zones.length D,.slice (some ⟨n,c,none⟩) t.airs.length E,.slice fa t.fls.length fc] 26)).alloc (Obj.cells #[.string ⟨#[]⟩,.int .i64 0,.slice none 0 0] 129)=W at*;refine(zbE t.airs s (some ⟨n,c,none⟩) E W (HA.1.below m.1) (by omega)).mono ?_;rintro e w1 ⟨rfl,rfl⟩;rw[HI.1];have u0:=zD c0 U m.1;have u1:=zD c1 U m.1;have u2:=zD c2 U m.1;have v1:=zD d1 S m.1;have T:=ztU U m.1.size;have G:=ztU S m.1.size;have xl:=ztW V.1;have L:=I HB.1.drew;have l:ztR (W.drew.heap[g]?=some (.cells #[.string ⟨#[]⟩,.int .i64 0,.slice none 0 0] 129 (0,0))):=X;have f:W.drew.cell? ⟨w.heap.size,0,none⟩=some (.slice (some ⟨b,d,none⟩) t.zones.length D)∧W.drew.cell? ⟨w.heap.size,1,none⟩=some (.slice (some ⟨n,c,none⟩) t.airs.length E)∧W.drew.cell? ⟨n,c+i*2+1,none⟩=some (.string (aAt t.airs i).zone)∧W.drew.cell? ⟨b,d+j*3,none⟩=some (.string (zAt t.zones j).name)∧W.drew.cell? ⟨b,d+j*3+1,none⟩=some (.int .i64 (zAt t.zones j).off)∧W.drew.cell? ⟨b,d+j*3+2,none⟩=some (.slice a (zAt t.zones j).sh.length k):=⟨zm (j:=0) V.1 rfl,zm (j:=1) V.1 rfl,v1,u0,u1,u2⟩;obtain⟨p,q⟩:∃p,W.drew=p:=⟨_,rfl⟩;rw[q]at L l f;have a1:=I (HZ.1.below (ztS hw L.1));have a5:w.heap.size<p.heap.size:=q ▸ xl;have a6:b<p.heap.size:=q ▸ T;have a4:n<p.heap.size:=q ▸ G;clear X V u0 u1 u2 v1 xl T G;go_wp2_with fail;refine zbD (fun w'=>w'.cell? ⟨w.heap.size,0,none⟩=some (.slice (some ⟨b,d,none⟩) t.zones.length D)∧w'.cell? ⟨w.heap.size,1,none⟩=some (.slice (some ⟨n,c,none⟩) t.airs.length E)∧w'.cell? ⟨n,c+i*2+1,none⟩=some (.string (aAt t.airs i).zone)∧w'.cell? ⟨b,d+j*3,none⟩=some (.string (zAt t.zones j).name)∧w'.cell? ⟨b,d+j*3+1,none⟩=some (.int .i64 (zAt t.zones j).off)∧w'.cell? ⟨b,d+j*3+2,none⟩=some (.slice a (zAt t.zones j).sh.length k)) [13] (by kernel_rfl) q ?_;clear q;refine zx (i:=0) (v:=.pointer (some ⟨w.heap.size,0,none⟩)) rfl (fun w' hS'=>?_) f ?_
 · obtain⟨x,y,z,A,B,C⟩:=hS';go_simp
 try simp only[Act.put,O]
 refine zx (i:=1) (v:=.slice (some ⟨b,d,none⟩) t.zones.length D) rfl (fun w' hS'=>?_) f ?_
 · obtain⟨x,y,z,A,B,C⟩:=hS';go_simp
 try simp only[Act.put,O]
 refine zx (i:=2) (v:=.pointer (some ⟨w.heap.size,0,none⟩)) rfl (fun w' hS'=>?_) f ?_
 · obtain⟨x,y,z,A,B,C⟩:=hS';go_simp
 try simp only[Act.put,O]
 refine zx (i:=3) (v:=.slice (some ⟨b,d,none⟩) t.zones.length D) rfl (fun w' hS'=>?_) f ?_
 · obtain⟨x,y,z,A,B,C⟩:=hS';go_simp
 try simp only[Act.put,O]
 refine zx (i:=4) (v:=.pointer (some ⟨w.heap.size,1,none⟩)) rfl (fun w' hS'=>?_) f ?_
 · obtain⟨x,y,z,A,B,C⟩:=hS';go_simp
 try simp only[Act.put,O]
 refine zx (i:=5) (v:=.slice (some ⟨n,c,none⟩) t.airs.length E) rfl (fun w' hS'=>?_) f ?_
 · obtain⟨x,y,z,A,B,C⟩:=hS';go_simp
 try simp only[Act.put,O]
 refine zx (i:=6) (v:=.int .i64 (i:Int)) rfl (fun w' hS'=>?_) f ?_
 · obtain⟨x,y,z,A,B,C⟩:=hS';go_simp
 try simp only[Act.put,O]
 refine zx (i:=7) (v:=.pointer (some ⟨n,c+i*2,none⟩)) rfl (fun w' hS'=>?_) f ?_
 · obtain⟨x,y,z,A,B,C⟩:=hS';go_simp
 try simp only[Act.put,O]
 refine zx (i:=8) (v:=.pointer (some ⟨n,c+i*2+1,none⟩)) rfl (fun w' hS'=>?_) f ?_
 · obtain⟨x,y,z,A,B,C⟩:=hS';go_simp
 try simp only[Act.put,O]
 refine zx (i:=9) (v:=.string (aAt t.airs i).zone) rfl (fun w' hS'=>?_) f ?_
 · obtain⟨x,y,z,A,B,C⟩:=hS';go_simp
 try simp only[Act.put,O]
 refine zo (i:=10) (o:={dst:=some 24,op:=Op.call {callee:=Callee.value (Operand.func 150),args:=#[Operand.tmp 17,Operand.tmp 23],argTypes:=#[22,9]},type:=3,pos:= "timetable.go:284",after:=_,guard:=none}) (by kernel_rfl) rfl (by rfl) (fun K hK=>?_);go_simp;refine(zf1 t.zones (aAt t.airs i).zone (some ⟨b,d,none⟩) D p a1.1 (by omega)).mono ?_;rintro e w2 ⟨rfl,rfl⟩;rw[HJ.1];refine hK.1 _ _ (fun _ h=>h) ?_;clear hK K;try simp only[Act.put,O]
 refine zx (i:=11) (v:=.pointer (some ⟨b,d+j*3,none⟩)) rfl (fun w' hS'=>?_) f ?_
 · obtain⟨x,y,z,A,B,C⟩:=hS';go_simp
 try simp only[Act.put,O]
 refine zx (i:=12) (v:=.agg #[.string (zAt t.zones j).name,.int .i64 (zAt t.zones j).off,.slice a (zAt t.zones j).sh.length k]) rfl (fun w' hS'=>?_) f ?_
 · obtain⟨x,y,z,A,B,C⟩:=hS';go_simp
 try simp only[Act.put,O]
 have z0:=zw l.1;have z1:=zu l.1;have z2:=zC l.1;have f0:p.frozen? ⟨g,0,none⟩=false:=zQ l.1;have f1:p.frozen? ⟨g,1,none⟩=false:=zQ l.1;have f2:p.frozen? ⟨g,2,none⟩=false:=zQ l.1;have rl:=ztW l.1;refine zo (i:=13) (o:={dst:=none,op:=Op.store 129 (Operand.tmp 4) (Operand.tmp 26),type:=0,pos:= "timetable.go:284",after:=_,guard:=none}) (by kernel_rfl) rfl (by rfl) (fun K hK=>?_);go_simp;refine hK.1 _ _ (fun h _=>absurd (by decide:(13:Nat)∈ [13]) h) ?_;clear hK K z0 z1 z2 f0 f1 f2;try simp only[Act.put,O]
 refine zo (i:=14) (o:={dst:=some 5,op:=Op.assign (Operand.const (Value.bool true)),type:=4,pos:= "timetable.go:284",after:=_,guard:=none}) (by kernel_rfl) rfl (by rfl) (fun K hK=>?_);go_simp;refine hK.1 _ _ (fun _ h=>h) ?_;clear hK K f;try simp only[Act.put,O]
 refine zM (by kernel_rfl) ?_;go_wp2_with fail;have Q1:(p.setCell ⟨g,0,none⟩ (.string (zAt t.zones j).name)).heap[g]?=some (.cells #[.string (zAt t.zones j).name,.int .i64 0,.slice none 0 0] 129 (0,0)):=zg (i:=0) (u:=.string (zAt t.zones j).name) l.1;have Q2:((p.setCell ⟨g,0,none⟩ (.string (zAt t.zones j).name)).setCell ⟨g,1,none⟩ (.int .i64 (zAt t.zones j).off)).heap[g]?=some (.cells #[.string (zAt t.zones j).name,.int .i64 (zAt t.zones j).off,.slice none 0 0] 129 (0,0)):=zg (i:=1) (u:=.int .i64 (zAt t.zones j).off) Q1;have Q3:(((p.setCell ⟨g,0,none⟩ (.string (zAt t.zones j).name)).setCell ⟨g,1,none⟩ (.int .i64 (zAt t.zones j).off)).setCell ⟨g,2,none⟩ (.slice a (zAt t.zones j).sh.length k)).heap[g]?=some (.cells #[.string (zAt t.zones j).name,.int .i64 (zAt t.zones j).off,.slice a (zAt t.zones j).sh.length k] 129 (0,0)):=zg (i:=2) (u:=.slice a (zAt t.zones j).sh.length k) Q2;have r0:=zw Q3;have r1:=zu Q3;have r2:=zC Q3;have a2:Below w.heap.size w (((p.setCell ⟨g,0,none⟩ (.string (zAt t.zones j).name)).setCell ⟨g,1,none⟩ (.int .i64 (zAt t.zones j).off)).setCell ⟨g,2,none⟩ (.slice a (zAt t.zones j).sh.length k)):=(((L.1.setCell H _).setCell H _).setCell H _);refine bodyPost_ret (v:=.tuple #[.agg #[.string (zAt t.zones j).name,.int .i64 (zAt t.zones j).off,.slice a (zAt t.zones j).sh.length k],.bool true]) (by simp[results,results162,go_sem,r0,r1,r2]) rfl ?_;exact⟨a,k,rfl,a0.1,s1,s2,a2⟩
theorem zaN(t:TTM)(m:zua)(p:Nat)(n:zua)(q:Nat)(fa:zua)(fc:Nat)(w:World)(K:zY t=0)(o:World)(L:Below o.heap.size o w)(D:SlAt zcg o m t.zones)(E:SlAt zei o n t.airs)(s:ByteArray)(M:hasB (t.airs.map AirM.code) s=true):
 Calls prog 114 #[.agg #[.slice m t.zones.length p,.slice n t.airs.length q,.slice fa t.fls.length fc],.string s] w (ZPost o w (zp t s) fun v=>v):=by
 have N:=I D;have P:=I E;clear D E;go_enter func114,ntmps114
 go_wp2_with fail;have y:=I (ztS (J w (objT t m p n q fa fc)) (J _ zaf));have x:=I (zh (w.alloc (objT t m p n q fa fc)) (Obj.cells #[.string ⟨#[]⟩,.int .i64 0,.slice none 0 0] 129));rw[zr]at x;obtain⟨b,f⟩:∃b,b=w.heap.size+1:=⟨_,rfl⟩;rw[←f]at x;simp only[←f];have j:w.heap.size≤b:=by omega
 clear f;generalize (w.alloc (objT t m p n q fa fc)).alloc (Obj.cells #[.string ⟨#[]⟩,.int .i64 0,.slice none 0 0] 129)=W at*;refine(znz t m p n q fa fc W K o (ztS L y.1) N.1 P.1 s M).mono ?_;rintro e k ⟨a,c,rfl,F,G,H,l⟩;have A:=I (ztS y.1 l);have d:=I (blkA l x.1);have r:=I F;clear l F y x;obtain⟨z,g⟩:∃z,z=zp t s:=⟨_,rfl⟩;rw[←g]at r G H;simp only[←g];have h:=I g;clear g;have rl:=ztW d.1;have Q:=zw d.1;have R:=zu d.1;have S:=zC d.1;have T:k.frozen? ⟨b,0,none⟩=false:=zQ d.1;have U:k.frozen? ⟨b,1,none⟩=false:=zQ d.1;have V:k.frozen? ⟨b,2,none⟩=false:=zQ d.1;go_wp2_with fail;clear Q R S T U V;have X:(k.setCell ⟨b,0,none⟩ (.string z.name)).heap[b]?=some (.cells #[.string z.name,.int .i64 0,.slice none 0 0] 129 (0,0)):=zg (i:=0) (u:=.string z.name) d.1;have Y:((k.setCell ⟨b,0,none⟩ (.string z.name)).setCell ⟨b,1,none⟩ (.int .i64 z.off)).heap[b]?=some (.cells #[.string z.name,.int .i64 z.off,.slice none 0 0] 129 (0,0)):=zg (i:=1) (u:=.int .i64 z.off) X;have Z:(((k.setCell ⟨b,0,none⟩ (.string z.name)).setCell ⟨b,1,none⟩ (.int .i64 z.off)).setCell ⟨b,2,none⟩ (.slice a z.sh.length c)).heap[b]?=some (.cells #[.string z.name,.int .i64 z.off,.slice a z.sh.length c] 129 (0,0)):=zg (i:=2) (u:=.slice a z.sh.length c) Y;have B:=zd (o':=(Obj.cells #[.string z.name,.int .i64 z.off,.slice a z.sh.length c] 129)) Z;have r0:=zw B;have r1:=zu B;have r2:=zC B;have C:Below w.heap.size w ((((k.setCell ⟨b,0,none⟩ (.string z.name)).setCell ⟨b,1,none⟩ (.int .i64 z.off)).setCell ⟨b,2,none⟩ (.slice a z.sh.length c)).alloc (Obj.cells #[.string z.name,.int .i64 z.off,.slice a z.sh.length c] 129)):=ztS (((A.1.setCell j _).setCell j _).setCell j _) (J _ _);refine bodyPost_ret (v:=.agg #[.string z.name,.int .i64 z.off,.slice a z.sh.length c]) (by simp[results,results114,go_sem,r0,r1,r2]) rfl ?_;exact⟨a,c,by rw[←h.1],by rw[←h.1];exact r.1,by rw[←h.1];exact G,by rw[←h.1];exact H,C⟩
theorem zgr(s:ByteArray)(o t:Int)(l:List (Int×Int))(a:zua)(cap:Nat)(w:World)(d:l.length≤1000000)(f:ShAt w a l):
 Calls prog 127 #[.agg #[.string s,.int .i64 o,.slice a l.length cap],.int .i64 t] w fun e w'=>e=.returned (.int .i64 (offR o l t))∧Below w.heap.size w w':=by
 rcases f with rfl|⟨b,c,rfl,g,h⟩
 · exact zfD s o t a cap w
 exact ze0 s o t l b c cap w d g h
theorem ziX(z:zaC)(a:zua)(cap:Nat)(t:Int)(w:World)(h:z.name.size≤140737488355328)(i:z.sh.length≤1000000)(f:ShAt w a z.sh):
 Calls prog 128 #[.agg #[.string z.name,.int .i64 z.off,.slice a z.sh.length cap],.int .i64 t] w fun e w'=>e=.returned (.int .i64 (zbj z.name.data.toList z.off z.sh t).2.1)∧Below w.heap.size w w':=by
 have j:=I f;have c:z.name.size≤maxLen:=by unfold maxLen;omega
 clear f h;go_enter func128,ntmps128
 go_wp2_with fail;have g:=I (J w (Obj.cells #[.string z.name,.int .i64 z.off,.slice a z.sh.length cap] 129));generalize w.alloc (Obj.cells #[.string z.name,.int .i64 z.off,.slice a z.sh.length cap] 129)=W at*;refine(ziv z.name z.off t z.sh a cap W c i (j.1.below g.1)).mono ?_;rintro e k ⟨rfl,b⟩;have d:=I (ztS g.1 b);clear b;go_wp2_with fail;go_ret;exact⟨rfl,d.1⟩
theorem ziO{P:Program}{b:Array Oper}{Q:Exit→Act→World→Prop}{g:Nat}{a:Act}{w d:World}(c:Act→Act→World→Prop)(S:World→Prop)(Z:List Nat)(i:P.follows .mixedOrders=true)(j:w.drew=d) 
 (k:anyZ P .any b (fun e a' w'=>(e=.normal→c a a' w')∧(e≠.normal→Q e a' w')) S Z b.size (Array.replicate b.size false) a d) (l:∀a' w',c a a' w'→Q .normal a' w'):(Code.region g b true).wp P Q a w:=
 Code.wp_mono (fun e a' w' h=>by
  by_cases f:e=.normal
  · subst f;exact l a' w' (h.1 rfl)
  exact h.2 f) (zbD S Z i j k)
theorem zeW{P:Program}{c:Array Oper}{Q:Exit→Act→World→Prop}{f:Region.Mode}{S:World→Prop}{Z:List Nat}{i j k n:Nat}{oi oj ok:Oper}{b:Array Bool}{a:Act}{w:World}(o:Region.ready f c b= [i,j,k])(p:c[i]?=some oi)(q:c[j]?=some oj)(r:c[k]?=some ok)(g:Region.wanted oi (yielded c a.tmps)=true)(h:Region.wanted oj (yielded c a.tmps)=true)(l:Region.wanted ok (yielded c a.tmps)=true) 
 (d:∀K:Act→World→Prop,ztR (∀a' w',(i ∉ Z→S w→S w')→anyZ P f c Q S Z n (b.setIfInBounds i true) a' w'→K a' w')→Oper.wp P oi a w K Q)
 (e:∀K:Act→World→Prop,ztR (∀a' w',(j ∉ Z→S w→S w')→anyZ P f c Q S Z n (b.setIfInBounds j true) a' w'→K a' w')→Oper.wp P oj a w K Q)
 (s:∀K:Act→World→Prop,ztR (∀a' w',(k ∉ Z→S w→S w')→anyZ P f c Q S Z n (b.setIfInBounds k true) a' w'→K a' w')→Oper.wp P ok a w K Q):anyZ P f c Q S Z (n+1) b a w:=by
 refine⟨fun h0=>(by rw[o]at h0;cases h0),fun m hm=>?_⟩;rw[o]at hm;rcases(by simpa using hm:m=i∨m=j∨m=k) with rfl|rfl|rfl
 · unfold wpOp
   rw[p];simp only[g,if_true];exact .inl (d _ (I (fun a' w' d e=>⟨d,e⟩)))
 · unfold wpOp
   rw[q];simp only[h,if_true];exact .inl (e _ (I (fun a' w' d e=>⟨d,e⟩)))
 unfold wpOp
 rw[r];simp only[l,if_true];exact .inl (s _ (I (fun a' w' d e=>⟨d,e⟩)))
theorem zcF{w:World}{p b:Nat}{o:Obj}(h:w.heap[b]?=some o)(a:b≠p)(d e f:Nat)(g i j:Value):(((w.setCell ⟨p,d,none⟩ g).setCell ⟨p,e,none⟩ i).setCell ⟨p,f,none⟩ j).heap[b]?=some o:=by
 have m:=ztW h;have c:some b≠some p:=by simpa using a
 have k:=((Lib.grownBy_setCell w p d g).block b m c).trans h;have l:=((Lib.grownBy_setCell _ p e i).block b (ztW k) c).trans k;exact((Lib.grownBy_setCell _ p f j).block b (ztW l) c).trans l
theorem neb{w:World}{b p:Nat}{c d:Array Value}{t u:TypeId}{f g:Nat×Nat}(h:w.heap[b]?=some (.cells c t f))(a:w.heap[p]?=some (.cells d u g))(e:t≠u):b≠p:=by
 rintro rfl;rw[h]at a;simp at a
 exact e a.2.1
theorem st3{w d:World}{p q l m n:Nat}{o r s:Array Value}{g h j e:TypeId}{t v x:Nat×Nat}{y:Obj}{C D E:Value}(a b c:Value)(z:w.heap[l]?=some (.cells o g t))(A:w.heap[m]?=some (.cells r h v))(B:w.heap[n]?=some (.cells s j x))(F:w.heap[q]?=some y)(f:w.heap[p]?=some (.cells #[C,D,E] e (0,0)))(G:g≠e)(H:h≠e)(K:j≠e)(L:q≠p)(M:Below d.heap.size d w)(k:d.heap.size≤p):
 (((w.setCell ⟨p,0,none⟩ a).setCell ⟨p,1,none⟩ b).setCell ⟨p,2,none⟩ c).heap[l]?=some (.cells o g t)∧(((w.setCell ⟨p,0,none⟩ a).setCell ⟨p,1,none⟩ b).setCell ⟨p,2,none⟩ c).heap[m]?=some (.cells r h v)∧(((w.setCell ⟨p,0,none⟩ a).setCell ⟨p,1,none⟩ b).setCell ⟨p,2,none⟩ c).heap[n]?=some (.cells s j x)∧(((w.setCell ⟨p,0,none⟩ a).setCell ⟨p,1,none⟩ b).setCell ⟨p,2,none⟩ c).heap[q]?=some y∧(((w.setCell ⟨p,0,none⟩ a).setCell ⟨p,1,none⟩ b).setCell ⟨p,2,none⟩ c).heap[p]?=some (.cells #[a,b,c] e (0,0))∧Below d.heap.size d (((w.setCell ⟨p,0,none⟩ a).setCell ⟨p,1,none⟩ b).setCell ⟨p,2,none⟩ c):=
 ⟨zcF z (neb z f G) 0 1 2 a b c,zcF A (neb A f H) 0 1 2 a b c,zcF B (neb B f K) 0 1 2 a b c,zcF F L 0 1 2 a b c,zg (i:=2) (u:=c) (zg (i:=1) (u:=b) (zg (i:=0) (u:=a) f)),((M.setCell (p:=⟨p,0,none⟩) k a).setCell (p:=⟨p,1,none⟩) k b).setCell (p:=⟨p,2,none⟩) k c⟩
theorem zc3{w:World}{p:Nat}{a b c:Value}{d:TypeId}(h:w.heap[p]?=some (.cells #[a,b,c] d (0,0))):w.cell? ⟨p,0,none⟩=some a∧w.cell? ⟨p,1,none⟩=some b∧w.cell? ⟨p,2,none⟩=some c∧w.frozen? ⟨p,0,none⟩=false∧w.frozen? ⟨p,1,none⟩=false∧w.frozen? ⟨p,2,none⟩=false∧p<w.heap.size:=
 ⟨zm (j:=0) h rfl,zm (j:=1) h rfl,zm (j:=2) h rfl,zQ h,zQ h,zQ h,ztW h⟩
theorem zq9{t:TTM}(a:zY t=0){s:ByteArray}(c:hasB (t.airs.map AirM.code) s=true):zval (zp t s)=0:=by
 obtain⟨i,j,d,b,_,_,e⟩:=zoN a c;rw[e];refine zjf (zfb a).1 _ ?_;unfold zAt
 rw[zt0,zt1 b];exact List.getElem_mem b
theorem zgT{t:TTM}(f:zY t=0){s:ByteArray}(g:hasB (t.airs.map AirM.code) s=true){x:Int}(i:0≤x∧x<52596000):offR (zp t s).off (zp t s).sh x=(zaB (zp t s).name.data.toList (zp t s).off (zp t s).sh x).1:=by
 have h:=zq9 f g;have a:zG (zp t s).name.data.toList (zp t s).off (zp t s).sh=0:=h;have b:zak none (zp t s).sh=0:=by
  unfold zG at a
  by_cases c:zb0 (zp t s).name.data.toList=false
  · rw[if_pos c]at a;omega
  rw[if_neg c]at a;by_cases d:offB (zp t s).off=false
  · rw[if_pos d]at a;omega
  rw[if_neg d]at a;by_cases e:16<(zp t s).sh.length
  · rw[if_pos e]at a;omega
  rwa [if_neg e]at a
 unfold zaB
 rw[if_neg (by simpa using a),if_neg (by simp[insB];omega),zdy _ none _ _ b]
def zqz(t:TTM)(c:ConM)(f1 f2:ByteArray)(x y:Int):Value:=.tuple #[.int .i64 (y-x),.int .i64 (zaJ (zp t f1).name.data.toList (zp t f1).off (zp t f1).sh x y c.nf c.nt).1,.int .i64 (mx (offR (zp t f2).off (zp t f2).sh y-offR (zp t f1).off (zp t f1).sh x) (-(offR (zp t f2).off (zp t f2).sh y-offR (zp t f1).off (zp t f1).sh x))),.int .i64 (zbj (zp t f1).name.data.toList (zp t f1).off (zp t f1).sh x).2.1,.int .i64 (zbj (zp t f2).name.data.toList (zp t f2).off (zp t f2).sh y).2.1]
theorem zqA(t:TTM)(c:ConM)(T:zua)(zc:Nat)(U:zua)(ac:Nat)(fa:zua)(fc:Nat)(p:ConP)(w:World)(ht:zY t=0)(hz:SlAt zcg w T t.zones)(ha:SlAt zei w U t.airs)(b m:ByteArray)(v1:hasB (t.airs.map AirM.code) b=true)(c5:hasB (t.airs.map AirM.code) m=true)(x y:Int)(hxy:0≤x∧x≤y∧y<52596000):
 Calls prog 92 #[.agg #[.slice T t.zones.length zc,.slice U t.airs.length ac,.slice fa t.fls.length fc],.agg #[.int .i64 c.report,.int .i64 c.release,.int .i64 c.connect,.int .i64 c.sit,.int .i64 c.layover,.int .i64 c.nf,.int .i64 c.nt,.slice p.ca c.consts.length p.cc,.slice p.ra c.rules.length p.rc,.slice p.ka c.costs.length p.kc,.slice p.xa c.credit.length p.xc,.slice p.la c.lims.length p.lc,.slice p.oa c.offs.length p.oc,.int .i64 c.guar],.string b,.string m,.agg #[.int .i64 x,.int .i64 y]] w fun e w'=>e=.returned (zqz t c b m x y)∧Below w.heap.size w w':=by
 have HZ:=I hz;have HA:=I ha;clear hz ha;go_enter func92,ntmps92
 go_wp2_with fail;have HB:=I (ztS (ztS (J w (objT t T zc U ac fa fc)) (J _ (objC c p))) (J _ (Obj.cells #[.int .i64 x,.int .i64 y] 40)));have QT:=I (zd (o':=(Obj.cells #[.int .i64 x,.int .i64 y] 40)) (zd (o':=(objC c p)) (zh w (objT t T zc U ac fa fc))));have QC:=I (zd (o':=(Obj.cells #[.int .i64 x,.int .i64 y] 40)) (zh (w.alloc (objT t T zc U ac fa fc)) (objC c p)));have QS:=I (zh ((w.alloc (objT t T zc U ac fa fc)).alloc (objC c p)) (Obj.cells #[.int .i64 x,.int .i64 y] 40));rw[zr]at QC;rw[zr,zr]at QS;obtain⟨sb,v6⟩:∃sb,sb=w.heap.size+1+1:=⟨_,rfl⟩;obtain⟨cb,U7⟩:∃cb,cb=w.heap.size+1:=⟨_,rfl⟩;rw[←v6]at QS;rw[←U7]at QC;simp only[←v6];simp only[←U7];clear v6 U7;generalize ((w.alloc (objT t T zc U ac fa fc)).alloc (objC c p)).alloc (Obj.cells #[.int .i64 x,.int .i64 y] 40)=W at*;have f8:ztR (W.drew.heap[w.heap.size]?=some (objT t T zc U ac fa fc)):=QT;have l0:ztR (W.drew.heap[cb]?=some (objC c p)):=QC;have l1:ztR (W.drew.heap[sb]?=some (.cells #[.int .i64 x,.int .i64 y] 40 (0,0))):=QS;have c3:=I HB.1.drew;have S:W.drew.cell? ⟨w.heap.size,0,none⟩=some (.slice T t.zones.length zc)∧W.drew.cell? ⟨w.heap.size,1,none⟩=some (.slice U t.airs.length ac)∧W.drew.cell? ⟨w.heap.size,2,none⟩=some (.slice fa t.fls.length fc):=⟨zm (j:=0) QT.1 rfl,zm (j:=1) QT.1 rfl,zm (j:=2) QT.1 rfl⟩;obtain⟨Wd,l2⟩:∃Wd,W.drew=Wd:=⟨_,rfl⟩;rw[l2]at f8 l0 l1 c3 S;have xl:=ztW f8.1;clear QT QC QS HB;refine ziO (fun a0 a' w'=>∃p6 p7 a1 c1 a2 c2,a'=((((((((a0.put (some 19) (.agg #[.slice T t.zones.length zc,.slice U t.airs.length ac,.slice fa t.fls.length fc])).put (some 20) (.string b)).put (some 21) (.agg #[.string (zp t b).name,.int .i64 (zp t b).off,.slice a1 (zp t b).sh.length c1])).put (some 22) (.agg #[.slice T t.zones.length zc,.slice U t.airs.length ac,.slice fa t.fls.length fc])).put (some 23) (.string m)).put (some 24) (.agg #[.string (zp t m).name,.int .i64 (zp t m).off,.slice a2 (zp t m).sh.length c2])).put (some 15) (.pointer (some ⟨p6,0,none⟩))).put (some 16) (.pointer (some ⟨p7,0,none⟩)))∧w'.heap[w.heap.size]?=some (.cells #[.slice T t.zones.length zc,.slice U t.airs.length ac,.slice fa t.fls.length fc] 26 (0,0))∧w'.heap[cb]?=some (.cells #[.int .i64 c.report,.int .i64 c.release,.int .i64 c.connect,.int .i64 c.sit,.int .i64 c.layover,.int .i64 c.nf,.int .i64 c.nt,.slice p.ca c.consts.length p.cc,.slice p.ra c.rules.length p.rc,.slice p.ka c.costs.length p.kc,.slice p.xa c.credit.length p.xc,.slice p.la c.lims.length p.lc,.slice p.oa c.offs.length p.oc,.int .i64 c.guar] 34 (0,0))∧w'.heap[sb]?=some (.cells #[.int .i64 x,.int .i64 y] 40 (0,0))∧w'.heap[p6]?=some (.cells #[.string (zp t b).name,.int .i64 (zp t b).off,.slice a1 (zp t b).sh.length c1] 129 (0,0))∧w'.heap[p7]?=some (.cells #[.string (zp t m).name,.int .i64 (zp t m).off,.slice a2 (zp t m).sh.length c2] 129 (0,0))∧ShAt w a1 (zp t b).sh∧ShAt w a2 (zp t m).sh∧(zp t b).name.size≤140737488355328∧(zp t m).name.size≤140737488355328∧Below w.heap.size w w') (fun w'=>w'.cell? ⟨w.heap.size,0,none⟩=some (.slice T t.zones.length zc)∧w'.cell? ⟨w.heap.size,1,none⟩=some (.slice U t.airs.length ac)∧w'.cell? ⟨w.heap.size,2,none⟩=some (.slice fa t.fls.length fc)) [] (by kernel_rfl) l2 ?_ ?_
 · clear l2;refine zx (i:=0) (v:=.agg #[.slice T t.zones.length zc,.slice U t.airs.length ac,.slice fa t.fls.length fc]) rfl (fun w' hS'=>?_) S ?_
   · obtain⟨z,A,B⟩:=hS';go_simp
   try simp only[Act.put,O]
   refine zx (i:=1) (v:=.string b) rfl (fun w' hS'=>?_) S ?_
   · obtain⟨z,A,B⟩:=hS';go_simp
   try simp only[Act.put,O]
   refine zx (i:=3) (v:=.agg #[.slice T t.zones.length zc,.slice U t.airs.length ac,.slice fa t.fls.length fc]) rfl (fun w' hS'=>?_) S ?_
   · obtain⟨z,A,B⟩:=hS';go_simp
   try simp only[Act.put,O]
   refine zx (i:=4) (v:=.string m) rfl (fun w' hS'=>?_) S ?_
   · obtain⟨z,A,B⟩:=hS';go_simp
   try simp only[Act.put,O]
   clear S xl;refine zeW (i:=2) (j:=6) (k:=7) (oi:={dst:=some 21,op:=Op.call {callee:=Callee.value (Operand.func 114),args:=#[Operand.tmp 19,Operand.tmp 20],argTypes:=#[26,9]},type:=129,pos:= "measure.go:152",after:=_,guard:=none}) (oj:={dst:=some 15,op:=Op.alloc 129,type:=_,pos:= "measure.go:152",after:=_,guard:=none}) (ok:={dst:=some 16,op:=Op.alloc 129,type:=_,pos:= "measure.go:152",after:=_,guard:=none}) (by kernel_rfl) rfl rfl rfl (by rfl) (by rfl) (by rfl) (fun K hK=>?_) (fun K hK=>?_) (fun K hK=>?_)
   · skip
     go_simp;refine(zaN t T zc U ac fa fc Wd ht w c3.1 HZ.1 HA.1 b v1).mono ?_;rintro e m5 ⟨C,D,rfl,Q7,Q8,_,l3⟩;have a7:=I Q7;have a8:=I Q8;have f9:=I (blkA l3 f8.1);have v7:=I (blkA l3 l0.1);have v8:=I (blkA l3 l1.1);have g8:=I (ztS c3.1 l3);have Q9:=zy (zw f9.1) (zy (zu f9.1) (zC f9.1));clear l3 Q7 Q8;refine hK.1 _ _ (fun _ _=>Q9) ?_;clear hK K Q9;try simp only[Act.put,O]
     refine zeW (i:=5) (j:=6) (k:=7) (oi:={dst:=some 24,op:=Op.call {callee:=Callee.value (Operand.func 114),args:=#[Operand.tmp 22,Operand.tmp 23],argTypes:=#[26,9]},type:=129,pos:= "measure.go:152",after:=_,guard:=none}) (oj:={dst:=some 15,op:=Op.alloc 129,type:=_,pos:= "measure.go:152",after:=_,guard:=none}) (ok:={dst:=some 16,op:=Op.alloc 129,type:=_,pos:= "measure.go:152",after:=_,guard:=none}) (by kernel_rfl) rfl rfl rfl (by rfl) (by rfl) (by rfl) (fun K hK=>?_) (fun K hK=>?_) (fun K hK=>?_)
     · skip
       go_simp;refine(zaN t T zc U ac fa fc m5 ht w g8.1 HZ.1 HA.1 m c5).mono ?_;rintro e v2 ⟨s4,s5,rfl,R0,R1,_,l4⟩;have v9:=I R0;have w0:=I R1;have l5:=I (blkA l4 f9.1);have R2:=I (blkA l4 v7.1);have R3:=I (blkA l4 v8.1);have s6:=I (ztS g8.1 l4);have R4:=zy (zw l5.1) (zy (zu l5.1) (zC l5.1));clear l4 R0 R1;refine hK.1 _ _ (fun _ _=>R4) ?_;clear hK K R4;try simp only[Act.put,O]
       refine zaU (i:=6) (j:=7) (oi:={dst:=some 15,op:=Op.alloc 129,type:=_,pos:= "measure.go:152",after:=_,guard:=none}) (oj:={dst:=some 16,op:=Op.alloc 129,type:=_,pos:= "measure.go:152",after:=_,guard:=none}) (by kernel_rfl) rfl rfl (by rfl) (by rfl) (fun K hK=>?_) (fun K hK=>?_)
       · skip
         have l6:=I (zd (o':=zaf) l5.1);have R5:=I (zd (o':=zaf) R2.1);have R6:=I (zd (o':=zaf) R3.1);have w3:=I (ztS s6.1 (J _ zaf));have s7:=I (zh v2 (Obj.cells #[.string ⟨#[]⟩,.int .i64 0,.slice none 0 0] 129));have w6:=I s6.1.size;have R7:=zy (zw l6.1) (zy (zu l6.1) (zC l6.1));go_simp;refine hK.1 _ _ (fun _ _=>R7) ?_;clear hK K;try simp only[Act.put,O]
         obtain⟨s8,m6⟩:∃p,p=v2.heap.size:=⟨_,rfl⟩;obtain⟨U8,w7⟩:∃W,W=(v2.alloc (Obj.cells #[.string ⟨#[]⟩,.int .i64 0,.slice none 0 0] 129)):=⟨_,rfl⟩;rw[←w7]at l6 R5 R6 s7 w3;rw[←m6]at s7 w6;simp only[←w7,←m6];clear w7 m6 R7;refine zo (i:=7) (o:={dst:=some 16,op:=Op.alloc 129,type:=_,pos:= "measure.go:152",after:=_,guard:=none}) (by kernel_rfl) rfl (by rfl) (fun K hK=>?_);have R8:=ztW s7.1;have l7:=I (zd (o':=zaf) l6.1);have R9:=I (zd (o':=zaf) R5.1);have S0:=I (zd (o':=zaf) R6.1);have w8:=I (zd (o':=zaf) s7.1);have S3:=I (ztS w3.1 (J _ zaf));have w9:=I (zh U8 (Obj.cells #[.string ⟨#[]⟩,.int .i64 0,.slice none 0 0] 129));have x0:=I w3.1.size;have S4:=zy (zw l7.1) (zy (zu l7.1) (zC l7.1));go_simp;refine hK.1 _ _ (fun _ _=>S4) ?_;clear hK K;try simp only[Act.put,O]
         obtain⟨p7_4,m7⟩:∃p,p=U8.heap.size:=⟨_,rfl⟩;obtain⟨w_4,x1⟩:∃W,W=(U8.alloc (Obj.cells #[.string ⟨#[]⟩,.int .i64 0,.slice none 0 0] 129)):=⟨_,rfl⟩;rw[←x1]at l7 R9 S0 w8 w9 S3;rw[←m7]at w9 x0 R8;simp only[←x1,←m7];clear x1 m7 S4;have c8:=R8;obtain⟨a,q,r,f,s,u⟩:=st3 (.string (zp t b).name) (.int .i64 (zp t b).off) (.slice C (zp t b).sh.length D) l7.1 R9.1 S0.1 w9.1 w8.1 (by decide) (by decide) (by decide) (by omega) S3.1 w6.1;obtain⟨F,G,H,z,A,B,L⟩:=zc3 w8.1;refine zo (i:=8) (o:={dst:=none,op:=Op.store 129 (Operand.tmp 15) (Operand.tmp 21),type:=0,pos:= "measure.go:152",after:=_,guard:=none}) (by kernel_rfl) rfl (by rfl) (fun K hK=>?_);go_simp;refine hK.1 _ _ (fun _ _=>⟨zm (j:=0) a rfl,zm (j:=1) a rfl,zm (j:=2) a rfl⟩) ?_;clear hK K F G H z A B L;try simp only[Act.put,O]
         obtain⟨wA,g⟩:∃W,W=(((w_4.setCell ⟨s8,0,none⟩ (.string (zp t b).name)).setCell ⟨s8,1,none⟩ (.int .i64 (zp t b).off)).setCell ⟨s8,2,none⟩ (.slice C (zp t b).sh.length D)):=⟨_,rfl⟩;rw[←g]at a q r s f u;simp only[←g];clear g;obtain⟨d,M,N,P,Q,R⟩:=st3 (.string (zp t m).name) (.int .i64 (zp t m).off) (.slice s4 (zp t m).sh.length s5) a q r s f (by decide) (by decide) (by decide) (by omega) u x0.1;obtain⟨F,G,H,z,A,B,L⟩:=zc3 f;refine zo (i:=9) (o:={dst:=none,op:=Op.store 129 (Operand.tmp 16) (Operand.tmp 24),type:=0,pos:= "measure.go:152",after:=_,guard:=none}) (by kernel_rfl) rfl (by rfl) (fun K hK=>?_);go_simp;refine hK.1 _ _ (fun _ _=>⟨zm (j:=0) d rfl,zm (j:=1) d rfl,zm (j:=2) d rfl⟩) ?_;clear hK K F G H z A B L;try simp only[Act.put,O]
         refine zM (by kernel_rfl) ?_;exact⟨fun _=>⟨s8,p7_4,C,D,s4,s5,by simp only[Act.put,O],d,M,N,P,Q,a7.1,v9.1,a8.1,w0.1,R⟩,fun h=>absurd rfl h⟩
       skip
       have l8:=I (zd (o':=zaf) l5.1);have S5:=I (zd (o':=zaf) R2.1);have S6:=I (zd (o':=zaf) R3.1);have x2:=I (ztS s6.1 (J _ zaf));have s9:=I (zh v2 (Obj.cells #[.string ⟨#[]⟩,.int .i64 0,.slice none 0 0] 129));have x3:=I s6.1.size;have S7:=zy (zw l8.1) (zy (zu l8.1) (zC l8.1));go_simp;refine hK.1 _ _ (fun _ _=>S7) ?_;clear hK K;try simp only[Act.put,O]
       obtain⟨p7_5,m8⟩:∃p,p=v2.heap.size:=⟨_,rfl⟩;obtain⟨U9,x4⟩:∃W,W=(v2.alloc (Obj.cells #[.string ⟨#[]⟩,.int .i64 0,.slice none 0 0] 129)):=⟨_,rfl⟩;rw[←x4]at l8 S5 S6 s9 x2;rw[←m8]at s9 x3;simp only[←x4,←m8];clear x4 m8 S7;refine zo (i:=6) (o:={dst:=some 15,op:=Op.alloc 129,type:=_,pos:= "measure.go:152",after:=_,guard:=none}) (by kernel_rfl) rfl (by rfl) (fun K hK=>?_);have S8:=ztW s9.1;have l9:=I (zd (o':=zaf) l8.1);have S9:=I (zd (o':=zaf) S5.1);have T0:=I (zd (o':=zaf) S6.1);have T1:=I (zd (o':=zaf) s9.1);have T2:=I (ztS x2.1 (J _ zaf));have t0:=I (zh U9 (Obj.cells #[.string ⟨#[]⟩,.int .i64 0,.slice none 0 0] 129));have x5:=I x2.1.size;have T3:=zy (zw l9.1) (zy (zu l9.1) (zC l9.1));go_simp;refine hK.1 _ _ (fun _ _=>T3) ?_;clear hK K;try simp only[Act.put,O]
       obtain⟨t1,m9⟩:∃p,p=U9.heap.size:=⟨_,rfl⟩;obtain⟨w_6,x6⟩:∃W,W=(U9.alloc (Obj.cells #[.string ⟨#[]⟩,.int .i64 0,.slice none 0 0] 129)):=⟨_,rfl⟩;rw[←x6]at l9 S9 T0 T1 t0 T2;rw[←m9]at t0 x5 S8;simp only[←x6,←m9];clear x6 m9 T3;have c8:=S8;obtain⟨a,q,r,f,s,u⟩:=st3 (.string (zp t b).name) (.int .i64 (zp t b).off) (.slice C (zp t b).sh.length D) l9.1 S9.1 T0.1 T1.1 t0.1 (by decide) (by decide) (by decide) (by omega) T2.1 x5.1;obtain⟨F,G,H,z,A,B,L⟩:=zc3 t0.1;refine zo (i:=8) (o:={dst:=none,op:=Op.store 129 (Operand.tmp 15) (Operand.tmp 21),type:=0,pos:= "measure.go:152",after:=_,guard:=none}) (by kernel_rfl) rfl (by rfl) (fun K hK=>?_);go_simp;refine hK.1 _ _ (fun _ _=>⟨zm (j:=0) a rfl,zm (j:=1) a rfl,zm (j:=2) a rfl⟩) ?_;clear hK K F G H z A B L;try simp only[Act.put,O]
       obtain⟨wA,g⟩:∃W,W=(((w_6.setCell ⟨t1,0,none⟩ (.string (zp t b).name)).setCell ⟨t1,1,none⟩ (.int .i64 (zp t b).off)).setCell ⟨t1,2,none⟩ (.slice C (zp t b).sh.length D)):=⟨_,rfl⟩;rw[←g]at a q r s f u;simp only[←g];clear g;obtain⟨d,M,N,P,Q,R⟩:=st3 (.string (zp t m).name) (.int .i64 (zp t m).off) (.slice s4 (zp t m).sh.length s5) a q r s f (by decide) (by decide) (by decide) (by omega) u x3.1;obtain⟨F,G,H,z,A,B,L⟩:=zc3 f;refine zo (i:=9) (o:={dst:=none,op:=Op.store 129 (Operand.tmp 16) (Operand.tmp 24),type:=0,pos:= "measure.go:152",after:=_,guard:=none}) (by kernel_rfl) rfl (by rfl) (fun K hK=>?_);go_simp;refine hK.1 _ _ (fun _ _=>⟨zm (j:=0) d rfl,zm (j:=1) d rfl,zm (j:=2) d rfl⟩) ?_;clear hK K F G H z A B L;try simp only[Act.put,O]
       refine zM (by kernel_rfl) ?_;exact⟨fun _=>⟨t1,p7_5,C,D,s4,s5,by simp only[Act.put,O],d,M,N,P,Q,a7.1,v9.1,a8.1,w0.1,R⟩,fun h=>absurd rfl h⟩
     · skip
       have g9:=I (zd (o':=zaf) f9.1);have x7:=I (zd (o':=zaf) v7.1);have x8:=I (zd (o':=zaf) v8.1);have m2:=I (ztS g8.1 (J _ zaf));have m3:=I (zh m5 (Obj.cells #[.string ⟨#[]⟩,.int .i64 0,.slice none 0 0] 129));have n0:=I g8.1.size;have T4:=zy (zw g9.1) (zy (zu g9.1) (zC g9.1));go_simp;refine hK.1 _ _ (fun _ _=>T4) ?_;clear hK K;try simp only[Act.put,O]
       obtain⟨c4,n1⟩:∃p,p=m5.heap.size:=⟨_,rfl⟩;obtain⟨O1,x9⟩:∃W,W=(m5.alloc (Obj.cells #[.string ⟨#[]⟩,.int .i64 0,.slice none 0 0] 129)):=⟨_,rfl⟩;rw[←x9]at g9 x7 x8 m3 m2;rw[←n1]at m3 n0;simp only[←x9,←n1];clear x9 n1 T4;refine zaU (i:=5) (j:=7) (oi:={dst:=some 24,op:=Op.call {callee:=Callee.value (Operand.func 114),args:=#[Operand.tmp 22,Operand.tmp 23],argTypes:=#[26,9]},type:=129,pos:= "measure.go:152",after:=_,guard:=none}) (oj:={dst:=some 16,op:=Op.alloc 129,type:=_,pos:= "measure.go:152",after:=_,guard:=none}) (by kernel_rfl) rfl rfl (by rfl) (by rfl) (fun K hK=>?_) (fun K hK=>?_)
       · skip
         go_simp;refine(zaN t T zc U ac fa fc O1 ht w m2.1 HZ.1 HA.1 m c5).mono ?_;rintro e V0 ⟨T5,T6,rfl,T7,T8,_,h0⟩;have V1:=I T7;have V2:=I T8;have t2:=I (blkA h0 g9.1);have QC_8:=I (blkA h0 x7.1);have QS_8:=I (blkA h0 x8.1);have T9:=I (blkA h0 m3.1);have U0:=I (ztS m2.1 h0);have U1:=zy (zw t2.1) (zy (zu t2.1) (zC t2.1));clear h0 T7 T8;refine hK.1 _ _ (fun _ _=>U1) ?_;clear hK K U1;try simp only[Act.put,O]
         refine zo (i:=7) (o:={dst:=some 16,op:=Op.alloc 129,type:=_,pos:= "measure.go:152",after:=_,guard:=none}) (by kernel_rfl) rfl (by rfl) (fun K hK=>?_);have U2:=ztW T9.1;have m4:=I (zd (o':=zaf) t2.1);have U3:=I (zd (o':=zaf) QC_8.1);have U4:=I (zd (o':=zaf) QS_8.1);have y0:=I (zd (o':=zaf) T9.1);have U5:=I (ztS U0.1 (J _ zaf));have y1:=I (zh V0 (Obj.cells #[.string ⟨#[]⟩,.int .i64 0,.slice none 0 0] 129));have y2:=I U0.1.size;have U6:=zy (zw m4.1) (zy (zu m4.1) (zC m4.1));go_simp;refine hK.1 _ _ (fun _ _=>U6) ?_;clear hK K;try simp only[Act.put,O]
         obtain⟨p7_9,n2⟩:∃p,p=V0.heap.size:=⟨_,rfl⟩;obtain⟨w_9,y3⟩:∃W,W=(V0.alloc (Obj.cells #[.string ⟨#[]⟩,.int .i64 0,.slice none 0 0] 129)):=⟨_,rfl⟩;rw[←y3]at m4 U3 U4 y0 y1 U5;rw[←n2]at y1 y2 U2;simp only[←y3,←n2];clear y3 n2 U6;have c8:=U2;obtain⟨a,q,r,f,s,u⟩:=st3 (.string (zp t b).name) (.int .i64 (zp t b).off) (.slice C (zp t b).sh.length D) m4.1 U3.1 U4.1 y1.1 y0.1 (by decide) (by decide) (by decide) (by omega) U5.1 n0.1;obtain⟨F,G,H,z,A,B,L⟩:=zc3 y0.1;refine zo (i:=8) (o:={dst:=none,op:=Op.store 129 (Operand.tmp 15) (Operand.tmp 21),type:=0,pos:= "measure.go:152",after:=_,guard:=none}) (by kernel_rfl) rfl (by rfl) (fun K hK=>?_);go_simp;refine hK.1 _ _ (fun _ _=>⟨zm (j:=0) a rfl,zm (j:=1) a rfl,zm (j:=2) a rfl⟩) ?_;clear hK K F G H z A B L;try simp only[Act.put,O]
         obtain⟨wA,g⟩:∃W,W=(((w_9.setCell ⟨c4,0,none⟩ (.string (zp t b).name)).setCell ⟨c4,1,none⟩ (.int .i64 (zp t b).off)).setCell ⟨c4,2,none⟩ (.slice C (zp t b).sh.length D)):=⟨_,rfl⟩;rw[←g]at a q r s f u;simp only[←g];clear g;obtain⟨d,M,N,P,Q,R⟩:=st3 (.string (zp t m).name) (.int .i64 (zp t m).off) (.slice T5 (zp t m).sh.length T6) a q r s f (by decide) (by decide) (by decide) (by omega) u y2.1;obtain⟨F,G,H,z,A,B,L⟩:=zc3 f;refine zo (i:=9) (o:={dst:=none,op:=Op.store 129 (Operand.tmp 16) (Operand.tmp 24),type:=0,pos:= "measure.go:152",after:=_,guard:=none}) (by kernel_rfl) rfl (by rfl) (fun K hK=>?_);go_simp;refine hK.1 _ _ (fun _ _=>⟨zm (j:=0) d rfl,zm (j:=1) d rfl,zm (j:=2) d rfl⟩) ?_;clear hK K F G H z A B L;try simp only[Act.put,O]
         refine zM (by kernel_rfl) ?_;exact⟨fun _=>⟨c4,p7_9,C,D,T5,T6,by simp only[Act.put,O],d,M,N,P,Q,a7.1,V1.1,a8.1,V2.1,R⟩,fun h=>absurd rfl h⟩
       skip
       have y4:=ztW m3.1;have c9:=I (zd (o':=zaf) g9.1);have y7:=I (zd (o':=zaf) x7.1);have y8:=I (zd (o':=zaf) x8.1);have y9:=I (zd (o':=zaf) m3.1);have n3:=I (ztS m2.1 (J _ zaf));have n4:=I (zh O1 (Obj.cells #[.string ⟨#[]⟩,.int .i64 0,.slice none 0 0] 129));have t3:=I m2.1.size;have A0:=zy (zw c9.1) (zy (zu c9.1) (zC c9.1));go_simp;refine hK.1 _ _ (fun _ _=>A0) ?_;clear hK K;try simp only[Act.put,O]
       obtain⟨V3,h1⟩:∃p,p=O1.heap.size:=⟨_,rfl⟩;obtain⟨w_10,n5⟩:∃W,W=(O1.alloc (Obj.cells #[.string ⟨#[]⟩,.int .i64 0,.slice none 0 0] 129)):=⟨_,rfl⟩;rw[←n5]at c9 y7 y8 y9 n4 n3;rw[←h1]at n4 t3 y4;simp only[←n5,←h1];clear n5 h1 A0;refine zo (i:=5) (o:={dst:=some 24,op:=Op.call {callee:=Callee.value (Operand.func 114),args:=#[Operand.tmp 22,Operand.tmp 23],argTypes:=#[26,9]},type:=129,pos:= "measure.go:152",after:=_,guard:=none}) (by kernel_rfl) rfl (by rfl) (fun K hK=>?_);go_simp;refine(zaN t T zc U ac fa fc w_10 ht w n3.1 HZ.1 HA.1 m c5).mono ?_;rintro e w_11 ⟨A1,A2,rfl,A3,A4,_,V⟩;have O2:=I A3;have O3:=I A4;have h2:=I (blkA V c9.1);have V4:=I (blkA V y7.1);have V5:=I (blkA V y8.1);have A5:=I (blkA V y9.1);have V6:=I (blkA V n4.1);have V7:=I (ztS n3.1 V);have A6:=zy (zw h2.1) (zy (zu h2.1) (zC h2.1));clear V A3 A4;refine hK.1 _ _ (fun _ _=>A6) ?_;clear hK K A6;try simp only[Act.put,O]
       have c8:=y4;obtain⟨a,q,r,f,s,u⟩:=st3 (.string (zp t b).name) (.int .i64 (zp t b).off) (.slice C (zp t b).sh.length D) h2.1 V4.1 V5.1 V6.1 A5.1 (by decide) (by decide) (by decide) (by omega) V7.1 n0.1;obtain⟨F,G,H,z,A,B,L⟩:=zc3 A5.1;refine zo (i:=8) (o:={dst:=none,op:=Op.store 129 (Operand.tmp 15) (Operand.tmp 21),type:=0,pos:= "measure.go:152",after:=_,guard:=none}) (by kernel_rfl) rfl (by rfl) (fun K hK=>?_);go_simp;refine hK.1 _ _ (fun _ _=>⟨zm (j:=0) a rfl,zm (j:=1) a rfl,zm (j:=2) a rfl⟩) ?_;clear hK K F G H z A B L;try simp only[Act.put,O]
       obtain⟨wA,g⟩:∃W,W=(((w_11.setCell ⟨c4,0,none⟩ (.string (zp t b).name)).setCell ⟨c4,1,none⟩ (.int .i64 (zp t b).off)).setCell ⟨c4,2,none⟩ (.slice C (zp t b).sh.length D)):=⟨_,rfl⟩;rw[←g]at a q r s f u;simp only[←g];clear g;obtain⟨d,M,N,P,Q,R⟩:=st3 (.string (zp t m).name) (.int .i64 (zp t m).off) (.slice A1 (zp t m).sh.length A2) a q r s f (by decide) (by decide) (by decide) (by omega) u t3.1;obtain⟨F,G,H,z,A,B,L⟩:=zc3 f;refine zo (i:=9) (o:={dst:=none,op:=Op.store 129 (Operand.tmp 16) (Operand.tmp 24),type:=0,pos:= "measure.go:152",after:=_,guard:=none}) (by kernel_rfl) rfl (by rfl) (fun K hK=>?_);go_simp;refine hK.1 _ _ (fun _ _=>⟨zm (j:=0) d rfl,zm (j:=1) d rfl,zm (j:=2) d rfl⟩) ?_;clear hK K F G H z A B L;try simp only[Act.put,O]
       refine zM (by kernel_rfl) ?_;exact⟨fun _=>⟨c4,V3,C,D,A1,A2,by simp only[Act.put,O],d,M,N,P,Q,a7.1,O2.1,a8.1,O3.1,R⟩,fun h=>absurd rfl h⟩
     skip
     have a9:=I (zd (o':=zaf) f9.1);have n6:=I (zd (o':=zaf) v7.1);have n7:=I (zd (o':=zaf) v8.1);have d0:=I (ztS g8.1 (J _ zaf));have d1:=I (zh m5 (Obj.cells #[.string ⟨#[]⟩,.int .i64 0,.slice none 0 0] 129));have h3:=I g8.1.size;have A7:=zy (zw a9.1) (zy (zu a9.1) (zC a9.1));go_simp;refine hK.1 _ _ (fun _ _=>A7) ?_;clear hK K;try simp only[Act.put,O]
     obtain⟨A8,h4⟩:∃p,p=m5.heap.size:=⟨_,rfl⟩;obtain⟨t4,n8⟩:∃W,W=(m5.alloc (Obj.cells #[.string ⟨#[]⟩,.int .i64 0,.slice none 0 0] 129)):=⟨_,rfl⟩;rw[←n8]at a9 n6 n7 d1 d0;rw[←h4]at d1 h3;simp only[←n8,←h4];clear n8 h4 A7;refine zaU (i:=5) (j:=6) (oi:={dst:=some 24,op:=Op.call {callee:=Callee.value (Operand.func 114),args:=#[Operand.tmp 22,Operand.tmp 23],argTypes:=#[26,9]},type:=129,pos:= "measure.go:152",after:=_,guard:=none}) (oj:={dst:=some 15,op:=Op.alloc 129,type:=_,pos:= "measure.go:152",after:=_,guard:=none}) (by kernel_rfl) rfl rfl (by rfl) (by rfl) (fun K hK=>?_) (fun K hK=>?_)
     · skip
       go_simp;refine(zaN t T zc U ac fa fc t4 ht w d0.1 HZ.1 HA.1 m c5).mono ?_;rintro e A9 ⟨B0,B1,rfl,B2,B3,_,b0⟩;have O4:=I B2;have O5:=I B3;have h5:=I (blkA b0 a9.1);have V8:=I (blkA b0 n6.1);have V9:=I (blkA b0 n7.1);have B4:=I (blkA b0 d1.1);have B5:=I (ztS d0.1 b0);have B6:=zy (zw h5.1) (zy (zu h5.1) (zC h5.1));clear b0 B2 B3;refine hK.1 _ _ (fun _ _=>B6) ?_;clear hK K B6;try simp only[Act.put,O]
       refine zo (i:=6) (o:={dst:=some 15,op:=Op.alloc 129,type:=_,pos:= "measure.go:152",after:=_,guard:=none}) (by kernel_rfl) rfl (by rfl) (fun K hK=>?_);have B7:=ztW B4.1;have d2:=I (zd (o':=zaf) h5.1);have B8:=I (zd (o':=zaf) V8.1);have B9:=I (zd (o':=zaf) V9.1);have C0:=I (zd (o':=zaf) B4.1);have C3:=I (ztS B5.1 (J _ zaf));have h6:=I (zh A9 (Obj.cells #[.string ⟨#[]⟩,.int .i64 0,.slice none 0 0] 129));have t5:=I B5.1.size;have C4:=zy (zw d2.1) (zy (zu d2.1) (zC d2.1));go_simp;refine hK.1 _ _ (fun _ _=>C4) ?_;clear hK K;try simp only[Act.put,O]
       obtain⟨h7,h8⟩:∃p,p=A9.heap.size:=⟨_,rfl⟩;obtain⟨w_14,n9⟩:∃W,W=(A9.alloc (Obj.cells #[.string ⟨#[]⟩,.int .i64 0,.slice none 0 0] 129)):=⟨_,rfl⟩;rw[←n9]at d2 B8 B9 C0 h6 C3;rw[←h8]at h6 t5 B7;simp only[←n9,←h8];clear n9 h8 C4;have c8:=B7;obtain⟨a,q,r,f,s,u⟩:=st3 (.string (zp t b).name) (.int .i64 (zp t b).off) (.slice C (zp t b).sh.length D) d2.1 B8.1 B9.1 C0.1 h6.1 (by decide) (by decide) (by decide) (by omega) C3.1 t5.1;obtain⟨F,G,H,z,A,B,L⟩:=zc3 h6.1;refine zo (i:=8) (o:={dst:=none,op:=Op.store 129 (Operand.tmp 15) (Operand.tmp 21),type:=0,pos:= "measure.go:152",after:=_,guard:=none}) (by kernel_rfl) rfl (by rfl) (fun K hK=>?_);go_simp;refine hK.1 _ _ (fun _ _=>⟨zm (j:=0) a rfl,zm (j:=1) a rfl,zm (j:=2) a rfl⟩) ?_;clear hK K F G H z A B L;try simp only[Act.put,O]
       obtain⟨wA,g⟩:∃W,W=(((w_14.setCell ⟨h7,0,none⟩ (.string (zp t b).name)).setCell ⟨h7,1,none⟩ (.int .i64 (zp t b).off)).setCell ⟨h7,2,none⟩ (.slice C (zp t b).sh.length D)):=⟨_,rfl⟩;rw[←g]at a q r s f u;simp only[←g];clear g;obtain⟨d,M,N,P,Q,R⟩:=st3 (.string (zp t m).name) (.int .i64 (zp t m).off) (.slice B0 (zp t m).sh.length B1) a q r s f (by decide) (by decide) (by decide) (by omega) u h3.1;obtain⟨F,G,H,z,A,B,L⟩:=zc3 f;refine zo (i:=9) (o:={dst:=none,op:=Op.store 129 (Operand.tmp 16) (Operand.tmp 24),type:=0,pos:= "measure.go:152",after:=_,guard:=none}) (by kernel_rfl) rfl (by rfl) (fun K hK=>?_);go_simp;refine hK.1 _ _ (fun _ _=>⟨zm (j:=0) d rfl,zm (j:=1) d rfl,zm (j:=2) d rfl⟩) ?_;clear hK K F G H z A B L;try simp only[Act.put,O]
       refine zM (by kernel_rfl) ?_;exact⟨fun _=>⟨h7,A8,C,D,B0,B1,by simp only[Act.put,O],d,M,N,P,Q,a7.1,O4.1,a8.1,O5.1,R⟩,fun h=>absurd rfl h⟩
     skip
     have C5:=ztW d1.1;have d3:=I (zd (o':=zaf) a9.1);have C6:=I (zd (o':=zaf) n6.1);have C7:=I (zd (o':=zaf) n7.1);have C8:=I (zd (o':=zaf) d1.1);have o0:=I (ztS d0.1 (J _ zaf));have o1:=I (zh t4 (Obj.cells #[.string ⟨#[]⟩,.int .i64 0,.slice none 0 0] 129));have t6:=I d0.1.size;have C9:=zy (zw d3.1) (zy (zu d3.1) (zC d3.1));go_simp;refine hK.1 _ _ (fun _ _=>C9) ?_;clear hK K;try simp only[Act.put,O]
     obtain⟨h9,i0⟩:∃p,p=t4.heap.size:=⟨_,rfl⟩;obtain⟨w_15,o2⟩:∃W,W=(t4.alloc (Obj.cells #[.string ⟨#[]⟩,.int .i64 0,.slice none 0 0] 129)):=⟨_,rfl⟩;rw[←o2]at d3 C6 C7 C8 o1 o0;rw[←i0]at o1 t6 C5;simp only[←o2,←i0];clear o2 i0 C9;refine zo (i:=5) (o:={dst:=some 24,op:=Op.call {callee:=Callee.value (Operand.func 114),args:=#[Operand.tmp 22,Operand.tmp 23],argTypes:=#[26,9]},type:=129,pos:= "measure.go:152",after:=_,guard:=none}) (by kernel_rfl) rfl (by rfl) (fun K hK=>?_);go_simp;refine(zaN t T zc U ac fa fc w_15 ht w o0.1 HZ.1 HA.1 m c5).mono ?_;rintro e w_16 ⟨D0,D1,rfl,D2,D3,_,X⟩;have O6:=I D2;have O7:=I D3;have i1:=I (blkA X d3.1);have W0:=I (blkA X C6.1);have W1:=I (blkA X C7.1);have W2:=I (blkA X C8.1);have D4:=I (blkA X o1.1);have W4:=I (ztS o0.1 X);have D5:=zy (zw i1.1) (zy (zu i1.1) (zC i1.1));clear X D2 D3;refine hK.1 _ _ (fun _ _=>D5) ?_;clear hK K D5;try simp only[Act.put,O]
     have c8:=C5;obtain⟨a,q,r,f,s,u⟩:=st3 (.string (zp t b).name) (.int .i64 (zp t b).off) (.slice C (zp t b).sh.length D) i1.1 W0.1 W1.1 W2.1 D4.1 (by decide) (by decide) (by decide) (by omega) W4.1 t6.1;obtain⟨F,G,H,z,A,B,L⟩:=zc3 D4.1;refine zo (i:=8) (o:={dst:=none,op:=Op.store 129 (Operand.tmp 15) (Operand.tmp 21),type:=0,pos:= "measure.go:152",after:=_,guard:=none}) (by kernel_rfl) rfl (by rfl) (fun K hK=>?_);go_simp;refine hK.1 _ _ (fun _ _=>⟨zm (j:=0) a rfl,zm (j:=1) a rfl,zm (j:=2) a rfl⟩) ?_;clear hK K F G H z A B L;try simp only[Act.put,O]
     obtain⟨wA,g⟩:∃W,W=(((w_16.setCell ⟨h9,0,none⟩ (.string (zp t b).name)).setCell ⟨h9,1,none⟩ (.int .i64 (zp t b).off)).setCell ⟨h9,2,none⟩ (.slice C (zp t b).sh.length D)):=⟨_,rfl⟩;rw[←g]at a q r s f u;simp only[←g];clear g;obtain⟨d,M,N,P,Q,R⟩:=st3 (.string (zp t m).name) (.int .i64 (zp t m).off) (.slice D0 (zp t m).sh.length D1) a q r s f (by decide) (by decide) (by decide) (by omega) u h3.1;obtain⟨F,G,H,z,A,B,L⟩:=zc3 f;refine zo (i:=9) (o:={dst:=none,op:=Op.store 129 (Operand.tmp 16) (Operand.tmp 24),type:=0,pos:= "measure.go:152",after:=_,guard:=none}) (by kernel_rfl) rfl (by rfl) (fun K hK=>?_);go_simp;refine hK.1 _ _ (fun _ _=>⟨zm (j:=0) d rfl,zm (j:=1) d rfl,zm (j:=2) d rfl⟩) ?_;clear hK K F G H z A B L;try simp only[Act.put,O]
     refine zM (by kernel_rfl) ?_;exact⟨fun _=>⟨h9,A8,C,D,D0,D1,by simp only[Act.put,O],d,M,N,P,Q,a7.1,O6.1,a8.1,O7.1,R⟩,fun h=>absurd rfl h⟩
   · skip
     have b1:=I (zd (o':=zaf) f8.1);have o3:=I (zd (o':=zaf) l0.1);have o4:=I (zd (o':=zaf) l1.1);have d4:=I (ztS c3.1 (J _ zaf));have d5:=I (zh Wd (Obj.cells #[.string ⟨#[]⟩,.int .i64 0,.slice none 0 0] 129));have c6:=I c3.1.size;have D6:=zy (zw b1.1) (zy (zu b1.1) (zC b1.1));go_simp;refine hK.1 _ _ (fun _ _=>D6) ?_;clear hK K;try simp only[Act.put,O]
     obtain⟨E,i2⟩:∃p,p=Wd.heap.size:=⟨_,rfl⟩;obtain⟨t7,o5⟩:∃W,W=(Wd.alloc (Obj.cells #[.string ⟨#[]⟩,.int .i64 0,.slice none 0 0] 129)):=⟨_,rfl⟩;rw[←o5]at b1 o3 o4 d5 d4;rw[←i2]at d5 c6;simp only[←o5,←i2];clear o5 i2 D6;refine zaU (i:=2) (j:=7) (oi:={dst:=some 21,op:=Op.call {callee:=Callee.value (Operand.func 114),args:=#[Operand.tmp 19,Operand.tmp 20],argTypes:=#[26,9]},type:=129,pos:= "measure.go:152",after:=_,guard:=none}) (oj:={dst:=some 16,op:=Op.alloc 129,type:=_,pos:= "measure.go:152",after:=_,guard:=none}) (by kernel_rfl) rfl rfl (by rfl) (by rfl) (fun K hK=>?_) (fun K hK=>?_)
     · skip
       go_simp;refine(zaN t T zc U ac fa fc t7 ht w d4.1 HZ.1 HA.1 b v1).mono ?_;rintro e t8 ⟨b2,b3,rfl,D7,D8,_,b4⟩;have t9:=I D7;have u0:=I D8;have d6:=I (blkA b4 b1.1);have D9:=I (blkA b4 o3.1);have E0:=I (blkA b4 o4.1);have o6:=I (blkA b4 d5.1);have i3:=I (ztS d4.1 b4);have E1:=zy (zw d6.1) (zy (zu d6.1) (zC d6.1));clear b4 D7 D8;refine hK.1 _ _ (fun _ _=>E1) ?_;clear hK K E1;try simp only[Act.put,O]
       refine zaU (i:=5) (j:=7) (oi:={dst:=some 24,op:=Op.call {callee:=Callee.value (Operand.func 114),args:=#[Operand.tmp 22,Operand.tmp 23],argTypes:=#[26,9]},type:=129,pos:= "measure.go:152",after:=_,guard:=none}) (oj:={dst:=some 16,op:=Op.alloc 129,type:=_,pos:= "measure.go:152",after:=_,guard:=none}) (by kernel_rfl) rfl rfl (by rfl) (by rfl) (fun K hK=>?_) (fun K hK=>?_)
       · skip
         go_simp;refine(zaN t T zc U ac fa fc t8 ht w i3.1 HZ.1 HA.1 m c5).mono ?_;rintro e E2 ⟨E3,E4,rfl,E5,E8,_,b5⟩;have O8:=I E5;have O9:=I E8;have i4:=I (blkA b5 d6.1);have W5:=I (blkA b5 D9.1);have W6:=I (blkA b5 E0.1);have E9:=I (blkA b5 o6.1);have F0:=I (ztS i3.1 b5);have F1:=zy (zw i4.1) (zy (zu i4.1) (zC i4.1));clear b5 E5 E8;refine hK.1 _ _ (fun _ _=>F1) ?_;clear hK K F1;try simp only[Act.put,O]
         refine zo (i:=7) (o:={dst:=some 16,op:=Op.alloc 129,type:=_,pos:= "measure.go:152",after:=_,guard:=none}) (by kernel_rfl) rfl (by rfl) (fun K hK=>?_);have F2:=ztW E9.1;have d7:=I (zd (o':=zaf) i4.1);have F3:=I (zd (o':=zaf) W5.1);have F4:=I (zd (o':=zaf) W6.1);have o7:=I (zd (o':=zaf) E9.1);have F5:=I (ztS F0.1 (J _ zaf));have o8:=I (zh E2 (Obj.cells #[.string ⟨#[]⟩,.int .i64 0,.slice none 0 0] 129));have u1:=I F0.1.size;have F6:=zy (zw d7.1) (zy (zu d7.1) (zC d7.1));go_simp;refine hK.1 _ _ (fun _ _=>F6) ?_;clear hK K;try simp only[Act.put,O]
         obtain⟨W7,i5⟩:∃p,p=E2.heap.size:=⟨_,rfl⟩;obtain⟨w_20,o9⟩:∃W,W=(E2.alloc (Obj.cells #[.string ⟨#[]⟩,.int .i64 0,.slice none 0 0] 129)):=⟨_,rfl⟩;rw[←o9]at d7 F3 F4 o7 o8 F5;rw[←i5]at o8 u1 F2;simp only[←o9,←i5];clear o9 i5 F6;have c8:=F2;obtain⟨a,q,r,f,s,u⟩:=st3 (.string (zp t b).name) (.int .i64 (zp t b).off) (.slice b2 (zp t b).sh.length b3) d7.1 F3.1 F4.1 o8.1 o7.1 (by decide) (by decide) (by decide) (by omega) F5.1 c6.1;obtain⟨F,G,H,z,A,B,L⟩:=zc3 o7.1;refine zo (i:=8) (o:={dst:=none,op:=Op.store 129 (Operand.tmp 15) (Operand.tmp 21),type:=0,pos:= "measure.go:152",after:=_,guard:=none}) (by kernel_rfl) rfl (by rfl) (fun K hK=>?_);go_simp;refine hK.1 _ _ (fun _ _=>⟨zm (j:=0) a rfl,zm (j:=1) a rfl,zm (j:=2) a rfl⟩) ?_;clear hK K F G H z A B L;try simp only[Act.put,O]
         obtain⟨wA,g⟩:∃W,W=(((w_20.setCell ⟨E,0,none⟩ (.string (zp t b).name)).setCell ⟨E,1,none⟩ (.int .i64 (zp t b).off)).setCell ⟨E,2,none⟩ (.slice b2 (zp t b).sh.length b3)):=⟨_,rfl⟩;rw[←g]at a q r s f u;simp only[←g];clear g;obtain⟨d,M,N,P,Q,R⟩:=st3 (.string (zp t m).name) (.int .i64 (zp t m).off) (.slice E3 (zp t m).sh.length E4) a q r s f (by decide) (by decide) (by decide) (by omega) u u1.1;obtain⟨F,G,H,z,A,B,L⟩:=zc3 f;refine zo (i:=9) (o:={dst:=none,op:=Op.store 129 (Operand.tmp 16) (Operand.tmp 24),type:=0,pos:= "measure.go:152",after:=_,guard:=none}) (by kernel_rfl) rfl (by rfl) (fun K hK=>?_);go_simp;refine hK.1 _ _ (fun _ _=>⟨zm (j:=0) d rfl,zm (j:=1) d rfl,zm (j:=2) d rfl⟩) ?_;clear hK K F G H z A B L;try simp only[Act.put,O]
         refine zM (by kernel_rfl) ?_;exact⟨fun _=>⟨E,W7,b2,b3,E3,E4,by simp only[Act.put,O],d,M,N,P,Q,t9.1,O8.1,u0.1,O9.1,R⟩,fun h=>absurd rfl h⟩
       skip
       have F7:=ztW o6.1;have d8:=I (zd (o':=zaf) d6.1);have F8:=I (zd (o':=zaf) D9.1);have F9:=I (zd (o':=zaf) E0.1);have G0:=I (zd (o':=zaf) o6.1);have p0:=I (ztS i3.1 (J _ zaf));have p1:=I (zh t8 (Obj.cells #[.string ⟨#[]⟩,.int .i64 0,.slice none 0 0] 129));have u2:=I i3.1.size;have G1:=zy (zw d8.1) (zy (zu d8.1) (zC d8.1));go_simp;refine hK.1 _ _ (fun _ _=>G1) ?_;clear hK K;try simp only[Act.put,O]
       obtain⟨W8,i6⟩:∃p,p=t8.heap.size:=⟨_,rfl⟩;obtain⟨w_21,p2⟩:∃W,W=(t8.alloc (Obj.cells #[.string ⟨#[]⟩,.int .i64 0,.slice none 0 0] 129)):=⟨_,rfl⟩;rw[←p2]at d8 F8 F9 G0 p1 p0;rw[←i6]at p1 u2 F7;simp only[←p2,←i6];clear p2 i6 G1;refine zo (i:=5) (o:={dst:=some 24,op:=Op.call {callee:=Callee.value (Operand.func 114),args:=#[Operand.tmp 22,Operand.tmp 23],argTypes:=#[26,9]},type:=129,pos:= "measure.go:152",after:=_,guard:=none}) (by kernel_rfl) rfl (by rfl) (fun K hK=>?_);go_simp;refine(zaN t T zc U ac fa fc w_21 ht w p0.1 HZ.1 HA.1 m c5).mono ?_;rintro e w_22 ⟨G2,G3,rfl,G4,G5,_,Y⟩;have P0:=I G4;have P1:=I G5;have i7:=I (blkA Y d8.1);have W9:=I (blkA Y F8.1);have X0:=I (blkA Y F9.1);have G6:=I (blkA Y G0.1);have X1:=I (blkA Y p1.1);have X2:=I (ztS p0.1 Y);have G7:=zy (zw i7.1) (zy (zu i7.1) (zC i7.1));clear Y G4 G5;refine hK.1 _ _ (fun _ _=>G7) ?_;clear hK K G7;try simp only[Act.put,O]
       have c8:=F7;obtain⟨a,q,r,f,s,u⟩:=st3 (.string (zp t b).name) (.int .i64 (zp t b).off) (.slice b2 (zp t b).sh.length b3) i7.1 W9.1 X0.1 X1.1 G6.1 (by decide) (by decide) (by decide) (by omega) X2.1 c6.1;obtain⟨F,G,H,z,A,B,L⟩:=zc3 G6.1;refine zo (i:=8) (o:={dst:=none,op:=Op.store 129 (Operand.tmp 15) (Operand.tmp 21),type:=0,pos:= "measure.go:152",after:=_,guard:=none}) (by kernel_rfl) rfl (by rfl) (fun K hK=>?_);go_simp;refine hK.1 _ _ (fun _ _=>⟨zm (j:=0) a rfl,zm (j:=1) a rfl,zm (j:=2) a rfl⟩) ?_;clear hK K F G H z A B L;try simp only[Act.put,O]
       obtain⟨wA,g⟩:∃W,W=(((w_22.setCell ⟨E,0,none⟩ (.string (zp t b).name)).setCell ⟨E,1,none⟩ (.int .i64 (zp t b).off)).setCell ⟨E,2,none⟩ (.slice b2 (zp t b).sh.length b3)):=⟨_,rfl⟩;rw[←g]at a q r s f u;simp only[←g];clear g;obtain⟨d,M,N,P,Q,R⟩:=st3 (.string (zp t m).name) (.int .i64 (zp t m).off) (.slice G2 (zp t m).sh.length G3) a q r s f (by decide) (by decide) (by decide) (by omega) u u2.1;obtain⟨F,G,H,z,A,B,L⟩:=zc3 f;refine zo (i:=9) (o:={dst:=none,op:=Op.store 129 (Operand.tmp 16) (Operand.tmp 24),type:=0,pos:= "measure.go:152",after:=_,guard:=none}) (by kernel_rfl) rfl (by rfl) (fun K hK=>?_);go_simp;refine hK.1 _ _ (fun _ _=>⟨zm (j:=0) d rfl,zm (j:=1) d rfl,zm (j:=2) d rfl⟩) ?_;clear hK K F G H z A B L;try simp only[Act.put,O]
       refine zM (by kernel_rfl) ?_;exact⟨fun _=>⟨E,W8,b2,b3,G2,G3,by simp only[Act.put,O],d,M,N,P,Q,t9.1,P0.1,u0.1,P1.1,R⟩,fun h=>absurd rfl h⟩
     skip
     have G8:=ztW d5.1;have d9:=I (zd (o':=zaf) b1.1);have G9:=I (zd (o':=zaf) o3.1);have H0:=I (zd (o':=zaf) o4.1);have H1:=I (zd (o':=zaf) d5.1);have p3:=I (ztS d4.1 (J _ zaf));have p4:=I (zh t7 (Obj.cells #[.string ⟨#[]⟩,.int .i64 0,.slice none 0 0] 129));have u3:=I d4.1.size;have H2:=zy (zw d9.1) (zy (zu d9.1) (zC d9.1));go_simp;refine hK.1 _ _ (fun _ _=>H2) ?_;clear hK K;try simp only[Act.put,O]
     obtain⟨X3,i8⟩:∃p,p=t7.heap.size:=⟨_,rfl⟩;obtain⟨w_23,p5⟩:∃W,W=(t7.alloc (Obj.cells #[.string ⟨#[]⟩,.int .i64 0,.slice none 0 0] 129)):=⟨_,rfl⟩;rw[←p5]at d9 G9 H0 H1 p4 p3;rw[←i8]at p4 u3 G8;simp only[←p5,←i8];clear p5 i8 H2;refine zo (i:=2) (o:={dst:=some 21,op:=Op.call {callee:=Callee.value (Operand.func 114),args:=#[Operand.tmp 19,Operand.tmp 20],argTypes:=#[26,9]},type:=129,pos:= "measure.go:152",after:=_,guard:=none}) (by kernel_rfl) rfl (by rfl) (fun K hK=>?_);go_simp;refine(zaN t T zc U ac fa fc w_23 ht w p3.1 HZ.1 HA.1 b v1).mono ?_;rintro e w_24 ⟨p8,p9,rfl,H3,H4,_,Z⟩;have P2:=I H3;have P3:=I H4;have i9:=I (blkA Z d9.1);have X4:=I (blkA Z G9.1);have X5:=I (blkA Z H0.1);have X6:=I (blkA Z H1.1);have X7:=I (blkA Z p4.1);have H5:=I (ztS p3.1 Z);have H6:=zy (zw i9.1) (zy (zu i9.1) (zC i9.1));clear Z H3 H4;refine hK.1 _ _ (fun _ _=>H6) ?_;clear hK K H6;try simp only[Act.put,O]
     refine zo (i:=5) (o:={dst:=some 24,op:=Op.call {callee:=Callee.value (Operand.func 114),args:=#[Operand.tmp 22,Operand.tmp 23],argTypes:=#[26,9]},type:=129,pos:= "measure.go:152",after:=_,guard:=none}) (by kernel_rfl) rfl (by rfl) (fun K hK=>?_);go_simp;refine(zaN t T zc U ac fa fc w_24 ht w H5.1 HZ.1 HA.1 m c5).mono ?_;rintro e w_25 ⟨H7,H8,rfl,H9,I0,_,a3⟩;have P4:=I H9;have P5:=I I0;have j3:=I (blkA a3 i9.1);have X8:=I (blkA a3 X4.1);have X9:=I (blkA a3 X5.1);have I1:=I (blkA a3 X6.1);have Y0:=I (blkA a3 X7.1);have Y1:=I (ztS H5.1 a3);have I2:=zy (zw j3.1) (zy (zu j3.1) (zC j3.1));clear a3 H9 I0;refine hK.1 _ _ (fun _ _=>I2) ?_;clear hK K I2;try simp only[Act.put,O]
     have c8:=G8;obtain⟨a,q,r,f,s,u⟩:=st3 (.string (zp t b).name) (.int .i64 (zp t b).off) (.slice p8 (zp t b).sh.length p9) j3.1 X8.1 X9.1 Y0.1 I1.1 (by decide) (by decide) (by decide) (by omega) Y1.1 c6.1;obtain⟨F,G,H,z,A,B,L⟩:=zc3 I1.1;refine zo (i:=8) (o:={dst:=none,op:=Op.store 129 (Operand.tmp 15) (Operand.tmp 21),type:=0,pos:= "measure.go:152",after:=_,guard:=none}) (by kernel_rfl) rfl (by rfl) (fun K hK=>?_);go_simp;refine hK.1 _ _ (fun _ _=>⟨zm (j:=0) a rfl,zm (j:=1) a rfl,zm (j:=2) a rfl⟩) ?_;clear hK K F G H z A B L;try simp only[Act.put,O]
     obtain⟨wA,g⟩:∃W,W=(((w_25.setCell ⟨E,0,none⟩ (.string (zp t b).name)).setCell ⟨E,1,none⟩ (.int .i64 (zp t b).off)).setCell ⟨E,2,none⟩ (.slice p8 (zp t b).sh.length p9)):=⟨_,rfl⟩;rw[←g]at a q r s f u;simp only[←g];clear g;obtain⟨d,M,N,P,Q,R⟩:=st3 (.string (zp t m).name) (.int .i64 (zp t m).off) (.slice H7 (zp t m).sh.length H8) a q r s f (by decide) (by decide) (by decide) (by omega) u u3.1;obtain⟨F,G,H,z,A,B,L⟩:=zc3 f;refine zo (i:=9) (o:={dst:=none,op:=Op.store 129 (Operand.tmp 16) (Operand.tmp 24),type:=0,pos:= "measure.go:152",after:=_,guard:=none}) (by kernel_rfl) rfl (by rfl) (fun K hK=>?_);go_simp;refine hK.1 _ _ (fun _ _=>⟨zm (j:=0) d rfl,zm (j:=1) d rfl,zm (j:=2) d rfl⟩) ?_;clear hK K F G H z A B L;try simp only[Act.put,O]
     refine zM (by kernel_rfl) ?_;exact⟨fun _=>⟨E,X3,p8,p9,H7,H8,by simp only[Act.put,O],d,M,N,P,Q,P2.1,P4.1,P3.1,P5.1,R⟩,fun h=>absurd rfl h⟩
   skip
   have b6:=I (zd (o':=zaf) f8.1);have q0:=I (zd (o':=zaf) l0.1);have q1:=I (zd (o':=zaf) l1.1);have f0:=I (ztS c3.1 (J _ zaf));have f3:=I (zh Wd (Obj.cells #[.string ⟨#[]⟩,.int .i64 0,.slice none 0 0] 129));have c7:=I c3.1.size;have I3:=zy (zw b6.1) (zy (zu b6.1) (zC b6.1));go_simp;refine hK.1 _ _ (fun _ _=>I3) ?_;clear hK K;try simp only[Act.put,O]
   obtain⟨q2,j4⟩:∃p,p=Wd.heap.size:=⟨_,rfl⟩;obtain⟨u4,q3⟩:∃W,W=(Wd.alloc (Obj.cells #[.string ⟨#[]⟩,.int .i64 0,.slice none 0 0] 129)):=⟨_,rfl⟩;rw[←q3]at b6 q0 q1 f3 f0;rw[←j4]at f3 c7;simp only[←q3,←j4];clear q3 j4 I3;refine zaU (i:=2) (j:=6) (oi:={dst:=some 21,op:=Op.call {callee:=Callee.value (Operand.func 114),args:=#[Operand.tmp 19,Operand.tmp 20],argTypes:=#[26,9]},type:=129,pos:= "measure.go:152",after:=_,guard:=none}) (oj:={dst:=some 15,op:=Op.alloc 129,type:=_,pos:= "measure.go:152",after:=_,guard:=none}) (by kernel_rfl) rfl rfl (by rfl) (by rfl) (fun K hK=>?_) (fun K hK=>?_)
   · skip
     go_simp;refine(zaN t T zc U ac fa fc u4 ht w f0.1 HZ.1 HA.1 b v1).mono ?_;rintro e u5 ⟨b7,b8,rfl,I4,I5,_,b9⟩;have u6:=I I4;have u7:=I I5;have f4:=I (blkA b9 b6.1);have I6:=I (blkA b9 q0.1);have I7:=I (blkA b9 q1.1);have q4:=I (blkA b9 f3.1);have j5:=I (ztS f0.1 b9);have I8:=zy (zw f4.1) (zy (zu f4.1) (zC f4.1));clear b9 I4 I5;refine hK.1 _ _ (fun _ _=>I8) ?_;clear hK K I8;try simp only[Act.put,O]
     refine zaU (i:=5) (j:=6) (oi:={dst:=some 24,op:=Op.call {callee:=Callee.value (Operand.func 114),args:=#[Operand.tmp 22,Operand.tmp 23],argTypes:=#[26,9]},type:=129,pos:= "measure.go:152",after:=_,guard:=none}) (oj:={dst:=some 15,op:=Op.alloc 129,type:=_,pos:= "measure.go:152",after:=_,guard:=none}) (by kernel_rfl) rfl rfl (by rfl) (by rfl) (fun K hK=>?_) (fun K hK=>?_)
     · skip
       go_simp;refine(zaN t T zc U ac fa fc u5 ht w j5.1 HZ.1 HA.1 m c5).mono ?_;rintro e I9 ⟨J0,J1,rfl,J2,J3,_,c0⟩;have P6:=I J2;have P7:=I J3;have j6:=I (blkA c0 f4.1);have Y2:=I (blkA c0 I6.1);have Y3:=I (blkA c0 I7.1);have J4:=I (blkA c0 q4.1);have J5:=I (ztS j5.1 c0);have J6:=zy (zw j6.1) (zy (zu j6.1) (zC j6.1));clear c0 J2 J3;refine hK.1 _ _ (fun _ _=>J6) ?_;clear hK K J6;try simp only[Act.put,O]
       refine zo (i:=6) (o:={dst:=some 15,op:=Op.alloc 129,type:=_,pos:= "measure.go:152",after:=_,guard:=none}) (by kernel_rfl) rfl (by rfl) (fun K hK=>?_);have J7:=ztW J4.1;have f5:=I (zd (o':=zaf) j6.1);have J8:=I (zd (o':=zaf) Y2.1);have J9:=I (zd (o':=zaf) Y3.1);have K0:=I (zd (o':=zaf) J4.1);have K1:=I (ztS J5.1 (J _ zaf));have j7:=I (zh I9 (Obj.cells #[.string ⟨#[]⟩,.int .i64 0,.slice none 0 0] 129));have u8:=I J5.1.size;have K2:=zy (zw f5.1) (zy (zu f5.1) (zC f5.1));go_simp;refine hK.1 _ _ (fun _ _=>K2) ?_;clear hK K;try simp only[Act.put,O]
       obtain⟨j8,j9⟩:∃p,p=I9.heap.size:=⟨_,rfl⟩;obtain⟨w_29,q5⟩:∃W,W=(I9.alloc (Obj.cells #[.string ⟨#[]⟩,.int .i64 0,.slice none 0 0] 129)):=⟨_,rfl⟩;rw[←q5]at f5 J8 J9 K0 j7 K1;rw[←j9]at j7 u8 J7;simp only[←q5,←j9];clear q5 j9 K2;have c8:=J7;obtain⟨a,q,r,f,s,u⟩:=st3 (.string (zp t b).name) (.int .i64 (zp t b).off) (.slice b7 (zp t b).sh.length b8) f5.1 J8.1 J9.1 K0.1 j7.1 (by decide) (by decide) (by decide) (by omega) K1.1 u8.1;obtain⟨F,G,H,z,A,B,L⟩:=zc3 j7.1;refine zo (i:=8) (o:={dst:=none,op:=Op.store 129 (Operand.tmp 15) (Operand.tmp 21),type:=0,pos:= "measure.go:152",after:=_,guard:=none}) (by kernel_rfl) rfl (by rfl) (fun K hK=>?_);go_simp;refine hK.1 _ _ (fun _ _=>⟨zm (j:=0) a rfl,zm (j:=1) a rfl,zm (j:=2) a rfl⟩) ?_;clear hK K F G H z A B L;try simp only[Act.put,O]
       obtain⟨wA,g⟩:∃W,W=(((w_29.setCell ⟨j8,0,none⟩ (.string (zp t b).name)).setCell ⟨j8,1,none⟩ (.int .i64 (zp t b).off)).setCell ⟨j8,2,none⟩ (.slice b7 (zp t b).sh.length b8)):=⟨_,rfl⟩;rw[←g]at a q r s f u;simp only[←g];clear g;obtain⟨d,M,N,P,Q,R⟩:=st3 (.string (zp t m).name) (.int .i64 (zp t m).off) (.slice J0 (zp t m).sh.length J1) a q r s f (by decide) (by decide) (by decide) (by omega) u c7.1;obtain⟨F,G,H,z,A,B,L⟩:=zc3 f;refine zo (i:=9) (o:={dst:=none,op:=Op.store 129 (Operand.tmp 16) (Operand.tmp 24),type:=0,pos:= "measure.go:152",after:=_,guard:=none}) (by kernel_rfl) rfl (by rfl) (fun K hK=>?_);go_simp;refine hK.1 _ _ (fun _ _=>⟨zm (j:=0) d rfl,zm (j:=1) d rfl,zm (j:=2) d rfl⟩) ?_;clear hK K F G H z A B L;try simp only[Act.put,O]
       refine zM (by kernel_rfl) ?_;exact⟨fun _=>⟨j8,q2,b7,b8,J0,J1,by simp only[Act.put,O],d,M,N,P,Q,u6.1,P6.1,u7.1,P7.1,R⟩,fun h=>absurd rfl h⟩
     skip
     have K3:=ztW q4.1;have f6:=I (zd (o':=zaf) f4.1);have K4:=I (zd (o':=zaf) I6.1);have K5:=I (zd (o':=zaf) I7.1);have K6:=I (zd (o':=zaf) q4.1);have q6:=I (ztS j5.1 (J _ zaf));have q7:=I (zh u5 (Obj.cells #[.string ⟨#[]⟩,.int .i64 0,.slice none 0 0] 129));have u9:=I j5.1.size;have K7:=zy (zw f6.1) (zy (zu f6.1) (zC f6.1));go_simp;refine hK.1 _ _ (fun _ _=>K7) ?_;clear hK K;try simp only[Act.put,O]
     obtain⟨k3,k4⟩:∃p,p=u5.heap.size:=⟨_,rfl⟩;obtain⟨w_30,q8⟩:∃W,W=(u5.alloc (Obj.cells #[.string ⟨#[]⟩,.int .i64 0,.slice none 0 0] 129)):=⟨_,rfl⟩;rw[←q8]at f6 K4 K5 K6 q7 q6;rw[←k4]at q7 u9 K3;simp only[←q8,←k4];clear q8 k4 K7;refine zo (i:=5) (o:={dst:=some 24,op:=Op.call {callee:=Callee.value (Operand.func 114),args:=#[Operand.tmp 22,Operand.tmp 23],argTypes:=#[26,9]},type:=129,pos:= "measure.go:152",after:=_,guard:=none}) (by kernel_rfl) rfl (by rfl) (fun K hK=>?_);go_simp;refine(zaN t T zc U ac fa fc w_30 ht w q6.1 HZ.1 HA.1 m c5).mono ?_;rintro e w_31 ⟨K8,K9,rfl,L0,L1,_,a4⟩;have P8:=I L0;have P9:=I L1;have k5:=I (blkA a4 f6.1);have Y4:=I (blkA a4 K4.1);have Y5:=I (blkA a4 K5.1);have Y6:=I (blkA a4 K6.1);have L2:=I (blkA a4 q7.1);have Y7:=I (ztS q6.1 a4);have L3:=zy (zw k5.1) (zy (zu k5.1) (zC k5.1));clear a4 L0 L1;refine hK.1 _ _ (fun _ _=>L3) ?_;clear hK K L3;try simp only[Act.put,O]
     have c8:=K3;obtain⟨a,q,r,f,s,u⟩:=st3 (.string (zp t b).name) (.int .i64 (zp t b).off) (.slice b7 (zp t b).sh.length b8) k5.1 Y4.1 Y5.1 Y6.1 L2.1 (by decide) (by decide) (by decide) (by omega) Y7.1 u9.1;obtain⟨F,G,H,z,A,B,L⟩:=zc3 L2.1;refine zo (i:=8) (o:={dst:=none,op:=Op.store 129 (Operand.tmp 15) (Operand.tmp 21),type:=0,pos:= "measure.go:152",after:=_,guard:=none}) (by kernel_rfl) rfl (by rfl) (fun K hK=>?_);go_simp;refine hK.1 _ _ (fun _ _=>⟨zm (j:=0) a rfl,zm (j:=1) a rfl,zm (j:=2) a rfl⟩) ?_;clear hK K F G H z A B L;try simp only[Act.put,O]
     obtain⟨wA,g⟩:∃W,W=(((w_31.setCell ⟨k3,0,none⟩ (.string (zp t b).name)).setCell ⟨k3,1,none⟩ (.int .i64 (zp t b).off)).setCell ⟨k3,2,none⟩ (.slice b7 (zp t b).sh.length b8)):=⟨_,rfl⟩;rw[←g]at a q r s f u;simp only[←g];clear g;obtain⟨d,M,N,P,Q,R⟩:=st3 (.string (zp t m).name) (.int .i64 (zp t m).off) (.slice K8 (zp t m).sh.length K9) a q r s f (by decide) (by decide) (by decide) (by omega) u c7.1;obtain⟨F,G,H,z,A,B,L⟩:=zc3 f;refine zo (i:=9) (o:={dst:=none,op:=Op.store 129 (Operand.tmp 16) (Operand.tmp 24),type:=0,pos:= "measure.go:152",after:=_,guard:=none}) (by kernel_rfl) rfl (by rfl) (fun K hK=>?_);go_simp;refine hK.1 _ _ (fun _ _=>⟨zm (j:=0) d rfl,zm (j:=1) d rfl,zm (j:=2) d rfl⟩) ?_;clear hK K F G H z A B L;try simp only[Act.put,O]
     refine zM (by kernel_rfl) ?_;exact⟨fun _=>⟨k3,q2,b7,b8,K8,K9,by simp only[Act.put,O],d,M,N,P,Q,u6.1,P8.1,u7.1,P9.1,R⟩,fun h=>absurd rfl h⟩
   skip
   have L4:=ztW f3.1;have f7:=I (zd (o':=zaf) b6.1);have L5:=I (zd (o':=zaf) q0.1);have L6:=I (zd (o':=zaf) q1.1);have L7:=I (zd (o':=zaf) f3.1);have q9:=I (ztS f0.1 (J _ zaf));have r8:=I (zh u4 (Obj.cells #[.string ⟨#[]⟩,.int .i64 0,.slice none 0 0] 129));have v0:=I f0.1.size;have L8:=zy (zw f7.1) (zy (zu f7.1) (zC f7.1));go_simp;refine hK.1 _ _ (fun _ _=>L8) ?_;clear hK K;try simp only[Act.put,O]
   obtain⟨k6,k7⟩:∃p,p=u4.heap.size:=⟨_,rfl⟩;obtain⟨w_32,r9⟩:∃W,W=(u4.alloc (Obj.cells #[.string ⟨#[]⟩,.int .i64 0,.slice none 0 0] 129)):=⟨_,rfl⟩;rw[←r9]at f7 L5 L6 L7 r8 q9;rw[←k7]at r8 v0 L4;simp only[←r9,←k7];clear r9 k7 L8;refine zo (i:=2) (o:={dst:=some 21,op:=Op.call {callee:=Callee.value (Operand.func 114),args:=#[Operand.tmp 19,Operand.tmp 20],argTypes:=#[26,9]},type:=129,pos:= "measure.go:152",after:=_,guard:=none}) (by kernel_rfl) rfl (by rfl) (fun K hK=>?_);go_simp;refine(zaN t T zc U ac fa fc w_32 ht w q9.1 HZ.1 HA.1 b v1).mono ?_;rintro e w_33 ⟨s0,s1,rfl,L9,M0,_,a5⟩;have Q0:=I L9;have Q1:=I M0;have k8:=I (blkA a5 f7.1);have Y8:=I (blkA a5 L5.1);have Y9:=I (blkA a5 L6.1);have Z0:=I (blkA a5 L7.1);have Z1:=I (blkA a5 r8.1);have M1:=I (ztS q9.1 a5);have M2:=zy (zw k8.1) (zy (zu k8.1) (zC k8.1));clear a5 L9 M0;refine hK.1 _ _ (fun _ _=>M2) ?_;clear hK K M2;try simp only[Act.put,O]
   refine zo (i:=5) (o:={dst:=some 24,op:=Op.call {callee:=Callee.value (Operand.func 114),args:=#[Operand.tmp 22,Operand.tmp 23],argTypes:=#[26,9]},type:=129,pos:= "measure.go:152",after:=_,guard:=none}) (by kernel_rfl) rfl (by rfl) (fun K hK=>?_);go_simp;refine(zaN t T zc U ac fa fc w_33 ht w M1.1 HZ.1 HA.1 m c5).mono ?_;rintro e w_34 ⟨M3,M4,rfl,M5,M6,_,a6⟩;have Q2:=I M5;have Q3:=I M6;have k9:=I (blkA a6 k8.1);have Z2:=I (blkA a6 Y8.1);have Z3:=I (blkA a6 Y9.1);have Z4:=I (blkA a6 Z0.1);have M7:=I (blkA a6 Z1.1);have Z5:=I (ztS M1.1 a6);have M8:=zy (zw k9.1) (zy (zu k9.1) (zC k9.1));clear a6 M5 M6;refine hK.1 _ _ (fun _ _=>M8) ?_;clear hK K M8;try simp only[Act.put,O]
   have c8:=L4;obtain⟨a,q,r,f,s,u⟩:=st3 (.string (zp t b).name) (.int .i64 (zp t b).off) (.slice s0 (zp t b).sh.length s1) k9.1 Z2.1 Z3.1 Z4.1 M7.1 (by decide) (by decide) (by decide) (by omega) Z5.1 v0.1;obtain⟨F,G,H,z,A,B,L⟩:=zc3 M7.1;refine zo (i:=8) (o:={dst:=none,op:=Op.store 129 (Operand.tmp 15) (Operand.tmp 21),type:=0,pos:= "measure.go:152",after:=_,guard:=none}) (by kernel_rfl) rfl (by rfl) (fun K hK=>?_);go_simp;refine hK.1 _ _ (fun _ _=>⟨zm (j:=0) a rfl,zm (j:=1) a rfl,zm (j:=2) a rfl⟩) ?_;clear hK K F G H z A B L;try simp only[Act.put,O]
   obtain⟨wA,g⟩:∃W,W=(((w_34.setCell ⟨k6,0,none⟩ (.string (zp t b).name)).setCell ⟨k6,1,none⟩ (.int .i64 (zp t b).off)).setCell ⟨k6,2,none⟩ (.slice s0 (zp t b).sh.length s1)):=⟨_,rfl⟩;rw[←g]at a q r s f u;simp only[←g];clear g;obtain⟨d,M,N,P,Q,R⟩:=st3 (.string (zp t m).name) (.int .i64 (zp t m).off) (.slice M3 (zp t m).sh.length M4) a q r s f (by decide) (by decide) (by decide) (by omega) u c7.1;obtain⟨F,G,H,z,A,B,L⟩:=zc3 f;refine zo (i:=9) (o:={dst:=none,op:=Op.store 129 (Operand.tmp 16) (Operand.tmp 24),type:=0,pos:= "measure.go:152",after:=_,guard:=none}) (by kernel_rfl) rfl (by rfl) (fun K hK=>?_);go_simp;refine hK.1 _ _ (fun _ _=>⟨zm (j:=0) d rfl,zm (j:=1) d rfl,zm (j:=2) d rfl⟩) ?_;clear hK K F G H z A B L;try simp only[Act.put,O]
   refine zM (by kernel_rfl) ?_;exact⟨fun _=>⟨k6,q2,s0,s1,M3,M4,by simp only[Act.put,O],d,M,N,P,Q,Q0.1,Q2.1,Q1.1,Q3.1,R⟩,fun h=>absurd rfl h⟩
 clear l2 S xl f8 l0 l1 c3;rintro _ w1 ⟨p6,p7,a1,c1,a2,c2,rfl,QT,QC,QS,E6,E7,S1,S2,N1,N2,BL⟩;simp only[Act.put,O];have hn1:(zp t b).name.size≤maxLen:=by unfold maxLen;omega
 have Z6:(zp t b).sh.length≤1000000:=by have:=zi3 ht b;omega
 have hl2:(zp t m).sh.length≤1000000:=by have:=zi3 ht m;omega
 obtain⟨hx0,hxy1,hy1⟩:=hxy;have ho1:=zgT ht v1 (x:=x) ⟨hx0,by omega⟩;have ho2:=zgT ht c5 (x:=y) ⟨by omega,hy1⟩;have ob1:=zfE (nm:=(zp t b).name.data.toList) (o:=(zp t b).off) (l:=(zp t b).sh) (t:=x);have ob2:=zfE (nm:=(zp t m).name.data.toList) (o:=(zp t m).off) (l:=(zp t m).sh) (t:=y);rw[←ho1]at ob1;rw[←ho2]at ob2;clear ho1 ho2;have S1:=I S1;have S2:=I S2;have QT:=I QT;have QC:=I QC;have QS:=I QS;have E6:=I E6;have E7:=I E7;have BL:=I BL;have HT0:=I ht;clear ht;have k0:=zw E6.1;have k1:=zu E6.1;have k2:=zC E6.1;have kl:=ztW E6.1;have m0:=zw QS.1;have m1:=zu QS.1;have ml:=ztW QS.1;have y5:=zbn QC.1;have y6:=zbm QC.1;have yl:=ztW QC.1;go_wp2_with fail;refine(zgP (zp t b).name (zp t b).off x y c.nf c.nt (zp t b).sh a1 c1 w1 hn1 Z6 (S1.1.below BL.1)).mono ?_;rintro e w2 ⟨rfl,M9⟩;have N0:=I (blkA M9 QS.1);have v3:=I (blkA M9 E6.1);have v4:=I (blkA M9 E7.1);have Q4:=I (ztS BL.1 M9);clear M9 k0 k1 k2 kl m0 m1 ml y5 y6 yl QT QC QS E6 E7 BL;have k0:=zw v3.1;have k1:=zu v3.1;have k2:=zC v3.1;have kl:=ztW v3.1;have j0:=zw v4.1;have j1:=zu v4.1;have j2:=zC v4.1;have jl:=ztW v4.1;have m0:=zw N0.1;have m1:=zu N0.1;have ml:=ztW N0.1;have C1:=I (fun dd os=>ztZ (zgr (zp t m).name (zp t m).off y (zp t m).sh a2 c2 (grow (redrawn w2 dd) os) hl2 (S2.1.below (ztS Q4.1 (below_regrown w2 dd os)))));have C2:=I (fun dd os=>ztZ (zgr (zp t b).name (zp t b).off x (zp t b).sh a1 c1 (grow (redrawn w2 dd) os) Z6 (S1.1.below (ztS Q4.1 (below_regrown w2 dd os)))));obtain⟨ni,Z7⟩:∃n,n=(zaJ (zp t b).name.data.toList (zp t b).off (zp t b).sh x y c.nf c.nt).1:=⟨_,rfl⟩;simp only[←Z7];have HNI:=I Z7;clear Z7;go_wp2_with fail;have r0:=fun dd os=>cell_regrown k0 dd os
 have r1:=fun dd os=>cell_regrown k1 dd os
 have r2:=fun dd os=>cell_regrown k2 dd os
 have r3:=fun dd os=>cell_regrown j0 dd os
 have r4:=fun dd os=>cell_regrown j1 dd os
 have r5:=fun dd os=>cell_regrown j2 dd os
 have r6:=fun dd os=>cell_regrown m0 dd os
 have r7:=fun dd os=>cell_regrown m1 dd os
 refine wp_region_quiet_below (by kernel_rfl) (by kernel_rfl) ?_;repeat (first|go_big_quiet_step (first|(with_reducible exact C1.1 _ _)|(with_reducible exact C2.1 _ _))|quiet_step (first|(with_reducible exact C1.1 _ _)|(with_reducible exact C2.1 _ _)))
 refine wpQuiet_nil ?_;intro _ hw';obtain⟨⟨dq,N3⟩,hw''⟩:=hw';subst hw'';have v5:=I (blkA (below_regrown w2 dq N3) N0.1);have s2:=I (blkA (below_regrown w2 dq N3) v3.1);have s3:=I (blkA (below_regrown w2 dq N3) v4.1);have N4:=I (ztS Q4.1 (below_regrown w2 dq N3));clear r0 r1 r2 r3 r4 r5 r6 r7 C1 C2 k0 k1 k2 kl j0 j1 j2 jl m0 m1 ml N0 v3 v4 Q4;generalize grow (redrawn w2 dq) N3=W3 at*;obtain⟨sh,Z8⟩:∃n,n=(offR (zp t m).off (zp t m).sh y-offR (zp t b).off (zp t b).sh x):=⟨_,rfl⟩;simp only[←Z8];have HSH:=I Z8;have shb:-1680≤sh∧sh≤1680:=by omega
 have hwn:IntKind.i64.wrap (-sh)=-sh:=by rw[IntKind.wrap_i64];omega
 have hwd:IntKind.i64.wrap (y-x)=y-x:=by rw[IntKind.wrap_i64];omega
 clear Z8 ob1 ob2;go_wp2_with fail;have S:W3.drew.cell? ⟨sb,0,none⟩=some (.int .i64 x)∧W3.drew.cell? ⟨sb,1,none⟩=some (.int .i64 y)∧W3.drew.cell? ⟨p6,0,none⟩=some (.string (zp t b).name)∧W3.drew.cell? ⟨p6,1,none⟩=some (.int .i64 (zp t b).off)∧W3.drew.cell? ⟨p6,2,none⟩=some (.slice a1 (zp t b).sh.length c1)∧W3.drew.cell? ⟨p7,0,none⟩=some (.string (zp t m).name)∧W3.drew.cell? ⟨p7,1,none⟩=some (.int .i64 (zp t m).off)∧W3.drew.cell? ⟨p7,2,none⟩=some (.slice a2 (zp t m).sh.length c2):=⟨zm (j:=0) v5.1 rfl,zm (j:=1) v5.1 rfl,zm (j:=0) s2.1 rfl,zm (j:=1) s2.1 rfl,zm (j:=2) s2.1 rfl,zm (j:=0) s3.1 rfl,zm (j:=1) s3.1 rfl,zm (j:=2) s3.1 rfl⟩;have N5:=I N4.1.drew;have N6:ztR (W3.drew.heap[sb]?=some (.cells #[.int .i64 x,.int .i64 y] 40 (0,0))):=v5;have N7:ztR (W3.drew.heap[p6]?=some (.cells #[.string (zp t b).name,.int .i64 (zp t b).off,.slice a1 (zp t b).sh.length c1] 129 (0,0))):=s2;have N8:ztR (W3.drew.heap[p7]?=some (.cells #[.string (zp t m).name,.int .i64 (zp t m).off,.slice a2 (zp t m).sh.length c2] 129 (0,0))):=s3;obtain⟨Wd,l2⟩:∃Wd,W3.drew=Wd:=⟨_,rfl⟩;rw[l2]at S N5 N6 N7 N8;clear N4 v5 s2 s3;have N4:=N5;have v5:=N6;have s2:=N7;have s3:=N8;clear N5 N6 N7 N8;refine zbD (fun w'=>w'.cell? ⟨sb,0,none⟩=some (.int .i64 x)∧w'.cell? ⟨sb,1,none⟩=some (.int .i64 y)∧w'.cell? ⟨p6,0,none⟩=some (.string (zp t b).name)∧w'.cell? ⟨p6,1,none⟩=some (.int .i64 (zp t b).off)∧w'.cell? ⟨p6,2,none⟩=some (.slice a1 (zp t b).sh.length c1)∧w'.cell? ⟨p7,0,none⟩=some (.string (zp t m).name)∧w'.cell? ⟨p7,1,none⟩=some (.int .i64 (zp t m).off)∧w'.cell? ⟨p7,2,none⟩=some (.slice a2 (zp t m).sh.length c2)) [] (by kernel_rfl) l2 ?_;clear l2;refine zx (i:=0) (v:=.pointer (some ⟨sb,1,none⟩)) rfl (fun w' hS'=>?_) S ?_
 · obtain⟨z,A,B,g3,g4,g5,g6,g7⟩:=hS';go_simp
 try simp only[Act.put,O]
 refine zx (i:=1) (v:=.int .i64 y) rfl (fun w' hS'=>?_) S ?_
 · obtain⟨z,A,B,g3,g4,g5,g6,g7⟩:=hS';go_simp
 try simp only[Act.put,O]
 refine zx (i:=2) (v:=.pointer (some ⟨sb,0,none⟩)) rfl (fun w' hS'=>?_) S ?_
 · obtain⟨z,A,B,g3,g4,g5,g6,g7⟩:=hS';go_simp
 try simp only[Act.put,O]
 refine zx (i:=3) (v:=.int .i64 x) rfl (fun w' hS'=>?_) S ?_
 · obtain⟨z,A,B,g3,g4,g5,g6,g7⟩:=hS';go_simp
 try simp only[Act.put,O]
 refine zx (i:=4) (v:=.int .i64 (y-x)) rfl (fun w' hS'=>?_) S ?_
 · obtain⟨z,A,B,g3,g4,g5,g6,g7⟩:=hS';go_simp
 try simp only[Act.put,O]
 refine zT (i:=5) (v:=.int .i64 ni) rfl (fun w'=>?_) ?_
 · go_simp
 try simp only[Act.put,O]
 refine zT (i:=6) (v:=.int .i64 sh) rfl (fun w'=>?_) ?_
 · go_simp
 try simp only[Act.put,O]
 refine zT (i:=7) (v:=.int .i64 sh) rfl (fun w'=>?_) ?_
 · go_simp
 try simp only[Act.put,O]
 refine zT (i:=8) (v:=.int .i64 (-sh)) rfl (fun w'=>?_) ?_
 · go_simp
 try simp only[Act.put,O]
 refine zT (i:=9) (v:=.int .i64 (mx sh (-sh))) rfl (fun w'=>?_) ?_
 · unfold mx
   go_simp;split <;> omega
 try simp only[Act.put,O]
 refine zx (i:=10) (v:=.agg #[.string (zp t b).name,.int .i64 (zp t b).off,.slice a1 (zp t b).sh.length c1]) rfl (fun w' hS'=>?_) S ?_
 · obtain⟨z,A,B,g3,g4,g5,g6,g7⟩:=hS';go_simp
 try simp only[Act.put,O]
 refine zx (i:=11) (v:=.pointer (some ⟨sb,0,none⟩)) rfl (fun w' hS'=>?_) S ?_
 · obtain⟨z,A,B,g3,g4,g5,g6,g7⟩:=hS';go_simp
 try simp only[Act.put,O]
 refine zx (i:=12) (v:=.int .i64 x) rfl (fun w' hS'=>?_) S ?_
 · obtain⟨z,A,B,g3,g4,g5,g6,g7⟩:=hS';go_simp
 try simp only[Act.put,O]
 refine zx (i:=14) (v:=.agg #[.string (zp t m).name,.int .i64 (zp t m).off,.slice a2 (zp t m).sh.length c2]) rfl (fun w' hS'=>?_) S ?_
 · obtain⟨z,A,B,g3,g4,g5,g6,g7⟩:=hS';go_simp
 try simp only[Act.put,O]
 refine zx (i:=15) (v:=.pointer (some ⟨sb,1,none⟩)) rfl (fun w' hS'=>?_) S ?_
 · obtain⟨z,A,B,g3,g4,g5,g6,g7⟩:=hS';go_simp
 try simp only[Act.put,O]
 refine zx (i:=16) (v:=.int .i64 y) rfl (fun w' hS'=>?_) S ?_
 · obtain⟨z,A,B,g3,g4,g5,g6,g7⟩:=hS';go_simp
 try simp only[Act.put,O]
 refine zo (i:=13) (o:={dst:=some 62,op:=Op.call {callee:=Callee.value (Operand.func 128),args:=#[Operand.tmp 59,Operand.tmp 61],argTypes:=#[129,3]},type:=3,pos:= "measure.go:158",after:=_,guard:=none}) (by kernel_rfl) rfl (by rfl) (fun K hK=>?_);go_simp;refine(ziX (zp t b) a1 c1 x Wd N1 Z6 (S1.1.below N4.1)).mono ?_;rintro e w4 ⟨rfl,N9⟩;have Z9:=I (blkA N9 v5.1);have Q5:=I (blkA N9 s2.1);have Q6:=I (blkA N9 s3.1);have BL4:=I (ztS N4.1 N9);clear N9;refine hK.1 _ _ (fun _ _=>⟨zm (j:=0) Z9.1 rfl,zm (j:=1) Z9.1 rfl,zm (j:=0) Q5.1 rfl,zm (j:=1) Q5.1 rfl,zm (j:=2) Q5.1 rfl,zm (j:=0) Q6.1 rfl,zm (j:=1) Q6.1 rfl,zm (j:=2) Q6.1 rfl⟩) ?_;clear hK K;try simp only[Act.put,O]
 refine zo (i:=17) (o:={dst:=some 66,op:=Op.call {callee:=Callee.value (Operand.func 128),args:=#[Operand.tmp 63,Operand.tmp 65],argTypes:=#[129,3]},type:=3,pos:= "measure.go:158",after:=_,guard:=none}) (by kernel_rfl) rfl (by rfl) (fun K hK=>?_);go_simp;refine(ziX (zp t m) a2 c2 y w4 N2 hl2 (S2.1.below BL4.1)).mono ?_;rintro e w5 ⟨rfl,O0⟩;have QS5:=I (blkA O0 Z9.1);have E65:=I (blkA O0 Q5.1);have E75:=I (blkA O0 Q6.1);have BL5:=I (ztS BL4.1 O0);clear O0;refine hK.1 _ _ (fun _ _=>⟨zm (j:=0) QS5.1 rfl,zm (j:=1) QS5.1 rfl,zm (j:=0) E65.1 rfl,zm (j:=1) E65.1 rfl,zm (j:=2) E65.1 rfl,zm (j:=0) E75.1 rfl,zm (j:=1) E75.1 rfl,zm (j:=2) E75.1 rfl⟩) ?_;clear hK K;try simp only[Act.put,O]
 refine zo (i:=18) (o:={dst:=some 10,op:=Op.assign (Operand.tmp 53),type:=3,pos:= "measure.go:158",after:=_,guard:=none}) (by kernel_rfl) rfl (by rfl) (fun K hK=>?_);go_simp;refine hK.1 _ _ (fun _ h=>h) ?_;clear hK K;try simp only[Act.put,O]
 refine zo (i:=19) (o:={dst:=some 11,op:=Op.assign (Operand.tmp 54),type:=3,pos:= "measure.go:158",after:=_,guard:=none}) (by kernel_rfl) rfl (by rfl) (fun K hK=>?_);go_simp;refine hK.1 _ _ (fun _ h=>h) ?_;clear hK K;try simp only[Act.put,O]
 refine zo (i:=20) (o:={dst:=some 12,op:=Op.assign (Operand.tmp 58),type:=3,pos:= "measure.go:158",after:=_,guard:=none}) (by kernel_rfl) rfl (by rfl) (fun K hK=>?_);go_simp;refine hK.1 _ _ (fun _ h=>h) ?_;clear hK K;try simp only[Act.put,O]
 refine zo (i:=21) (o:={dst:=some 13,op:=Op.assign (Operand.tmp 62),type:=3,pos:= "measure.go:158",after:=_,guard:=none}) (by kernel_rfl) rfl (by rfl) (fun K hK=>?_);go_simp;refine hK.1 _ _ (fun _ h=>h) ?_;clear hK K;try simp only[Act.put,O]
 refine zo (i:=22) (o:={dst:=some 14,op:=Op.assign (Operand.tmp 66),type:=3,pos:= "measure.go:158",after:=_,guard:=none}) (by kernel_rfl) rfl (by rfl) (fun K hK=>?_);go_simp;refine hK.1 _ _ (fun _ h=>h) ?_;clear hK K;try simp only[Act.put,O]
 refine zM (by kernel_rfl) ?_;clear S;go_wp2_with fail;refine bodyPost_ret (v:=zqz t c b m x y) (by simp[results,results92,go_sem,zqz,HNI.1,HSH.1]) rfl ?_;exact⟨rfl,BL5.1⟩
theorem zrE:(prog.info? 92).map (fun i=>(i.zero,i.size,i.bytes))=some (some (.agg #[.string ByteArray.empty,.int .i64 0]),2,24):=by kernel_rfl
def ARow(w0:World)(N:List ByteArray)(q:List Int)(e:Ending)(w':World):Prop:=∃v base,e=.returned v∧w0.heap.size≤base∧w'.ownsRow base 92 2 v q.length (zbL N q q.length)∧Below w0.heap.size w0 w'
theorem zoD(k:Nat)(h0:0<k)(hk:k<4)(q:List Int)(qa:zua)(qc:Nat)(w:World)(hq:q.length=(zk k).length)(hI:zW w qa q):Calls prog 93 #[.int .i64 k,.slice qa q.length qc] w (ARow w (zk k) q):=by
 have a4:=zdF k;obtain⟨i0,hi,R,S,T⟩:=info_parts zrE;have HI:=I hI;clear hI;go_enter func93,ntmps93
 go_wp2_with fail;refine(zbT k hk w).mono ?_;rintro e s ⟨na,nc,rfl,hA,C⟩;have HN:=I hA;have U:=I (HI.1.below C);have H:=I C;have HO:=I (show s.ownsRow s.heap.size 92 2 (.slice none 0 0) 0 (zbL (zk k) q 0) from⟨rfl,.inl ⟨rfl,rfl⟩⟩);clear hA C HI;go_wp2_with fail;go_loopw [5,7] (fun l i wr=>∃(j:Nat) (v:Value),j≤(zk k).length∧i=.int .i64 j∧v=l∧ztR (wr.ownsRow s.heap.size 92 2 v j (zbL (zk k) q j))∧ztR (Below s.heap.size s wr)) (fun _ i _=>(zk k).length-(intOf i).toNat)
 case atStart=>exact⟨0,_,ztX _,rfl,rfl,HO,I (ztT _ _)⟩
 clear HO;obtain⟨j,v,hj,rfl,rfl,V,n⟩:=hrel;by_cases W:j<(zk k).length
 · have X:j<q.length:=by omega
   obtain⟨b,f,Y,Z,L⟩:=HN.1.cells (by omega);obtain⟨G,c,a0,D,x⟩:=U.1.cells (by omega);have d0:=L j W;have d1:=x j X;subst Y;subst a0;clear L x;go_wp2_with fail;have d:=I n.1.drew;have E:ztR (wr.drew.ownsRow s.heap.size 92 2 v j (zbL (zk k) q j)):=V;have a:wr.drew.cell? ⟨b,f+j,none⟩=some (.string (sAt (zk k) j))∧wr.drew.cell? ⟨G,c+j,none⟩=some (.int .i64 (iAt q j)):=⟨zD d0 Z d.1,zD d1 D d.1⟩;obtain⟨y,F⟩:∃y,wr.drew=y:=⟨_,rfl⟩;rw[F]at d E a;have a1:=ztU Z d.1.size;have M:=ztU D d.1.size;clear V n;refine zbD (fun w'=>w'.cell? ⟨b,f+j,none⟩=some (.string (sAt (zk k) j))∧w'.cell? ⟨G,c+j,none⟩=some (.int .i64 (iAt q j))) [] (by kernel_rfl) F ?_;clear F;refine zx (i:=0) (v:=v) rfl (fun w' hS'=>?_) a ?_
   · obtain⟨z,A⟩:=hS';go_simp
   try simp only[Act.put,O]
   refine zx (i:=1) (v:=.slice (some ⟨b,f,none⟩) (zk k).length nc) rfl (fun w' hS'=>?_) a ?_
   · obtain⟨z,A⟩:=hS';go_simp
   try simp only[Act.put,O]
   refine zx (i:=2) (v:=.int .i64 (j:Int)) rfl (fun w' hS'=>?_) a ?_
   · obtain⟨z,A⟩:=hS';go_simp
   try simp only[Act.put,O]
   refine zx (i:=3) (v:=.pointer (some ⟨b,f+j,none⟩)) rfl (fun w' hS'=>?_) a ?_
   · obtain⟨z,A⟩:=hS';go_simp
   try simp only[Act.put,O]
   refine zx (i:=4) (v:=.string (sAt (zk k) j)) rfl (fun w' hS'=>?_) a ?_
   · obtain⟨z,A⟩:=hS';go_simp
   try simp only[Act.put,O]
   refine zx (i:=5) (v:=.slice (some ⟨G,c,none⟩) q.length qc) rfl (fun w' hS'=>?_) a ?_
   · obtain⟨z,A⟩:=hS';go_simp
   try simp only[Act.put,O]
   refine zx (i:=6) (v:=.int .i64 (j:Int)) rfl (fun w' hS'=>?_) a ?_
   · obtain⟨z,A⟩:=hS';go_simp
   try simp only[Act.put,O]
   refine zx (i:=7) (v:=.pointer (some ⟨G,c+j,none⟩)) rfl (fun w' hS'=>?_) a ?_
   · obtain⟨z,A⟩:=hS';go_simp
   try simp only[Act.put,O]
   refine zx (i:=8) (v:=.int .i64 (iAt q j)) rfl (fun w' hS'=>?_) a ?_
   · obtain⟨z,A⟩:=hS';go_simp
   try simp only[Act.put,O]
   refine zT (i:=9) (v:=.agg #[.string (sAt (zk k) j),.int .i64 (iAt q j)]) rfl (fun w'=>?_) ?_
   · go_simp
   try simp only[Act.put,O]
   refine zo (i:=10) (o:={dst:=some 26,op:=Op.buildSlice 44 1 #[(0,Operand.tmp 25)],type:=44,pos:= "measure.go:145",after:=_,guard:=none}) (by kernel_rfl) rfl (by rfl) (fun K hK=>?_);go_simp;refine hK.1 _ _ (fun _ h=>⟨zD h.1 a1 (J y _),zD h.2 M (J y _)⟩) ?_;clear hK K;try simp only[Act.put,O]
   refine zo (i:=11) (o:={dst:=some 27,op:=Op.call {callee:=Callee.builtin Builtin.append,args:=#[Operand.tmp 16,Operand.tmp 26],argTypes:=#[44,44]},type:=44,pos:= "measure.go:145",after:=_,guard:=none}) (by kernel_rfl) rfl (by rfl) (fun K hK=>?_);refine wp_append_lies _ (Operand.tmp 16) (Operand.tmp 26) 44 rfl s.heap.size 92 i0 (.agg #[.string ByteArray.empty,.int .i64 0]) 2 24 underlying44 hi R S T rfl (by decide) v j _ rfl (E.1.alloc _) ⟨y.heap.size,0,none⟩ 1 1 [.string (sAt (zk k) j),.int .i64 (iAt q j)] rfl rfl (zaa y [.string (sAt (zk k) j),.int .i64 (iAt q j)] 92) ?q1 (by decide) ?q2 ?q3 ?q4 _ rfl ?q5
   case q1=>intro u hu;simp at hu;rcases hu with rfl|rfl <;> rfl
   case q2=>unfold maxLen;omega
   case q3=>omega
   case q4=>have:=d.1.size;simp;omega
   intro g a2 w3 B r a3 N;have P:=I (show w3.ownsRow s.heap.size 92 2 (.slice (some ⟨g,0,none⟩) (j+1) a2) (j+1) (zbL (zk k) q (j+1)) from B);have t:=I ((ztS d.1 (J y (Obj.cells #[.string (sAt (zk k) j),.int .i64 (iAt q j)] 92))).grown r (ztS d.1 (J y (Obj.cells #[.string (sAt (zk k) j),.int .i64 (iAt q j)] 92))).size (fun m hm=>zaM E.1 m hm));have Q:w3.cell? ⟨b,f+j,none⟩=some (.string (sAt (zk k) j))∧w3.cell? ⟨G,c+j,none⟩=some (.int .i64 (iAt q j)):=⟨(t.1.cell (p:=⟨b,f+j,none⟩) Z).trans d0,(t.1.cell (p:=⟨G,c+j,none⟩) D).trans d1⟩;clear B r a3 N;refine hK.1 _ _ (fun _ _=>Q) ?_;clear hK K Q;try simp only[Act.put,O]
   refine zo (i:=12) (o:={dst:=some 5,op:=Op.assign (Operand.tmp 27),type:=44,pos:= "measure.go:145",after:=_,guard:=none}) (by kernel_rfl) rfl (by rfl) (fun K hK=>?_);go_simp;refine hK.1 _ _ (fun _ h=>h) ?_;clear hK K a;try simp only[Act.put,O]
   refine zM (by kernel_rfl) ?_;go_wp2_with fail;go_roundw
   case rel=>first|exact⟨j+1,_,by omega,by go_num,rfl,P,t⟩|((repeat apply Exists.intro);exact⟨⟨j+1,_,by omega,by go_num,rfl,P,t⟩,rfl⟩)
   case measure=>simp[intOf];omega
 obtain rfl:j=(zk k).length:=by omega
 have HR:=I (show wr.ownsRow s.heap.size 92 2 v q.length (zbL (zk k) q q.length) by rw[hq];exact V.1);go_wp2_with fail;go_ret;exact⟨v,s.heap.size,rfl,H.1.size,HR.1,ztS H.1 n.1⟩
theorem zfV{t:TTM}(e:zY t=0){m:Nat}(b:m<t.fls.length):hasB (t.airs.map AirM.code) (fAt t.fls m).frm=true∧hasB (t.airs.map AirM.code) (fAt t.fls m).to=true:=by
 have a:=zjg (zfb e).2.2 (fAt t.fls m) (by
  unfold fAt
  rw[zt0,zt1 b];exact List.getElem_mem b)
 unfold zbh at a
 by_cases c:(zfo (fAt t.fls m).num.data.toList&&zb0 (fAt t.fls m).typ.data.toList)=false
 · rw[if_pos c]at a;omega
 rw[if_neg c]at a;by_cases d:(hasB (t.airs.map AirM.code) (fAt t.fls m).frm&&hasB (t.airs.map AirM.code) (fAt t.fls m).to)=false
 · rw[if_pos d]at a;omega
 simpa using d
theorem mx_neg(a b:Int):mx (a-b) (-(a-b))=mx (b-a) (a-b):=by
 unfold mx
 split <;> split <;> omega
theorem ztd{t:TTM}{c:ConM}{d:Duty}(a:zY t=0)(f:valT c=0)(g:za6 t c d=0):zqz t c (fAt t.fls (fstN d)).frm (fAt t.fls (lstN d)).to (zcK t c d).1 (zcK t c d).2=.tuple #[.int .i64 (zlR t c (fstN d) (lstN d)),.int .i64 (zfF t c (fstN d) (lstN d)),.int .i64 (zcT t c (fstN d) (lstN d)),.int .i64 (zdd t c (fstN d)),.int .i64 (endI t c (lstN d))]:=by
 obtain⟨h,b,i,e⟩:=zfN g;have n:=zas a b;have o:=zas a e;obtain⟨j,k,_⟩:=zdl f;have p:=zhh a f g;have l:(zcK t c d).1=(fAt t.fls (fstN d)).dep-c.report:=rfl;have m:(zcK t c d).2=(fAt t.fls (lstN d)).arr+c.release:=rfl;rw[l,m];unfold zqz
 rw[zgT a (zfV a b).1 (by omega),zgT a (zfV a e).2 (by omega),mx_neg];rfl
theorem znp{t:TTM}{c:ConM}{d:Duty}(a:zY t=0)(f:valT c=0)(g:za6 t c d=0):0≤(zcK t c d).1∧(zcK t c d).1≤(zcK t c d).2∧(zcK t c d).2<52596000:=by
 obtain⟨h,b,i,e⟩:=zfN g;have n:=zas a b;have o:=zas a e;obtain⟨j,k,_⟩:=zdl f;have p:=zhh a f g;have l:(zcK t c d).1=(fAt t.fls (fstN d)).dep-c.report:=rfl;have m:(zcK t c d).2=(fAt t.fls (lstN d)).arr+c.release:=rfl;rw[l,m];omega
theorem zdY(t:TTM)(d:Duty)(k:Nat):dvTo t d (k+1)=dvA t d k (dvB t d k (dvTo t d k)):=by
 rw[dvTo];generalize dvTo t d k=s;unfold dvA dvB
 by_cases a:(tAt d k).2=true <;> by_cases b:0<k <;> simp only[a,b,if_true,if_false] <;> rfl
theorem zeT(l:List ByteArray)(j:Nat)(a:j<l.length)(s:ByteArray):hasB (l.take (j+1)) s=(hasB (l.take j) s || (l.getD j ByteArray.empty).toList==s.toList):=by
 rw[show l.take (j+1)=l.take j++ [l[j]] by simp,zfM,zjM];congr 1
 rw[zt0,zt1 a];simp only[Option.getD_some];by_cases h:s=l[j]
 · subst h;simp
 have b:¬ l[j]=s:=fun e=>h e.symm
 have:((l[j]).toList==s.toList)=false:=by
  rw[beq_eq_false_iff_ne];intro e;exact b (zf8 (by rw[e];simp))
 rw[this];simp[h]
end Go.Proofs.YtdolonpblgfjdaaGreat
