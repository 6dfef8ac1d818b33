/- a part of the proof -/
import Derived.Test.YtelojoopofolpaaGreatK3
import Derived.Test.YtelojoopofolpaaGreatK4
import Derived.Test.YtelojoopofolpaaGreatGB
set_option linter.all false
set_option maxRecDepth 100000
set_option maxHeartbeats 3000000
namespace Go.Proofs.YtelojoopofolpaaGreat
open Go.RowKit Go.Sort Go.Proofs.Tryz
variable {N cap cb i k lo n sb:Nat}{P:Nat->Prop}{w w':Wd}{c:LV}{a:Ae}{v:Value}
def Nn(k:Nat):TypeId:= [218,118,120,116,305,307].getD k 0
def Nm(k:Nat):Nat:= [5,6,5,4,4,3].getD k 0
def sH:Nat->LV->Prop
 |0,h=>∃s:BA,h= [.string s]/\s.size<=140737488355328
 |1,h=>∃(n:Int) (s:BA),h= [.int .i64 n,.string s]/\(Lit.int .i64 n).wf=true/\s.size<=140737488355328
 |2,h=>∃n:Int,h= [.int .i64 n]/\(Lit.int .i64 n).wf=true
 |3,h=>h= []
 |4,h=>∃(s t:BA) (a b:Int),h= [.string s,.string t,.int .i64 a,.int .i64 b]/\s.size<=140737488355328/\t.size<=140737488355328
 |5,h=>∃(s:BA) (a b:Int),h= [.string s,.int .i64 a,.int .i64 b]/\s.size<=140737488355328
 |_,_=>False
def Mq(k:Nat)(P:Nat->Prop)(w:Wd)(c:LV):Prop:=∃h e,c=h++e/\sH k h/\(k<4->Iu P w e)/\(4<=k->e= [])
theorem Mq.step{Q:Nat->Prop}(h:Mq k P w c)(d:∀b,b<w.heap.size->P b->Q b/\w'.heap[b]?=w.heap[b]?):Mq k Q w' c:=by
 obtain⟨a,e,f,g,i,j⟩:=h;exact⟨a,e,f,g,λhk=>(i hk).step d,j⟩
structure CI(lo cb sb:Nat)(n:Nat)(I:Nat->Int)(U:Nat->Value)(C:Nat->List (LV))(w:Wd):Prop where
 box:w.heap[cb]?=some (.cells #[(I 0),(I 1),(I 2),(I 3),(I 4),(I 5),(I 6),U 0,U 1,U 2,U 3,U 4,U 5,(I 7)] 35 (0,0))
 seen:∃s:Nat->Bool,w.heap[sb]?=some (.cells #[.bool (s 0),.bool (s 1),.bool (s 2),.bool (s 3),.bool (s 4),.bool (s 5),.bool (s 6)] 229 (0,0))
 own:∀k,k<6->w.ownsRow lo (Nn k) (Nm k) (U k) (C k).length (C k).flatten
 ok:∀k,k<6->∀c∈C k,Mq k (λb=>lo<=b/\∀j,j<6->(U j).ownBlock≠some b) w c
 len:∀k,k<6->(C k).length<=n
 lt:cb<lo/\sb<lo/\cb≠sb
def up{A:Type}(f:Nat->A)(k:Nat)(v:A):Nat->A:=λj=>if j=k then v else f j
structure DF(lo cb sb:Nat)(w w':Wd):Prop where
 os:w'.os=w.os
 tape:w'.tape=w.tape
 output:w'.output=w.output
 size:w.heap.size<=w'.heap.size
 blk:∀b,b<lo->b≠cb->b≠sb->b<w.heap.size->w'.heap[b]?=w.heap[b]?
theorem DF.refl(lo cb sb:Nat)(w:Wd):DF lo cb sb w w:=⟨rfl,rfl,rfl,Bv _,λ_ _ _ _ _=>rfl⟩
theorem DF.trans{a b c:Wd}(h:DF lo cb sb a b)(k:DF lo cb sb b c):DF lo cb sb a c:=⟨k.os.trans h.os,k.tape.trans h.tape,k.output.trans h.output,Bf h.size k.size,λx h1 h2 h3 h4=>(k.blk x h1 h2 h3 (As h4 h.size)).trans (h.blk x h1 h2 h3 h4)⟩
theorem DF.of(h:Bw w w'):DF lo cb sb w w':=⟨h.os,h.tape,h.output,h.size,λb _ _ _ h4=>h.block b h4⟩
section
variable {lo cb sb n:Nat} {I0:Nat→Int} {U:Nat→Value} {C:Nat→List (LV)} {w w':Wd} (S:CI lo cb sb n I0 U C w)
include S
theorem CI.below(h:Bw w w'):CI lo cb sb n I0 U C w' where
 box:=Ac h S.box
 seen:=by obtain⟨s,q⟩:=S.seen;exact⟨s,Ac h q⟩
 own k hk:=(S.own k hk).kept (Sj (r:=none) h) (by cases (U k).ownBlock <;> simp)
 ok k hk c hc:=(S.ok k hk c hc).step λb hb hP=>⟨hP,h.block b hb⟩
 len:=S.len
 lt:=S.lt
theorem CI.more{a:Nat}(h:n<=a):CI lo cb sb a I0 U C w:={S with len:=λk hk=>Bf (S.len k hk) h}
theorem CI.store{a:Nat->Int}{b i:Nat}{v:Value}(d:b=cb\/b=sb)(e:(w.setCell (aD b i) v).heap[cb]?=some (.cells #[(a 0),(a 1),(a 2),(a 3),(a 4),(a 5),(a 6),U 0,U 1,U 2,U 3,U 4,U 5,(a 7)] 35 (0,0))) 
 (f:∃s:Nat->Bool,(w.setCell (aD b i) v).heap[sb]?=some (.cells #[.bool (s 0),.bool (s 1),.bool (s 2),.bool (s 3),.bool (s 4),.bool (s 5),.bool (s 6)] 229 (0,0))):CI lo cb sb n a U C (w.setCell (aD b i) v) where
 box:=e
 seen:=f
 own k hk:=ownsRow_setCell_below (S.own k hk) (by have:=S.lt;rcases d with rfl|rfl;exact this.1;exact this.2.1) v
 ok k hk c hc:=(S.ok k hk c hc).step λx hx hP=>⟨hP,Below.heap_setCell w (aD b i) v x (by have:=S.lt;have:=hP.1;show x≠b;rcases d with rfl|rfl <;> omega)⟩
 len:=S.len
 lt:=S.lt
theorem CI.int{j:Nat}(a:j<8)(v:Int):CI lo cb sb n (up I0 j v) U C (w.setCell (aD cb (if j<7 then j else 13)) (vIa v)):=by
 refine S.store (.inl rfl) ?_ ?_;rw[zg S.box];match j,a with
 |0,_|1,_|2,_|3,_|4,_|5,_|6,_|7,_=>simp[up]
 obtain⟨s,q⟩:=S.seen;exact⟨s,(Below.heap_setCell w (aD cb _) _ sb (Ne.symm S.lt.2.2)).trans q⟩
theorem CI.see{j:Nat}(a:j<7):CI lo cb sb n I0 U C (w.setCell (aD sb j) (.bool true)):=by
 refine S.store (.inr rfl) ((Below.heap_setCell w (aD sb j) _ cb S.lt.2.2).trans S.box) ?_;obtain⟨s,q⟩:=S.seen;refine⟨up s j true,?_⟩;rw[zg q];match j,a with
 |0,_|1,_|2,_|3,_|4,_|5,_|6,_=>simp[up]
theorem CI.df{b i:Nat}{v:Value}(a:b=cb\/b=sb):DF lo cb sb w (w.setCell (aD b i) v):=
 ⟨rfl,rfl,rfl,by simp[World.setCell],λx _ h2 h3 _=>Below.heap_setCell w (aD b i) v x (by rcases a with rfl|rfl;exact h2;exact h3)⟩
theorem CI.push{k:Nat}(p:k<6){c:LV}(K:Mq k (λb=>lo<=b/\∀j,j<6->(U j).ownBlock≠some b) w c){ob:Obj}{g cap H:Nat}(A:w'.ownsRow lo (Nn k) (Nm k) (sAa g 0 ((C k).length+1) cap) ((C k).length+1) ((C k).flatten++c))(q:(w.alloc ob).grownBy w' (U k).ownBlock) 
 (L:(U k).ownBlock=some g\/g=H) (V:H=w.heap.size+1):
 CI lo cb sb (n+1) I0 (up U k (sAa g 0 ((C k).length+1) cap)) (up C k (C k++ [c])) (w'.setCell (aD cb (7+k)) (sAa g 0 ((C k).length+1) cap))/\DF lo cb sb w (w'.setCell (aD cb (7+k)) (sAa g 0 ((C k).length+1) cap)):=by
 have W:(w.alloc ob).heap.size=w.heap.size+1:=by simp
 have s:=S.lt;have u:=Ag S.box;obtain⟨M,B⟩:=S.seen;have v:=Ag B;have r:∀j,j<6->∀b,(U j).ownBlock=some b->lo<=b/\b<w.heap.size:=λj hj b e=>(S.own j hj).lt b e;have f:∀b,b<w.heap.size->(U k).ownBlock≠some b->w'.heap[b]?=w.heap[b]?:=λb hb hne=>(q.block b (by omega) (λe=>hne e.symm)).trans (heap_alloc_old w _ hb);have N:lo<=g:=by
  rcases A.2 with⟨e,_⟩|⟨X,D,m,e,x,_⟩;cases e;cases e;exact x
 have a:∀b,b<lo->(U k).ownBlock≠some b:=λb hb e=>by have:=(r k p b e).1;omega
 refine⟨{box:=?_,seen:=⟨M,?_⟩,own:=λj hj=>?_,ok:=λj hj d l=>?_,len:=λj hj=>?_,lt:=S.lt},⟨q.os,q.tape,q.output,by have:=q.size;simp[World.setCell];omega,λb x h2 _ h4=>(Below.heap_setCell _ _ _ _ h2).trans (f b h4 (a b x))⟩⟩;rw[zg ((f cb u (a cb s.1)).trans S.box)];match k,p with
 |0,_|1,_|2,_|3,_|4,_|5,_=>simp[up]
 exact(Below.heap_setCell _ _ _ _ (Ne.symm s.2.2)).trans ((f sb v (a sb s.2.1)).trans B);refine ownsRow_setCell_below ?_ s.1 _;by_cases e:j=k;subst e;simpa[up] using A;have P:up U k (sAa g 0 ((C k).length+1) cap) j=U j:=iN e;have Q:up C k (C k++ [c]) j=C j:=iN e;rw[P,Q];refine((S.own j hj).alloc ob).kept q ?_;cases t:(U j).ownBlock with
 |none=>exact .inl rfl
 |some b=>
  refine .inr λek=>?_
  have d:∀j,j<6->∀k,k<6->j≠k->Nn j≠Nn k:=by decide
  obtain⟨E,R⟩:∃E,w.heap[b]?=some (.cells E (Nn j) (0,0)):=by
   rcases(S.own j hj).2 with⟨h,_⟩|⟨T,_,m,h,_,y,_⟩
   . rw[h]at t;cases t
   rw[h]at t;cases t;exact⟨m,y⟩
  obtain⟨F,z⟩:∃F,w.heap[b]?=some (.cells F (Nn k) (0,0)):=by
   rcases(S.own k p).2 with⟨h,_⟩|⟨T,_,m,h,_,y,_⟩
   . rw[h]at ek;cases ek
   rw[h]at ek;cases ek;exact⟨m,y⟩
  rw[R]at z;simp only[Option.some.injEq,Obj.cells.injEq]at z;exact d j hj k p e z.2.1
 have o:∀d,Mq j (λb=>lo<=b/\∀j,j<6->(U j).ownBlock≠some b) w d->Mq j (λb=>lo<=b/\∀i,i<6->(up U k (sAa g 0 ((C k).length+1) cap) i).ownBlock≠some b) (w'.setCell (aD cb (7+k)) (sAa g 0 ((C k).length+1) cap)) d:=λd l=>l.step λb hb hP=>by
  refine⟨⟨hP.1,λi hi e=>?_⟩,(Below.heap_setCell _ _ _ _ (show b≠cb by have:=hP.1;omega)).trans (f b hb (hP.2 k p))⟩;by_cases G:i=k;rw[up,iP G]at e;obtain rfl:g=b:=by simpa[Value.ownBlock] using e
  rcases L with h|h;exact hP.2 k p h;omega;rw[up,iN G]at e;exact hP.2 i hi e
 by_cases e:j=k;subst e;rw[up,iP rfl]at l;rcases List.mem_append.1 l with l|l;exact o d (S.ok j hj d l);obtain rfl:=List.mem_singleton.1 l;exact o _ K;rw[up,iN e]at l;exact o d (S.ok j hj d l);by_cases e:j=k;subst e;have:=S.len j hj;simp[up];omega;have:=S.len j hj;rw[up,iN e];omega
end
abbrev Ij:=Qt (λ_=>True)
def lX(n i:Nat)(w:Wd)(e:Ending)(w':Wd):Prop:=∃b:Bool,e=.returned (.bool b)/\(b=true->i<n)/\Below w.heap.size w w'
theorem Ij.cells(h:Ij w (.slice a n cap) n)(g:i<n):∃b c,a=some (aD b c)/\b<w.heap.size/\∃(k:Int) (s:BA) (m p:Int),
 w.cell? (aD b (c+i*4))=some (vIa k)/\w.cell? (aD b (c+i*4+1))=some (.string s)/\w.cell? (aD b (c+i*4+2))=some (vIa m)/\w.cell? (aD b (c+i*4+3))=some (vIa p)/\s.size<=2^47/\(Lit.int .i64 m).wf=true:=by
 obtain⟨_,o,d,e,_,_,j⟩:=h;cases e;obtain⟨b,c,e,_,l⟩:=j (by omega);obtain⟨k,s,m,p,f,r⟩:=l i g;exact⟨b,c,e,bK w _ f,k,s,m,p,f,r⟩
theorem fH(w:Wd)(a:Ae)(n cap i:Nat)(k:Int)(h:Ij w (.slice a n cap) n):Calls prog 207 #[.slice a n cap,i,k] w (lX n i w):=by
 have f:=h.1;by_cases c:i<n
 . obtain⟨b,d,rfl,g,j,s,m,p,l,o,q,r,t,u⟩:=Ij.cells h c;have e:(i:Int)<n:=by omega
   go_in;go_wp2;go_ret;exact⟨_,rfl,λ_=>c,An _ _⟩
 have e:decide ((i:Int)<n)=false:=by simp;omega
 go_in;go_wp2;go_ret;exact⟨false,rfl,by simp,An _ _⟩
theorem EK(w:Wd)(a:Ae)(n cap i:Nat)(t:BA)(h:Ij w (.slice a n cap) n):Calls prog 210 #[.slice a n cap,i,.string t] w (lX n i w):=by
 have f:=h.1;by_cases c:i<n
 . obtain⟨b,d,rfl,g,j,s,m,p,k,l,o,q,r,u⟩:=Ij.cells h c;have e:(i:Int)<n:=by omega
   go_in;go_wp2_with fail
   all_goals
    go_ret;exact⟨_,rfl,λ_=>c,An _ _⟩
 have e:decide ((i:Int)<n)=false:=by simp;omega
 go_in;go_wp2;go_ret;exact⟨false,rfl,by simp,An _ _⟩
theorem YB(w:Wd)(a:Ae)(n cap i:Nat)(h:Ij w (.slice a n cap) n):Calls prog 209 #[.slice a n cap,i] w (lX n i w):=by
 have x:=h.1;have j:=fH w a n cap i 1 h;have l:=I h;go_in;go_wp2_with fail;refine j.mono ?_;rintro e r ⟨b,rfl,d,f⟩;have o:=I f;have t:=I (l.1.step λk hk _=>f.block k hk);cases b
 . go_wp2;go_ret;exact⟨false,rfl,by simp,o.1⟩
 have q:=d rfl;obtain⟨b,u,rfl,v,y,s,m,p,z,A,B,C,D,E⟩:=Ij.cells t.1 q;have F:(i:Int)<n:=by omega
 go_wp2_with fail;refine ca (bC s r (by unfold maxLen;omega)) λG c=>?_;have g:=jS o c;go_wp2;go_ret;exact⟨_,rfl,λ_=>q,g.1⟩
def mA(w:Wd)(e:Ending)(w':Wd):Prop:=∃k:Int,e=.returned k/\(Lit.int .i64 k).wf=true/\w=w'
theorem lJ(s:BA)(w:Wd):Calls prog 212 #[.string s] w (mA w):=by
 go_in;go_wp2_with fail
 all_goals
  go_ret;exact⟨_,rfl,by rfl,rfl⟩
abbrev Fe(cb sb:Nat):=Qt (λb=>b≠cb/\b≠sb)
theorem Fe.tt(h:Fe cb sb w v n):Ij w v n:=h.imp λ_ _ _=>trivial
theorem Fe.below(h:Fe cb sb w v n)(a:Bw w w'):Fe cb sb w' v n:=h.step λk hk _=>a.block k hk
theorem Fe.own{c:Nat}{u:Value}(h:Fe cb sb w v n)(a:c=cb\/c=sb):Fe cb sb (w.setCell (aD c i) u) v n:=h.step λk hk hx=>Below.heap_setCell _ _ _ _ (show k≠c by rcases a with rfl|rfl;exact hx.1;exact hx.2)
theorem Fe.cells(h:Fe cb sb w (.slice a n cap) n)(g:i<n):∃b c,a=some (aD b c)/\b<w.heap.size/\b≠cb/\b≠sb:=by
 obtain⟨_,q,d,e,_,_,j⟩:=h;cases e;obtain⟨b,c,e,f,l⟩:=j (by omega);obtain⟨k,s,m,p,o,r⟩:=l i g;exact⟨b,c,e,bK w _ o,f.1,f.2⟩
def EP(lo cb sb n:Nat)(U:Nat->Value)(C:Nat->List (LV))(w:Wd)(e:Ending)(w':Wd):Prop:=∃(k:Int) (J0:Nat->Int),e=.returned k/\CI lo cb sb n J0 U C w'/\DF lo cb sb w w'
section
variable {lo cb sb m:Nat} {I0:Nat→Int} {U:Nat→Value} {C:Nat→List (LV)}
theorem CI.drew{w:Wd}(S:CI lo cb sb m I0 U C w):CI lo cb sb m I0 U C w.drew:=S.below (dr w 1)
theorem dM{P:Program}{c:Code}{Q:Exit->Act->Wd->Prop}{A:Act}{w a:Wd}{v:Value}{n j:Nat}(b:j<7)(S:CI lo cb sb m I0 U C a)(T:Fe cb sb a v n)(D:DF lo cb sb w a) 
 (K:∀W2,CI lo cb sb m I0 U C W2->Fe cb sb W2 v n->DF lo cb sb w W2->Code.wp P c Q A W2):Code.wp P c Q A (a.setCell (aD sb j) (.bool true)):=
 K _ (S.see b) (T.own (.inr rfl)) (D.trans (S.df (.inr rfl)))
theorem ZC(w:Wd)(a:Ae)(n cap i:Nat)(hi:i<7)(S:CI lo cb sb m I0 U C w)(T:Fe cb sb w (.slice a n cap) n):
 Calls prog 208 #[pAa cb 0,pAa sb 0,.slice a n cap,i] w (EP lo cb sb m U C w):=by
 have c:=I S;have u:=I T;have hn:=T.1;match i,hi with
 |0,_|1,_|2,_|3,_|4,_|5,_=>
  by_cases A:n=2
  . subst A;go_in
    go_wp2_with fail;refine(fH _ a 2 cap 1 3 u.1.tt).mono ?_;rintro e w1 ⟨b,rfl,-,f⟩;have o:=I (c.1.below f);have x:=I (u.1.below f);have t:=I (DF.of (lo:=lo) (cb:=cb) (sb:=sb) f);clear c u f;cases b
    . go_wp2;go_ret;exact⟨_,_,rfl,o.1,t.1⟩
    obtain⟨s,g⟩:=o.1.seen;have K:=zm (j:=0) g rfl;have L:=zm (j:=1) g rfl;have M:=zm (j:=2) g rfl;have N:=zm (j:=3) g rfl;have P:=zm (j:=4) g rfl;have B:=zm (j:=5) g rfl;have Q:=zQ (j:=0) g;have R:=zQ (j:=1) g;have V:=zQ (j:=2) g;have W:=zQ (j:=3) g;have X:=zQ (j:=4) g;have D:=zQ (j:=5) g;have y:=Ag g;clear g;go_upto_region 8 with fail
    all_goals first
    |(go_ret
      exact⟨_,_,rfl,o.1,t.1⟩)
    |skip
    clear K L M N P B Q R V W X D y;refine dM (by decide) o.1 x.1 t.1 λW2 k h l=>?_
    obtain⟨tb,E,rfl,F,-,-⟩:=h.cells (i:=1) (by decide);obtain⟨_,_,e,-,kd,s,m,p,c0,c1,c2,c3,-,hw⟩:=Ij.cells h.tt (i:=1) (by decide);cases e;have q:=k.box;have K:=zm (j:=0) q rfl;have L:=zm (j:=1) q rfl;have M:=zm (j:=2) q rfl;have N:=zm (j:=3) q rfl;have P:=zm (j:=4) q rfl;have B:=zm (j:=13) q rfl;have Q:=zQ (j:=0) q;have R:=zQ (j:=1) q;have V:=zQ (j:=2) q;have W:=zQ (j:=3) q;have X:=zQ (j:=4) q;have D:=zQ (j:=13) q;have y:=Ag q;have c:=I k;have r:=I l;clear q k h l;go_wp2;go_ret;first
    |exact⟨_,_,rfl,c.1.int (j:=0) (by decide) m,r.1.trans (c.1.df (.inl rfl))⟩
    |exact⟨_,_,rfl,c.1.int (j:=1) (by decide) m,r.1.trans (c.1.df (.inl rfl))⟩
    |exact⟨_,_,rfl,c.1.int (j:=2) (by decide) m,r.1.trans (c.1.df (.inl rfl))⟩
    |exact⟨_,_,rfl,c.1.int (j:=3) (by decide) m,r.1.trans (c.1.df (.inl rfl))⟩
    |exact⟨_,_,rfl,c.1.int (j:=4) (by decide) m,r.1.trans (c.1.df (.inl rfl))⟩
    |exact⟨_,_,rfl,c.1.int (j:=7) (by decide) m,r.1.trans (c.1.df (.inl rfl))⟩
  have G:((n:Int) !=2)=true:=by simp;omega
  go_in
  go_wp2;go_ret;exact⟨_,_,rfl,c.1,DF.refl ..⟩
 |6,_=>
  by_cases A:n=4
  . subst A;go_in
    go_wp2_with fail;refine(fH _ a 4 cap 1 4 u.1.tt).mono ?_;rintro e w1 ⟨b,rfl,-,f⟩;have o:=I (c.1.below f);have x:=I (u.1.below f);have t:=I (DF.of (lo:=lo) (cb:=cb) (sb:=sb) f);clear c u f;cases b
    . go_wp2;go_ret;exact⟨_,_,rfl,o.1,t.1⟩
    go_wp2_with fail;refine(EK _ a 4 cap 2 _ x.1.tt).mono ?_;rintro e w2 ⟨b,rfl,-,f⟩;have k:=I (o.1.below f);have h:=I (x.1.below f);have l:=I (t.1.trans (DF.of (lo:=lo) (cb:=cb) (sb:=sb) f));clear o x t f;cases b
    . go_wp2;go_ret;exact⟨_,_,rfl,k.1,l.1⟩
    go_wp2_with fail;refine(fH _ a 4 cap 3 4 h.1.tt).mono ?_;rintro e w3 ⟨b,rfl,-,f⟩;have z:=I (k.1.below f);have T3:=I (h.1.below f);have H:=I (l.1.trans (DF.of (lo:=lo) (cb:=cb) (sb:=sb) f));clear k h l f;cases b
    . go_wp2;go_ret;exact⟨_,_,rfl,z.1,H.1⟩
    obtain⟨s,g⟩:=z.1.seen;have Y:=zm (j:=6) g rfl;have Z:=zQ (j:=6) g;have y:=Ag g;clear g;go_upto_region 8 with fail
    all_goals first
    |(go_ret
      exact⟨_,_,rfl,z.1,H.1⟩)
    |skip
    clear Y Z y;refine dM (by decide) z.1 T3.1 H.1 λW2 k h l=>?_
    obtain⟨tb,E,rfl,F,-,-⟩:=h.cells (i:=1) (by decide);obtain⟨_,_,e,-,kd,s,m,p,c0,c1,c2,c3,-,hw⟩:=Ij.cells h.tt (i:=1) (by decide);cases e;obtain⟨_,_,e,-,a0,s3,m3,p3,d0,d1,d2,d3,-,a1⟩:=Ij.cells h.tt (i:=3) (by decide);cases e;have q:=k.box;have B:=zm (j:=5) q rfl;have Y:=zm (j:=6) q rfl;have D:=zQ (j:=5) q;have Z:=zQ (j:=6) q;have y:=Ag q;have c:=I k;have r:=I l;clear q k h l;go_wp2_with fail;go_region_law (fail)
    all_goals
     have e:=c.1.drew.int (j:=5) (by decide) m;have e2:=e.int (j:=6) (by decide) m3;have d:=((DF.of (lo:=lo) (cb:=cb) (sb:=sb) (dr W2 1)).trans (c.1.drew.df (b:=cb) (i:=5) (v:=vIa m) (.inl rfl))).trans (e.df (b:=cb) (i:=6) (v:=vIa m3) (.inl rfl));have HE:=I e2;have HG:=I (r.1.trans d);clear e e2 d;go_wp2;go_ret;exact⟨_,_,rfl,HE.1,HG.1⟩
  have G:((n:Int) !=4)=true:=by simp;omega
  go_in
  go_wp2;go_ret;exact⟨_,_,rfl,c.1,DF.refl ..⟩
end
def Yo(k:Nat):TypeId:= [28,29,30,31,32,33].getD k 0
def cM(k:Nat):Nat:= [72,80,64,56,48,32].getD k 0
def Ye:Nat->Value
 |0=>.agg #[.string ByteArray.empty,.int .i64 0,.int .i64 0,.string ByteArray.empty,.slice none 0 0]
 |1=>.agg #[.int .i64 0,.string ByteArray.empty,.int .i64 0,.int .i64 0,.string ByteArray.empty,.slice none 0 0]
 |2=>.agg #[.int .i64 0,.int .i64 0,.int .i64 0,.string ByteArray.empty,.slice none 0 0]
 |3=>.agg #[.int .i64 0,.int .i64 0,.string ByteArray.empty,.slice none 0 0]
 |4=>.agg #[.string ByteArray.empty,.string ByteArray.empty,.int .i64 0,.int .i64 0]
 |_=>.agg #[.string ByteArray.empty,.int .i64 0,.int .i64 0]
theorem Vf(a:k<6):EI (Yo k) (Nn k) (Ye k) (Nm k) (cM k):=by
 match k,a with
 |0,_|1,_|2,_|3,_|4,_|5,_=>exact⟨by rfl,by kernel_rfl,by rfl,by decide⟩
theorem ZT{h:LV}(H:sH k h):h.length=Nm k-(if k<4 then 4 else 0)/\∀u∈h,u.oneCell'=true:=by
 match k with
 |0=>obtain⟨s,rfl,_⟩:=H;exact⟨rfl,λu hu=>by simp at hu;subst hu;rfl⟩
 |1=>obtain⟨n,s,rfl,_⟩:=H;exact⟨rfl,λu hu=>by simp at hu;rcases hu with rfl|rfl <;> rfl⟩
 |2=>obtain⟨n,rfl,_⟩:=H;exact⟨rfl,λu hu=>by simp at hu;subst hu;rfl⟩
 |3=>obtain rfl:h= []:=H;exact⟨rfl,λu hu=>by cases hu⟩
 |4=>obtain⟨s,t,x,y,rfl,_⟩:=H;exact⟨rfl,λu hu=>by simp at hu;rcases hu with rfl|rfl|rfl|rfl <;> rfl⟩
 |5=>obtain⟨s,x,y,rfl,_⟩:=H;exact⟨rfl,λu hu=>by simp at hu;rcases hu with rfl|rfl|rfl <;> rfl⟩
 |k+6=>exact H.elim
theorem Mq.len(j:k<6)(H:Mq k P w c):c.length=Nm k/\∀u∈c,u.oneCell'=true:=by
 obtain⟨h,e,rfl,f,g,i⟩:=H;have L:=ZT f;by_cases d:k<4;obtain⟨x,a,l,rfl,_⟩:=g d;rw[iP d]at L;have m:4<=Nm k:=by match k,d with|0,_|1,_|2,_|3,_=>decide
 refine⟨(by rw[Gh,L.1];simp[xv];omega),λu b=>?_⟩;rcases List.mem_append.1 b with b|b;exact L.2 u b;simp[xv]at b;rcases b with rfl|rfl|rfl|rfl <;> rfl;obtain rfl:=i (by omega);rw[iN d]at L;simpa using L
theorem lH{tb off:Nat}(i:Nat)(k:Int)(d:k=i)(h:i<=n)(f:n<=cap):∃p c,((p=some ((aD tb (off+i*4)):Addr)/\c=cap-i)\/(c=0/\n-i=0))/\
 ∀wx,(Instr.slice 230 (sAa tb off n cap) (some (vIa k)) none none).run prog wx=.ok (.slice p (n-i) c) wx:=by
 subst d;have a:(0:Int)<=(i:Int)/\(i:Int)<=n:=by omega
 by_cases b:cap=i;refine⟨some (aD tb off),cap-i,.inr ⟨by omega,by omega⟩,λwx=>?_⟩;simp[Instr.slice,Instr.sliceBounds,Instr.sliceBound,asIntOf,a,b,go_sem,underlying230];omega;refine⟨some (aD tb (off+i*4)),cap-i,.inl ⟨rfl,rfl⟩,λwx=>?_⟩;simp[Instr.slice,Instr.sliceBounds,Instr.sliceBound,asIntOf,a,b,go_sem,underlying230,Addr.add];rw[iP h];split
 next e=>rw[e];rfl
 rfl
section
variable {lo cb sb m n:Nat} {I0:Nat→Int} {U:Nat→Value} {C:Nat→List (LV)} {w0 w w':Wd} {v:Value}
structure DS(lo cb sb m:Nat)(I0:Nat->Int)(U:Nat->Value)(C:Nat->List (LV))(w0:Wd)(v:Value)(n:Nat)(w:Wd):Prop where
 ci:CI lo cb sb m I0 U C w
 tk:Fe cb sb w v n
 df:DF lo cb sb w0 w
 le:lo<=w.heap.size
theorem DS.call(S:DS lo cb sb m I0 U C w0 v n w)(h:Bw w w'):DS lo cb sb m I0 U C w0 v n w':=⟨S.ci.below h,S.tk.below h,S.df.trans (DF.of h),Bf S.le h.size⟩
abbrev HD(lo cb sb m:Nat)(I0:Nat->Int)(U:Nat->Value)(C:Nat->List (LV))(w0:Wd)(v:Value)(n:Nat)(w:Wd):Prop:=Af (DS lo cb sb m I0 U C w0 v n w)
abbrev KD(lo cb sb m:Nat)(I0:Nat->Int)(U:Nat->Value)(C:Nat->List (LV))(w0:Wd)(v:Value)(n i:Nat)(e:Ending)(w':Wd):Prop:=∃b:Bool,e=.returned (.bool b)/\(b=true->i<n)/\HD lo cb sb m I0 U C w0 v n w'
variable {a:Ae} {cap:Nat}
theorem Zz(S:HD lo cb sb m I0 U C w0 (.slice a n cap) n w)(i:Nat)(k:Int):Calls prog 207 #[.slice a n cap,i,k] w (KD lo cb sb m I0 U C w0 (.slice a n cap) n i):=
 (fH w a n cap i k S.1.tk.tt).mono λe w' ⟨b,h1,h2,h3⟩=>⟨b,h1,h2,I (S.1.call h3)⟩
theorem Pz(S:HD lo cb sb m I0 U C w0 (.slice a n cap) n w)(i:Nat)(t:BA):Calls prog 210 #[.slice a n cap,i,.string t] w (KD lo cb sb m I0 U C w0 (.slice a n cap) n i):=
 (EK w a n cap i t S.1.tk.tt).mono λe w' ⟨b,h1,h2,h3⟩=>⟨b,h1,h2,I (S.1.call h3)⟩
theorem lM(S:HD lo cb sb m I0 U C w0 (.slice a n cap) n w)(i:Nat):Calls prog 209 #[.slice a n cap,i] w (KD lo cb sb m I0 U C w0 (.slice a n cap) n i):=
 (YB w a n cap i S.1.tk.tt).mono λe w' ⟨b,h1,h2,h3⟩=>⟨b,h1,h2,I (S.1.call h3)⟩
theorem DS.tx{tb off:Nat}(S:DS lo cb sb m I0 U C w0 (sAa tb off n cap) n w){i:Nat}(a:i<n):∃(s:BA) (p:Int),w.cell? (aD tb (off+i*4+1))=some (.string s)/\w.cell? (aD tb (off+i*4+2))=some (vIa p)/\s.size<=2^47/\(Lit.int .i64 p).wf=true/\tb<w.heap.size:=by
 obtain⟨_,_,e,b,h,s,q,p,j,c,d,k,f,g⟩:=Ij.cells S.tk.tt a;cases e;exact⟨s,q,c,d,f,g,b⟩
theorem DS.drop{tb off:Nat}(S:DS lo cb sb m I0 U C w0 (sAa tb off n cap) n w)(i:Nat):Qt (λ_=>True) w (sAa tb (off+i*4) (n-i) (cap-i)) (n-i):=by
 obtain⟨g,a,c,e,h,l,d⟩:=S.tk;cases e;refine⟨by omega,_,_,rfl,by omega,by omega,λhn=>⟨tb,off+i*4,rfl,trivial,λj hj=>?_⟩⟩;obtain⟨b,o,e,_,f⟩:=d (by omega);cases e;obtain⟨k,s,q,p,r⟩:=f (i+j) (by omega);rw[show off+(i+j)*4=off+i*4+j*4 by omega]at r;exact⟨k,s,q,p,r⟩
def sG(lo cb sb m:Nat)(w:Wd)(e:Ending)(w':Wd):Prop:=∃(k:Int) (J0:Nat->Int) (U:Nat->Value) (C:Nat->List (LV)),e=.returned k/\CI lo cb sb (m+1) J0 U C w'/\DF lo cb sb w w'
theorem HD.fail(S:HD lo cb sb m I0 U C w0 v n w)(k:Int):sG lo cb sb m w0 (.returned k) w:=⟨k,I0,U,C,rfl,S.1.ci.more (Nat.le_succ _),S.1.df⟩
def XB(lo:Nat)(U:Nat->Value)(xb:Nat)(x:zH)(xa:Ae)(xc:Nat)(w:Wd):Prop:=w.heap[xb]?=some (.cells (xv x xa xc).toArray 116 (0,0))/\Iu (λb=>lo<=b/\∀j,j<6->(U j).ownBlock≠some b) w (xv x xa xc)
theorem XB.call{a:Nat}{x:zH}{c:Ae}{d:Nat}(h:XB lo U a x c d w)(e:Bw w w'):XB lo U a x c d w':=⟨Ac e h.1,h.2.step λb hb hP=>⟨hP,e.block b hb⟩⟩
theorem DS.xb{x:zH}{a:Ae}{c:Nat}(S:DS lo cb sb m I0 U C w0 v n w)(E:Iu (λb=>w.heap.size<=b) w' (xv x a c))(d:Bw w w'):XB lo U w'.heap.size x a c (w'.alloc (.cells (xv x a c).toArray 116)):=
 ⟨zh _ _,E.step λb hb hP=>⟨⟨Bf S.le hP,λj hj e=>by have:=((S.ci.own j hj).lt b e).2;omega⟩,heap_alloc_old _ _ hb⟩⟩
theorem HD.expr{tb off i:Nat}(S:HD lo cb sb m I0 U C w0 (sAa tb off n cap) n w){p:Ae}{c:Nat}(h:(p=some (aD tb (off+i*4))/\c=cap-i)\/(c=0/\n-i=0)):Qt (λ_=>True) w (.slice p (n-i) c) (n-i):=by
 rcases h with⟨rfl,rfl⟩|⟨rfl,h⟩;exact S.1.drop i;exact⟨by omega,_,_,rfl,by omega,by omega,λh=>by omega⟩
end
def Dj(a:Act):List (Nat×Value)->Act
 |[]=>a
 |p::l=>(Dj a l).put (some p.1) p.2
def Gr(u:Nat->Value):List (Nat×Value)->Nat->Value
 |[],t=>u t
 |p::l,t=>if p.1=t then p.2 else Gr u l t
theorem DZ(a:Act):∀l,(Dj a l).tmps.size=a.tmps.size
 |[]=>rfl
 |p::l=>by
  have:=DZ a l;simp[Dj,Act.put,this]
def E3(A:Act)(u:Nat->Value):Prop:=(∀t,A.eval (.tmp t)=u t)/\(∀t,A.tmps.getD t undef=u t)/\(∀t:Nat,A.tmps[t]?.getD undef=u t)
theorem E3.at{A:Act}{u:Nat->Value}(h:E3 A u){t:Nat}{V:Value}(e:u t=V):A.eval (.tmp t)=V/\A.tmps.getD t undef=V/\A.tmps[t]?.getD undef=V:=⟨(h.1 t).trans e,(h.2.1 t).trans e,(h.2.2 t).trans e⟩
abbrev fr(a:Act):Nat->Value:=λt=>a.tmps.getD t undef
theorem lC{a:Act}(b:a.tmps.size=N):∀(l:List (Nat×Value)),l.all (λp=>decide (p.1<N))=true->∀t,(Dj a l).tmps.getD t undef=Gr (fr a) l t
 |[],_,t=>rfl
 |p::l,h,t=>by
  simp only[List.all_cons,Em,decide_eq_true_eq]at h;rw[Dj,cC,DZ,b,Gr];by_cases e:p.1=t
  . rw[iP ⟨e,h.1⟩,iP e]
  rw[iN (λx=>e x.1),iN e,lC b l h.2]
theorem Wl{a:Act}(b:a.tmps.size=N){l:List (Nat×Value)}(h:l.all (λp=>decide (p.1<N))=true):E3 (Dj a l) (Gr (fr a) l):=
 ⟨lC b l h,lC b l h,λt=>by have:=lC b l h t;simpa using this⟩
section
variable {P:Program} {ops:Array Oper} {Q:Exit→Act→Wd→Prop} {md:Region.Mode} {S:Wd→Prop} {Z:List Nat}
def Wz(md:Region.Mode)(ops:Array Oper):Nat->List Nat->Nat->Bool
 |z, [],i=>Region.waitsFor md ops z i
 |z,p::l,i=>Region.waitsFor md ops z p&&Wz md ops p l i
def Wo(md:Region.Mode)(ops:Array Oper)(L:Array Bool):Prop:=∀(k:Nat) (o:Oper),ops[k]?=some o->L.getD k false=true->∀e∈o.after,Region.binds md e=true->L.getD e.on false=true
theorem EF{L:Array Bool}(d:Wo md ops L):∀(l:List Nat) (z i:Nat),Wz md ops z l i=true->(∀o,ops[z]?=some o->∀e∈o.after,Region.binds md e=true->L.getD e.on false=true)->L.getD i false=true
 |[],z,i,h,ha=>by
  obtain⟨o,a,e,b,c,rfl⟩:=Region.waitsFor_spec h;exact ha o a e b c
 |p::l,z,i,h,ha=>by
  simp only[Wz,Em]at h;obtain⟨o,a,e,b,c,rfl⟩:=Region.waitsFor_spec h.1;exact EF d l _ i h.2 λo' ho'=>d _ o' ho' (ha o a e b c)
theorem YK{L:Array Bool}(c:Wo md ops L){z i:Nat}{l:List Nat}(d:Wz md ops z l i=true)(e:i∈Region.ready md ops L):z ∉ Region.ready md ops L:=by
 intro f;obtain⟨_,g,b,a⟩:=mem_ready.1 f;exact dQ (mem_ready.1 e).1 (EF c l z i d λo ho=>by
  rw[b]at ho;cases ho;exact a)
theorem Wo.set{L:Array Bool}(m:Wo md ops L){j:Nat}(n:j∈Region.ready md ops L):Wo md ops (L.setIfInBounds j true):=by
 obtain⟨c,p,d,a⟩:=mem_ready.1 n;have f:j<L.size:=by
  rcases Nat.lt_or_ge j L.size with h|h;exact h;simp[Array.getElem?_eq_none h]at c
 intro k o g b e i l;rw[lB f]at b ⊢;rcases b with rfl|b;rw[d]at g;cases g;exact .inr (a e i l);exact .inr (m k o g b e i l)
theorem YN{i:Nat}{oi:Oper}{v:Value}(y:ops[i]?=some oi)(D:Region.noSelect ops=true)(E:∀z∈Z,∃l,Wz md ops z l i=true) 
 (F:∀c a w,Q (.panic c) (a.put oi.dst v) w->Q (.panic c) a w):∀(n:Nat) (d:Array Bool) (a:Act) (w:Wd),Wo md ops d->
  (∀j o,ops[j]?=some o->j≠i->d.getD j true=false->(∀e∈o.after,Region.binds md e=true->e.on≠i)->oi.apart ops o=true)->
  i∈Region.ready md ops d->YieldsIf P ops S oi v a->S w->
  Ds P md ops Q S Z n (d.setIfInBounds i true) (a.put oi.dst v) w->Ds P md ops Q S Z (n+1) d a w:=by
 have g:=Region.noSelect_spec D;intro n;induction n with
 |zero=>
  intro d a w _ _ m u x H;refine⟨λh=>(by rw[h]at m;cases m),λj hj=>?_⟩;by_cases e:j=i
  . subst e;exact u.wpOp y x ⟨λ_ h=>h,H⟩
  have q:=ready_mono hj e;rw[H.1]at q;cases q
 |succ n ih=>
  intro d a w r f m u x H;refine⟨λh=>(by rw[h]at m;cases m),λj hj=>?_⟩;by_cases e:j=i
  . subst e;exact u.wpOp y x ⟨λ_ h=>h,H⟩
  have A:j ∉ Z:=λhz=>by
   obtain⟨l,G⟩:=E j hz;exact YK r G m hj
  obtain⟨s,o,p,t⟩:=mem_ready.1 hj;have B:∀b∈o.after,Region.binds md b=true->b.on≠i:=λb hb hbb hon=>by
   have q:=t b hb hbb;rw[hon]at q;exact dQ (mem_ready.1 m).1 q
  have K:=wpOp_putIf p (f j o p e s B) (λcs b=>g i oi cs b y) (λcs b=>g j o cs b p) F u (H.2 j (ready_mono hj e));refine wpOp_mono (λa' w' h3=>?_) K;have hS':S w':=h3.2.1 A x;refine⟨λ_ _=>hS',ih (d.setIfInBounds j true) a' w' (r.set hj) (λk ok hk hki hu hn=>?_) (ready_mono m (Ne.symm e)) h3.1 hS' ?_⟩
  . refine f k ok hk hki ?_ hn;by_cases C:j=k
    . subst C;exact s
    rw[getD_set_ne true C]at hu;exact hu
  rw[Array.setIfInBounds_comm _ _ e];exact h3.2.2
end
section
variable {P:Program} {ops:Array Oper} {Q:Exit→Act→Wd→Prop} {w0 w:Wd} {Z:List Nat} {n i d N:Nat} {L:Array Bool} {a:Act} {l:List (Nat×Value)} {o:Oper} {v:Value}
def Jd(P:Program)(ops:Array Oper)(Q:Exit->Act->Wd->Prop)(w0:Wd)(Z:List Nat)(n:Nat)(L:Array Bool)(a:Act)(l:List (Nat×Value))(w:Wd):Prop:=Wo .any ops L->Ds P .any ops Q (λw'=>Below w0.heap.size w0 w') Z n L (Dj a l) w
theorem Kr(i d:Nat)(v:Value)(f:ops[i]?=some o)(g:a.tmps.size=N)(j:∀(A:Act) (w:Wd),E3 A (Gr (fr a) l)->(execOp A.eval o).run P w=.ok (.value v) w)(h:Jd P ops Q w0 Z n (L.setIfInBounds i true) a ((d,v)::l) w) 
 (k:l.all (λp=>decide (p.1<N))=true:=by kernel_rfl) (hd:o.dst=some d:=by rfl) (m:Region.wanted o (yielded ops (Dj a l).tmps)=true:=by rfl) (q:Region.noSelect ops=true:=by kernel_rfl) (r:Region.free .any ops L i=true:=by kernel_rfl) (b:(Region.ready .any ops L).contains i=true:=by kernel_rfl)
 (s:∀c a' w,Q (.panic c) (a'.put o.dst v) w->Q (.panic c) a' w:=by exact λ_ _ _ h=>h):Jd P ops Q w0 Z (n+1) L a l w:=by
 intro t;have e:=Wl g k;refine AB f q r b s m (λw'=>j _ w' e) ?_;rw[hd];exact h (t.set (by simpa using b))
theorem Vk(i d:Nat)(v:Value)(b:List (List Nat))(f:ops[i]?=some o)(q:a.tmps.size=N)(r:Bw w0 w)(s:∀(A:Act) (w:Wd),E3 A (Gr (fr a) l)->Bw w0 w->(execOp A.eval o).run P w=.ok (.value v) w)(h:Jd P ops Q w0 Z n (L.setIfInBounds i true) a ((d,v)::l) w) 
 (t:l.all (λp=>decide (p.1<N))=true:=by kernel_rfl) (hd:o.dst=some d:=by rfl) (u:Region.wanted o (yielded ops (Dj a l).tmps)=true:=by rfl) (x:Region.noSelect ops=true:=by kernel_rfl) (g:(Z.length==b.length&&(Z.zip b).all (λp=>Wz .any ops p.1 p.2 i))=true:=by kernel_rfl) (y:Region.free .any ops L i=true:=by kernel_rfl) (k:(Region.ready .any ops L).contains i=true:=by kernel_rfl)
 (B:∀c a' w,Q (.panic c) (a'.put o.dst v) w->Q (.panic c) a' w:=by exact λ_ _ _ h=>h):Jd P ops Q w0 Z (n+1) L a l w:=by
 intro m;have e:=Wl q t;refine YN f x ?_ B n L _ w m (Region.free_spec f y) (by simpa using k) (.inl ⟨u,λw' hS'=>s _ w' e hS'⟩) r ?_;intro z C;simp only[Em,beq_iff_eq,List.all_eq_true]at g;obtain⟨j,E,rfl⟩:=List.getElem_of_mem C;have D:j<b.length:=by omega
 exact⟨b[j],g.2 (Z[j],b[j]) (List.mem_iff_getElem.2 ⟨j,by simp;omega,by simp⟩)⟩;rw[hd];exact h (m.set (by simpa using k))
def sK(u:Nat->Value):Operand->Value
 | .tmp t=>u t
 |x=>Act.eval ⟨#[], []⟩ x
theorem Xk{A:Act}{u:Nat->Value}(h:E3 A u):A.eval=sK u:=by
 funext x;cases x with
 |tmp t=>exact h.1 t
 |_=>rfl
theorem EA{N:Nat}{a:Act}(b:a.tmps.size=N):∀(l:List (Nat×Value)),(∀p∈l,fr a p.1=p.2/\p.1<N)->Dj a l=a
 |[],_=>rfl
 |p::l,h=>by
  rw[Dj,EA b l λq hq=>h q (by simp[hq])];obtain⟨c,d⟩:=h p (by simp);have e:a.tmps.setIfInBounds p.1 p.2=a.tmps:=by
   refine Array.ext_getElem? λi=>?_
   rw[Array.getElem?_setIfInBounds];split
   . next e=>
     subst e;rw[iP (by omega),<-c];simp[fr,show p.1<a.tmps.size by omega]
   rfl
  show({a with tmps:=a.tmps.setIfInBounds p.1 p.2}:Act)=a
  rw[e]
theorem aF{b N:Nat}(Z:List Nat)(l:List (Nat×Value))(c:a.tmps.size=N)(d:l.map (λp=>fr a p.1)=l.map Prod.snd)(h:Jd P ops Q w Z ops.size (Array.replicate ops.size false) a l w.drew)(e:l.all (λp=>decide (p.1<N))=true:=by kernel_rfl)(f:P.follows .mixedOrders=true:=by kernel_rfl):(Code.region b ops true).wp P Q a w:=bE _ Z f (by
 have:=h λk o _ hk=>aB hk (mJ k)
 rwa [EA c l λp hp=>⟨List.map_inj_left.1 d p hp,by simpa using List.all_eq_true.1 e p hp⟩]at this)
theorem De(i d:Nat)(v:Value)(b:ops[i]?=some o)(f:a.tmps.size=N)(h:Jd P ops Q w0 Z n (L.setIfInBounds i true) a ((d,v)::l) w)(g:∀w,(execOp (sK (Gr (fr a) l)) o).run P w=.ok (.value v) w:=by exact λ_=>rfl) 
 (j:l.all (λp=>decide (p.1<N))=true:=by kernel_rfl) (hd:o.dst=some d:=by rfl) (k:Region.wanted o (yielded ops (Dj a l).tmps)=true:=by rfl) (m:Region.noSelect ops=true:=by kernel_rfl) (q:Region.free .any ops L i=true:=by kernel_rfl) (r:(Region.ready .any ops L).contains i=true:=by kernel_rfl)
 (s:∀c a' w,Q (.panic c) (a'.put o.dst v) w->Q (.panic c) a' w:=by exact λ_ _ _ h=>h):Jd P ops Q w0 Z (n+1) L a l w:=
 Kr i d v b f (λA w e=>by rw[Xk e];exact g w) h j hd k m q r s
theorem Nk(i d t:Nat)(v:Value)(f:List (List Nat)){p:Addr}(k:ops[i]?=some o)(m:a.tmps.size=N)(q:Bw w0 w)(r:w0.cell? p=some v)(j:p.block<w0.heap.size)(h:Jd P ops Q w0 Z n (L.setIfInBounds i true) a ((d,v)::l) w) 
 (g:Gr (fr a) l t=.pointer (some p):=by rfl) (s:∀(A:Act) (b:Wd),A.eval (.tmp t)=.pointer (some p)->A.tmps.getD t undef=.pointer (some p)->A.tmps[t]?.getD undef=.pointer (some p)->b.cell? p=some v->p.block<b.heap.size->(execOp A.eval o).run P b=.ok (.value v) b:=by(intro A b E F G c H;go_simp))
 (u:l.all (λp=>decide (p.1<N))=true:=by kernel_rfl) (hd:o.dst=some d:=by rfl) (x:Region.wanted o (yielded ops (Dj a l).tmps)=true:=by rfl) (y:Region.noSelect ops=true:=by kernel_rfl) (z:(Z.length==f.length&&(Z.zip f).all (λp=>Wz .any ops p.1 p.2 i))=true:=by kernel_rfl) (B:Region.free .any ops L i=true:=by kernel_rfl) (C:(Region.ready .any ops L).contains i=true:=by kernel_rfl)
 (D:∀c a' w,Q (.panic c) (a'.put o.dst v) w->Q (.panic c) a' w:=by exact λ_ _ _ h=>h):Jd P ops Q w0 Z (n+1) L a l w:=
 Vk i d v f k m q (λA b e hS'=>s A b (e.at g).1 (e.at g).2.1 (e.at g).2.2 ((hS'.cell (p:=p) j).trans r) (As j hS'.size)) h u hd x y z B C D
theorem Rz(i d:Nat)(c:ops[i]?=some o)(e:a.tmps.size=N)(h:∀A:Act,E3 A (Gr (fr a) l)->∀K:Act->Wd->Prop,Af (∀v w',(i ∉ Z->Bw w0 w->Bw w0 w')->Jd P ops Q w0 Z n (L.setIfInBounds i true) a ((d,v)::l) w'->K (A.put (some d) v) w')->Oper.wp P o A w K Q) 
 (b:Region.ready .any ops L= [i]:=by kernel_rfl) (f:l.all (λp=>decide (p.1<N))=true:=by kernel_rfl) (hd:o.dst=some d:=by rfl) (g:Region.wanted o (yielded ops (Dj a l).tmps)=true:=by rfl):Jd P ops Q w0 Z (n+1) L a l w:=
 λhc=>zo b c g λK hK=>h _ (Wl e f) K (I λv w' h1 h2=>hK.1 _ _ h1 (h2 (hc.set (by rw[b];simp))))
theorem Ub(i:Nat)(c:ops[i]?=some o)(d:a.tmps.size=N)(h:∀A:Act,E3 A (Gr (fr a) l)->∀K:Act->Wd->Prop,Af (∀w',(i ∉ Z->Bw w0 w->Bw w0 w')->Jd P ops Q w0 Z n (L.setIfInBounds i true) a l w'->K A w')->Oper.wp P o A w K Q) 
 (b:Region.ready .any ops L= [i]:=by kernel_rfl) (e:l.all (λp=>decide (p.1<N))=true:=by kernel_rfl) (f:Region.wanted o (yielded ops (Dj a l).tmps)=true:=by rfl):Jd P ops Q w0 Z (n+1) L a l w:=
 λhc=>zo b c f λK hK=>h _ (Wl d e) K (I λw' h1 h2=>hK.1 _ _ h1 (h2 (hc.set (by rw[b];simp))))
theorem Wn(h:Q .normal (Dj a l) w)(b:Region.ready .any ops L= []:=by kernel_rfl):Jd P ops Q w0 Z n L a l w:=λ_=>zM b h
end
theorem aE{P:Program}{c:Code}{Q:Exit->Act->Wd->Prop}{b:Act}(h:∀a,a=b->Code.wp P c Q a w):Code.wp P c Q b w:=h _ rfl
section
variable {ops:Array Oper} {Q:Exit→Act→Wd→Prop} {w0 w:Wd} {Z:List Nat} {n i d N:Nat} {L:Array Bool} {a:Act} {l:List (Nat×Value)} {o:Oper}
variable {lo cb sb m:Nat} {I0:Nat→Int} {U:Nat→Value} {C:Nat→List (LV)}
theorem fJ(i d:Nat){k:Nat}(q:k<6)(S:CI lo cb sb m I0 U C w)(hm:m<=30000)(R:lo<=w.heap.size){c:LV}(E:Mq k (λb=>lo<=b/\∀j,j<6->(U j).ownBlock≠some b) w c) 
 (T:ops[i]?=some o) (V:a.tmps.size=N) (s x:Nat) (W:Gr (fr a) l s=U k) (X:Gr (fr a) l x=sAa w.heap.size 0 1 1)
 (h:∀g f r,r.heap[cb]?=some (.cells #[(I0 0),(I0 1),(I0 2),(I0 3),(I0 4),(I0 5),(I0 6),U 0,U 1,U 2,U 3,U 4,U 5,(I0 7)] 35 (0,0))->
  CI lo cb sb (m+1) I0 (up U k (sAa g 0 ((C k).length+1) f)) (up C k (C k++ [c])) (r.setCell (aD cb (7+k)) (sAa g 0 ((C k).length+1) f))->
  DF lo cb sb w (r.setCell (aD cb (7+k)) (sAa g 0 ((C k).length+1) f))->Jd prog ops Q w0 Z n (L.setIfInBounds i true) a ((d,sAa g 0 ((C k).length+1) f)::l) r)
 (Y:o.op=.call {callee:=.builtin .append,args:=#[.tmp s,.tmp x],argTypes:=#[Yo k,Yo k]}:=by rfl) (hZ:i∈Z:=by decide)
 (F:Region.ready .any ops L= [i]:=by kernel_rfl) (hl:l.all (λp=>decide (p.1<N))=true:=by kernel_rfl) (hd:o.dst=some d:=by rfl) (hw:Region.wanted o (yielded ops (Dj a l).tmps)=true:=by rfl):Jd prog ops Q w0 Z (n+1) L a l (w.alloc (.cells c.toArray (Nn k))):=by
 obtain⟨i0,u,v,y,z⟩:=info_parts (Vf q).info;have G:=E.len q;have H:=S.len k q;have A:cM k<=80:=by match k,q with|0,_|1,_|2,_|3,_|4,_|5,_=>decide
 intro t;have e:=Wl V hl;refine zo F T hw λK hK=>?_;refine wp_append_lies _ (.tmp s) (.tmp x) (Yo k) Y lo (Nn k) i0 (Ye k) (Nm k) (cM k) (Vf q).ht u v y z (Vf q).zs (Vf q).pos (U k) (C k).length (C k).flatten ((e.1 s).trans W) ((S.own k q).alloc _) (aD w.heap.size 0) 1 1 c ((e.1 x).trans X) (by rw[G.1];omega) (Hh w c (Nn k)) G.2 (by decide) (by unfold maxLen;omega) ?_ (by simp;omega) (w.heap.size+1) (by simp) ?_;exact Bf (Nat.mul_le_mul (show(C k).length+1<=30001 by omega) A) (by decide);intro g f r B M ha a0;have P:=S.push q E B M ha rfl;refine hK.1 _ _ (λh=>aB hZ h) ?_;rw[hd];refine h g f r ?_ P.1 P.2 (t.set (by rw[F];simp));have D:=Ag S.box;exact(M.block cb (by simp;omega) (λe=>by have:=(S.own k q).lt cb e.symm;have:=S.lt;omega)).trans ((heap_alloc_old w _ D).trans S.box)
theorem Yk(i d:Nat){k:Nat}(f:k<6)(S:CI lo cb sb m I0 U C w)(hm:m<=30000)(H:lo<=w.heap.size){c:LV}(D:c.length=Nm k/\∀u∈c,u.oneCell'=true) 
 (M:ops[i]?=some o) (P:a.tmps.size=N) (s x:Nat) (R:Gr (fr a) l s=U k) (T:Gr (fr a) l x=sAa w.heap.size 0 1 1)
 (h:∀g b j,j.ownsRow lo (Nn k) (Nm k) (sAa g 0 ((C k).length+1) b) ((C k).length+1) ((C k).flatten++c)->(w.alloc (.cells c.toArray (Nn k))).grownBy j (U k).ownBlock->((U k).ownBlock=some g\/g=w.heap.size+1)->
  j.heap[cb]?=some (.cells #[(I0 0),(I0 1),(I0 2),(I0 3),(I0 4),(I0 5),(I0 6),U 0,U 1,U 2,U 3,U 4,U 5,(I0 7)] 35 (0,0))->
  Jd prog ops Q w0 Z n (L.setIfInBounds i true) a ((d,sAa g 0 ((C k).length+1) b)::l) j)
 (V:o.op=.call {callee:=.builtin .append,args:=#[.tmp s,.tmp x],argTypes:=#[Yo k,Yo k]}:=by rfl) (W:i∈Z:=by decide)
 (E:Region.ready .any ops L= [i]:=by kernel_rfl) (X:l.all (λp=>decide (p.1<N))=true:=by kernel_rfl) (hd:o.dst=some d:=by rfl) (Y:Region.wanted o (yielded ops (Dj a l).tmps)=true:=by rfl):Jd prog ops Q w0 Z (n+1) L a l (w.alloc (.cells c.toArray (Nn k))):=by
 obtain⟨i0,r,t,v,y⟩:=info_parts (Vf f).info;have F:=S.len k f;have z:cM k<=80:=by match k,f with|0,_|1,_|2,_|3,_|4,_|5,_=>decide
 intro q;have e:=Wl P X;refine zo E M Y λK hK=>?_;refine wp_append_lies _ (.tmp s) (.tmp x) (Yo k) V lo (Nn k) i0 (Ye k) (Nm k) (cM k) (Vf f).ht r t v y (Vf f).zs (Vf f).pos (U k) (C k).length (C k).flatten ((e.1 s).trans R) ((S.own k f).alloc _) (aD w.heap.size 0) 1 1 c ((e.1 x).trans T) (by rw[D.1];omega) (Hh w c (Nn k)) D.2 (by decide) (by unfold maxLen;omega) ?_ (by simp;omega) (w.heap.size+1) (by simp) ?_;exact Bf (Nat.mul_le_mul (show(C k).length+1<=30001 by omega) z) (by decide);intro g b j A G ha a0;refine hK.1 _ _ (λh=>aB W h) ?_;rw[hd];refine h g b j A G ha ?_ (q.set (by rw[E];simp));have B:=Ag S.box;exact(G.block cb (by simp;omega) (λe=>by have:=(S.own k f).lt cb e.symm;have:=S.lt;omega)).trans ((heap_alloc_old w _ B).trans S.box)
theorem dL(i j:Nat){oj:Oper}(h:ops[i]?=some o)(k:ops[j]?=some oj)(f:a.tmps.size=N) 
 (b:∀A:Act,E3 A (Gr (fr a) l)->∀K:Act->Wd->Prop,Af (∀w',(i ∉ Z->Bw w0 w->Bw w0 w')->Jd prog ops Q w0 Z n (L.setIfInBounds i true) a l w'->K A w')->Oper.wp prog o A w K Q)
 (c:∀A:Act,E3 A (Gr (fr a) l)->∀K:Act->Wd->Prop,Af (∀w',(j ∉ Z->Bw w0 w->Bw w0 w')->Jd prog ops Q w0 Z n (L.setIfInBounds j true) a l w'->K A w')->Oper.wp prog oj A w K Q)
 (d:Region.ready .any ops L= [i,j]:=by kernel_rfl) (g:l.all (λp=>decide (p.1<N))=true:=by kernel_rfl) (m:Region.wanted o (yielded ops (Dj a l).tmps)=true:=by rfl) (e:Region.wanted oj (yielded ops (Dj a l).tmps)=true:=by rfl):Jd prog ops Q w0 Z (n+1) L a l w:=
 λhc=>Yr d h k m e (λK hK=>b _ (Wl f g) K (I λw' b c=>hK.1 _ _ b (c (hc.set (by rw[d];simp))))) (λK hK=>c _ (Wl f g) K (I λw' b c=>hK.1 _ _ b (c (hc.set (by rw[d];simp)))))
def Qy(g j:Nat)(v0 v1 v2 v3:Value)(w:Wd):Wd:=(((w.setCell (aD g j) v0).setCell (aD g (j+1)) v1).setCell (aD g (j+2)) v2).setCell (aD g (j+3)) v3
theorem YY{w:Wd}{lo g n cap:Nat}{e:TypeId}{xs:LV}{z0 z1 z2 z3:Value}(v0 v1 v2 v3:Value)(h:w.ownsRow lo e 4 (sAa g 0 (n+1) cap) (n+1) (xs++ [z0,z1,z2,z3]))(b:xs.length=n*4):
 (Qy g (n*4) v0 v1 v2 v3 w).ownsRow lo e 4 (sAa g 0 (n+1) cap) (n+1) (xs++ [v0,v1,v2,v3]):=by
 have a:=((((h.stored (n*4) v0).1.stored (n*4+1) v1).1.stored (n*4+2) v2).1.stored (n*4+3) v3).1;have c:((((xs++ [z0,z1,z2,z3]).set (n*4) v0).set (n*4+1) v1).set (n*4+2) v2).set (n*4+3) v3=xs++ [v0,v1,v2,v3]:=by
  rw[<-b];simp[List.set_append]
 rw[c]at a;exact a
theorem EB{w:Wd}{g j b:Nat}{v0 v1 v2 v3:Value}(h:b≠g):(Qy g j v0 v1 v2 v3 w).heap[b]?=w.heap[b]?:=by
 rw[Qy,Below.heap_setCell _ _ _ _ h,Below.heap_setCell _ _ _ _ h,Below.heap_setCell _ _ _ _ h,Below.heap_setCell _ _ _ _ h]
theorem ZN{w:Wd}{g j:Nat}{v0 v1 v2 v3 v:Value}{p:Addr}(h:g≠p.block):Qy g j v0 v1 v2 v3 (w.setCell p v)=(Qy g j v0 v1 v2 v3 w).setCell p v:=by
 unfold Qy;rw[Ze (a:=p) (b:=aD g j) _ _ _ (Ne.symm h),Ze (a:=p) (b:=aD g (j+1)) _ _ _ (Ne.symm h),Ze (a:=p) (b:=aD g (j+2)) _ _ _ (Ne.symm h),Ze (a:=p) (b:=aD g (j+3)) _ _ _ (Ne.symm h)]
theorem CI.elem(S:CI lo cb sb m I0 U C w){c:Wd}{g cap:Nat}{ob:Obj}{x:zH}{d:Ae}{e:Nat}{z0 z1 z2 z3:Value}(i:c.ownsRow lo (Nn 3) (Nm 3) (sAa g 0 ((C 3).length+1) cap) ((C 3).length+1) ((C 3).flatten++ [z0,z1,z2,z3]))(a:(w.alloc ob).grownBy c (U 3).ownBlock) 
 (f:(U 3).ownBlock=some g\/g=w.heap.size+1) (k:Mq 3 (λb=>lo<=b/\∀j,j<6->(U j).ownBlock≠some b) w (xv x d e)):
 CI lo cb sb (m+1) I0 (up U 3 (sAa g 0 ((C 3).length+1) cap)) (up C 3 (C 3++ [xv x d e])) ((Qy g ((C 3).length*4) (vIa x.op) (vIa x.num) (.string x.name) (.slice d x.args.length e) c).setCell (aD cb (7+3)) (sAa g 0 ((C 3).length+1) cap))/\
 DF lo cb sb w ((Qy g ((C 3).length*4) (vIa x.op) (vIa x.num) (.string x.name) (.slice d x.args.length e) c).setCell (aD cb (7+3)) (sAa g 0 ((C 3).length+1) cap)):=by
 refine S.push (by decide) k (ob:=ob) (YY _ _ _ _ i (S.own 3 (by decide)).1) ?_ f rfl;refine⟨a.os,a.tape,a.output,by have:=a.size;simpa[Qy,World.setCell] using this,λb hb hne=>?_⟩;refine(EB ?_).trans (a.block b hb hne);rintro rfl;rcases f with h|h;exact hne h.symm;simp at hb;omega
theorem mL{w:Wd}{lo g n cap:Nat}{e:TypeId}{xs:LV}{z0 z1 z2 z3:Value}(h:w.ownsRow lo e 4 (sAa g 0 (n+1) cap) (n+1) (xs++ [z0,z1,z2,z3]))(c:xs.length=n*4):
 ∃a:Array Value,w.heap[g]?=some (.cells a e (0,0))/\a[n*4]?=some z0/\a[n*4+1]?=some z1/\a[n*4+2]?=some z2/\a[n*4+3]?=some z3:=by
 rcases h.2 with⟨e,_⟩|⟨i,b,a,e,_,d,_,_,_,f⟩;cases e;cases e;have K:∀j u, [z0,z1,z2,z3][j]?=some u->a[n*4+j]?=some u:=λj u hu=>by
  have k:j<4:=(List.getElem?_eq_some_iff.1 hu).1;have:(a.toList.take ((n+1)*4))[n*4+j]?=some u:=by
   rw[f,Nf (by omega),c,show n*4+j-n*4=j by omega];exact hu
  rw[List.getElem?_take_of_lt (by omega)]at this;simpa using this
 exact⟨a,d,K 0 _ rfl,K 1 _ rfl,K 2 _ rfl,K 3 _ rfl⟩
theorem ZR{w:Wd}{lo g n cap b:Nat}{e:TypeId}{s:Nat}{xs:LV}(h:w.ownsRow lo e s (sAa g 0 (n+1) cap) (n+1) xs)(a:b<lo):g≠b:=by
 rcases h.2 with⟨e,_⟩|⟨c,_,_,e,d,_⟩;cases e;cases e;omega
theorem CI.flen(S:CI lo cb sb m I0 U C w)(k:Nat)(a:k<6):(C k).flatten.length=(C k).length*Nm k:=(S.own k a).1
end
section
variable {lo cb sb m:Nat} {I0:Nat→Int} {U:Nat→Value} {C:Nat→List (LV)}
def Py:Array Value:=#[.string ⟨#[114,101,112,111,114,116]⟩,.string ⟨#[114,101,108,101,97,115,101]⟩,.string ⟨#[99,111,110,110,101,99,116]⟩,.string ⟨#[115,105,116]⟩,.string ⟨#[108,97,121,111,118,101,114]⟩,.string ⟨#[103,117,97,114,97,110,116,101,101]⟩,.string ⟨#[110,105,103,104,116]⟩]
theorem YX{w:Wd}{a:Nat}(h:w.heap[a]?=some (.cells Py 9 (0,0))){k:Nat}(b:k<7):∃s:BA,w.cell? (aD a k)=some (.string s):=by
 match k,b with
 |0,_|1,_|2,_|3,_|4,_|5,_|6,_=>exact⟨_,zm h rfl⟩
theorem YH(w:Wd)(a:Ae)(n cap:Nat)(S:CI lo cb sb m I0 U C w)(T:Fe cb sb w (.slice a n cap) n)(f4:lo<=w.heap.size)(hm:m<=30000):
 Calls prog 144 #[pAa cb 0,pAa sb 0,.slice a n cap] w (sG lo cb sb m w):=by
 have hn:=T.1;obtain⟨_,_,e,a6,f5,_⟩:=T.2;cases e;have HX:HD lo cb sb m I0 U C w (.slice a n cap) n w:=I ⟨S,T,DF.refl ..,f4⟩;go_in;go_wp2_with fail;refine(Zz HX 0 1).mono ?_;rintro e w1 ⟨b,rfl,P,H1⟩;cases b
 . go_wp2;go_ret;exact HD.fail H1 _
 have h0:=P rfl;obtain⟨tb,off,rfl,-⟩:=Fe.cells H1.1.tk h0;go_wp2_with fail;have Q1:=I (zh w1 (.cells Py 9));have H2:=I (H1.1.call ((An _ w1).alloc (Bv _) (.cells Py 9)));change Code.wp _ _ _ _ (w1.alloc (.cells Py 9));generalize w1.heap.size=fb at*;generalize w1.alloc (.cells Py 9)=w2 at*;go_loopw [8] (λi wr=>∃k:Nat,k<=7/\i=vIa k/\Af (wr.heap[fb]?=some (.cells Py 9 (0,0)))/\HD lo cb sb m I0 U C w (sAa tb off n cap) n wr) (λi _=>7-(intOf i).toNat);exact⟨0,by omega,rfl,Q1,H2⟩;obtain⟨k,hk,rfl,Q2,s⟩:=hrel;by_cases h7:k<7
 . have h1:(k:Int)<7:=by omega
   obtain⟨R,p0,c1,c2,-,-,a3⟩:=s.1.tx h0;obtain⟨N,d1⟩:=YX Q2.1 h7;have dl:=Ag Q2.1;go_wp2;go_quiet (fail);have Q4:=jT Q2 (dr wr nq);have F:=I (s.1.call (dr wr nq));go_wp2_with (refine(ZC _ _ n cap k h7 F.1.ci F.1.tk).mono ?_;rintro e w5 ⟨kk,J0,rfl,S5,D5⟩);have M:=I S5;have HG:=I D5;go_ret;exact⟨_,_,_,_,rfl,M.1.more (Nat.le_succ _),F.1.df.trans HG.1⟩;go_roundw;exact⟨k+1,by omega,by go_num,Q4,F⟩;simp[intOf];omega
 obtain rfl:k=7:=by omega
 go_upto_region 10 with fail
 go_cut [40] from 41 to 53 (λv wx=>∃b:Bool,v=.bool b/\(b=true->2<n)/\HD lo cb sb m I0 U C w (sAa tb off n cap) n wx)
 case first=>
  obtain⟨R,p0,c1,c2,-,-,a3⟩:=s.1.tx h0;cases e0:(R.toList== [99,111,110,115,116])
  . go_wp2;go_meet;exact⟨_,rfl,(λh=>by cases h),s⟩
  go_wp2_with fail;refine(lM s 1).mono ?_;rintro e v0 ⟨b0,rfl,a8,Y⟩;cases b0
  . go_wp2;go_meet;exact⟨_,rfl,(λh=>by cases h),Y⟩
  go_wp2_with fail;refine(Pz Y 2 _).mono ?_;rintro e v1 ⟨b1,rfl,a1,K1⟩;go_wp2;go_meet;exact⟨_,rfl,a1,K1⟩
 obtain⟨b,rfl,P,s⟩:=hcut;cases b;rotate_left
 . have h2:=P rfl;go_upto_region 11 with fail;go_cut [9,10] from 54 to 59 (λp v wx=>∃(G:Nat) (x:zH) (y:Ae) (z:Nat) (H:Int),p=pAa G 0/\v=vIa H/\Af (XB lo U G x y z wx)/\HD lo cb sb m I0 U C w (sAa tb off n cap) n wx)
   case first=>
    obtain⟨lp,lc,a4,a5⟩:=lH (tb:=tb) (off:=off) 3 3 rfl (show 3<=n by omega) a6;go_wp2_with fail;refine(lD _ _ (n-3) (s.expr a4)).mono ?_;rintro e w5 ⟨x,y,z,H,rfl,E5,B5⟩;have X5:=I (s.1.xb E5 B5);have L:=I ((s.1.call B5).call ((An _ w5).alloc (Bv _) (.cells (xv x y z).toArray 116)));go_wp2;go_meet;exact⟨_,x,y,z,H,rfl,rfl,X5,L⟩
   obtain⟨G,x,y,z,H,rfl,rfl,X4,F⟩:=hcut;go_wp2_with fail;go_ret;exact HD.fail F _;have X5:=I (X4.1.call (dr wc 1));have L:=I (F.1.call (dr wc 1));obtain⟨x0,x1,x2,x3⟩:=dJ X4.1.1;have q:=F.1.ci.box;have z7:=zm (j:=7) q rfl;have zl:=Ag q;have X:=Ag X4.1.1;obtain⟨N,p1,d1,e1,a9,c7,a2⟩:=F.1.tx (i:=1) (by omega);have g1:(1:Int)<n:=by omega
   refine aE λa ha=>?_;have d:a.tmps.size=335:=by rw[ha];rfl
   have M:=I (dr wc 1);refine aF [12,15] [(0,(pAa cb 0)),(2,(sAa tb off n cap)),(9,(pAa G 0))] d (by rw[ha];rfl) ?_;have HA:=I ha;refine De 0 62 (pAa cb 0) rfl d ?_;refine De 1 63 (pAa cb 0) rfl d ?_;refine De 2 64 (pAa cb 0) rfl d ?_;refine De 3 65 (pAa cb 7) rfl d ?_;refine Nk 4 66 65 (U 0) [[], []] rfl d M.1 z7 zl ?_;refine De 5 67 (sAa tb off n cap) rfl d ?_;refine Kr 6 68 (pAa tb (off+4)) rfl d ?_ ?_;intro A Z e;obtain⟨f,l,o⟩:=e.at (t:=67) (V:=(sAa tb off n cap)) rfl;go_simp;refine De 7 69 (pAa tb (off+4+1)) rfl d ?_;refine Nk 8 70 69 (.string N) [[11,10], []] rfl d M.1 d1 a2 ?_;refine Vk 9 71 (.agg #[x.op,x.num,.string x.name,.slice y x.args.length z]) [[11,10], []] rfl d M.1 ?_ ?_;intro A Z e Q;obtain⟨f,l,o⟩:=e.at (t:=9) (V:=(pAa G 0)) rfl;have c0:=(Q.cell (p:=aD G 0) X).trans x0;have c1:=(Q.cell (p:=aD G 1) X).trans x1;have c2:=(Q.cell (p:=aD G 2) X).trans x2;have c3:=(Q.cell (p:=aD G 3) X).trans x3;have cl:=As X Q.size;go_simp;refine Kr 10 72 (.agg #[.string N,x.op,x.num,.string x.name,.slice y x.args.length z]) rfl d ?_ ?_;intro A Z e;obtain⟨f,l,o⟩:=e.at (t:=70) (V:=(.string N)) rfl;obtain⟨B,D,E⟩:=e.at (t:=71) (V:=(.agg #[x.op,x.num,.string x.name,.slice y x.args.length z])) rfl;go_simp;refine Rz 11 73 rfl d (λA e K hK=>?_);obtain⟨f,l,o⟩:=e.at (t:=72) (V:=(.agg #[.string N,x.op,x.num,.string x.name,.slice y x.args.length z])) rfl;go_simp;refine hK.1 _ _ (λ_ h=>Ab h (J _ _)) ?_;refine fJ 12 74 (k:=0) (by decide) L.1.ci (by omega) L.1.le (c:=.string N::xv x y z) ⟨[.string N],xv x y z,rfl,⟨N,rfl,a9⟩,λ_=>X5.1.2,λh=>aB h (by decide)⟩ rfl d 66 73 rfl rfl ?_;intro g gc w6 W hC hD;have HC:=I hC;have HG:=I hD;have k7:=zm (j:=7) W rfl;have y7:=zQ (j:=7) W;have kl:=Ag W;refine De 13 75 (pAa cb 0) rfl d ?_;refine De 14 76 (pAa cb 7) rfl d ?_;refine Ub 15 rfl d (λA e K hK=>?_);obtain⟨f,l,o⟩:=e.at (t:=76) (V:=(pAa cb 7)) rfl;obtain⟨B,D,E⟩:=e.at (t:=74) (V:=(sAa g 0 ((C 0).length+1) gc)) rfl;go_simp;refine hK.1 _ (λh=>aB (by decide) h) ?_;refine Wn ?_;rw[HA.1];simp only[Dj,Act.put,O];go_wp2;go_ret;exact⟨_,_,_,_,rfl,HC.1,L.1.df.trans HG.1⟩
 go_upto_region 15 with fail
 go_cut [77] from 78 to 95 (λv wx=>∃b:Bool,v=.bool b/\(b=true->3<n)/\HD lo cb sb m I0 U C w (sAa tb off n cap) n wx)
 case first=>
  obtain⟨R,p0,c1,c2,-,-,a3⟩:=s.1.tx h0;go_wp2_with fail;refine(lJ _ _).mono ?_;rintro e w5 ⟨ks,rfl,b6,rfl⟩;cases e0:(ks !=0)
  . go_wp2;go_meet;exact⟨_,rfl,(λh=>by cases h),s⟩
  go_wp2_with fail;refine(Pz s 1 _).mono ?_;rintro e v0 ⟨b0,rfl,a8,Y⟩;cases b0
  . go_wp2;go_meet;exact⟨_,rfl,(λh=>by cases h),Y⟩
  go_wp2_with fail;refine(lM Y 2).mono ?_;rintro e v1 ⟨b1,rfl,a1,K1⟩;cases b1
  . go_wp2;go_meet;exact⟨_,rfl,(λh=>by cases h),K1⟩
  go_wp2_with fail;refine(Pz K1 3 _).mono ?_;rintro e v2 ⟨b2,rfl,b9,K2⟩;go_wp2;go_meet;exact⟨_,rfl,b9,K2⟩
 obtain⟨b,rfl,P,s⟩:=hcut;cases b;rotate_left
 . have h2:=P rfl;go_upto_region 16 with fail;go_cut [11,12] from 96 to 101 (λp v wx=>∃(G:Nat) (x:zH) (y:Ae) (z:Nat) (H:Int),p=pAa G 0/\v=vIa H/\Af (XB lo U G x y z wx)/\HD lo cb sb m I0 U C w (sAa tb off n cap) n wx)
   case first=>
    obtain⟨lp,lc,a4,a5⟩:=lH (tb:=tb) (off:=off) 4 4 rfl (show 4<=n by omega) a6;go_wp2_with fail;refine(lD _ _ (n-4) (s.expr a4)).mono ?_;rintro e w5 ⟨x,y,z,H,rfl,E5,B5⟩;have X5:=I (s.1.xb E5 B5);have L:=I ((s.1.call B5).call ((An _ w5).alloc (Bv _) (.cells (xv x y z).toArray 116)));go_wp2;go_meet;exact⟨_,x,y,z,H,rfl,rfl,X5,L⟩
   obtain⟨G,x,y,z,H,rfl,rfl,X4,F⟩:=hcut;go_wp2_with fail;go_ret;exact HD.fail F _;have X5:=I (X4.1.call (dr wc 1));have L:=I (F.1.call (dr wc 1));obtain⟨x0,x1,x2,x3⟩:=dJ X4.1.1;have q:=F.1.ci.box;have z7:=zm (j:=8) q rfl;have zl:=Ag q;have X:=Ag X4.1.1;obtain⟨R,p0,d0,e0,f6,f7,b7⟩:=F.1.tx (i:=0) (by omega);have g0:(0:Int)<n:=by omega
   obtain⟨s2,p2,d2,e2,f8,h3,c8⟩:=F.1.tx (i:=2) (by omega);have g2:(2:Int)<n:=by omega
   refine aE λa ha=>?_;have d:a.tmps.size=335:=by rw[ha];rfl
   have M:=I (dr wc 1);refine aF [17,20] [(0,(pAa cb 0)),(2,(sAa tb off n cap)),(11,(pAa G 0))] d (by rw[ha];rfl) ?_;have HA:=I ha;refine De 0 104 (pAa cb 0) rfl d ?_;refine De 1 105 (pAa cb 0) rfl d ?_;refine De 2 106 (pAa cb 0) rfl d ?_;refine De 3 107 (pAa cb 8) rfl d ?_;refine Nk 4 108 107 (U 1) [[], []] rfl d M.1 z7 zl ?_;refine De 5 109 (sAa tb off n cap) rfl d ?_;refine Kr 6 110 (pAa tb off) rfl d ?_ ?_;intro A Z e;obtain⟨f,l,o⟩:=e.at (t:=109) (V:=(sAa tb off n cap)) rfl;go_simp;refine De 7 111 (pAa tb (off+1)) rfl d ?_;refine Nk 8 112 111 (.string R) [[9], []] rfl d M.1 d0 b7 ?_;refine De 10 114 (sAa tb off n cap) rfl d ?_;refine Kr 11 115 (pAa tb (off+8)) rfl d ?_ ?_;intro A Z e;obtain⟨f,l,o⟩:=e.at (t:=114) (V:=(sAa tb off n cap)) rfl;go_simp;refine De 12 116 (pAa tb (off+8+1)) rfl d ?_;refine Nk 13 117 116 (.string s2) [[16,15], []] rfl d M.1 d2 c8 ?_;refine Vk 14 118 (.agg #[x.op,x.num,.string x.name,.slice y x.args.length z]) [[16,15], []] rfl d M.1 ?_ ?_;intro A Z e Q;obtain⟨f,l,o⟩:=e.at (t:=11) (V:=(pAa G 0)) rfl;have c0:=(Q.cell (p:=aD G 0) X).trans x0;have c1:=(Q.cell (p:=aD G 1) X).trans x1;have c2:=(Q.cell (p:=aD G 2) X).trans x2;have c3:=(Q.cell (p:=aD G 3) X).trans x3;have cl:=As X Q.size;go_simp;refine Rz 9 113 rfl d (λA e K hK=>?_);obtain⟨f,l,o⟩:=e.at (t:=112) (V:=(.string R)) rfl;go_simp;refine(lJ _ _).mono ?_;rintro e' w5 ⟨ks,rfl,b6,rfl⟩;refine hK.1 _ _ (λ_ h=>h) ?_;refine Kr 15 119 (.agg #[ks,.string s2,x.op,x.num,.string x.name,.slice y x.args.length z]) rfl d ?_ ?_;intro A Z e;obtain⟨f,l,o⟩:=e.at (t:=113) (V:=(vIa ks)) rfl;obtain⟨B,D,E⟩:=e.at (t:=117) (V:=(.string s2)) rfl;obtain⟨c9,d7,d8⟩:=e.at (t:=118) (V:=(.agg #[x.op,x.num,.string x.name,.slice y x.args.length z])) rfl;go_simp;refine Rz 16 120 rfl d (λA e K hK=>?_);obtain⟨f,l,o⟩:=e.at (t:=119) (V:=(.agg #[ks,.string s2,x.op,x.num,.string x.name,.slice y x.args.length z])) rfl;go_simp;refine hK.1 _ _ (λ_ h=>Ab h (J _ _)) ?_;refine fJ 17 121 (k:=1) (by decide) L.1.ci (by omega) L.1.le (c:=vIa ks::.string s2::xv x y z) ⟨[vIa ks,.string s2],xv x y z,rfl,⟨ks,s2,rfl,b6,f8⟩,λ_=>X5.1.2,λh=>aB h (by decide)⟩ rfl d 108 120 rfl rfl ?_;intro g gc w6 W hC hD;have HC:=I hC;have HG:=I hD;have k7:=zm (j:=8) W rfl;have y7:=zQ (j:=8) W;have kl:=Ag W;refine De 18 122 (pAa cb 0) rfl d ?_;refine De 19 123 (pAa cb 8) rfl d ?_;refine Ub 20 rfl d (λA e K hK=>?_);obtain⟨f,l,o⟩:=e.at (t:=123) (V:=(pAa cb 8)) rfl;obtain⟨B,D,E⟩:=e.at (t:=121) (V:=(sAa g 0 ((C 1).length+1) gc)) rfl;go_simp;refine hK.1 _ (λh=>aB (by decide) h) ?_;refine Wn ?_;rw[HA.1];simp only[Dj,Act.put,O];go_wp2;go_ret;exact⟨_,_,_,_,rfl,HC.1,L.1.df.trans HG.1⟩
 go_upto_region 20 with fail
 go_cut [124] from 125 to 138 (λv wx=>∃b:Bool,v=.bool b/\(b=true->2<n)/\HD lo cb sb m I0 U C w (sAa tb off n cap) n wx)
 case first=>
  obtain⟨R,p0,c1,c2,-,-,a3⟩:=s.1.tx h0;go_wp2_with fail;refine(lJ _ _).mono ?_;rintro e w5 ⟨ks,rfl,b6,rfl⟩;cases e0:(ks !=0)
  . go_wp2;go_meet;exact⟨_,rfl,(λh=>by cases h),s⟩
  go_wp2_with fail;refine(Pz s 1 _).mono ?_;rintro e v0 ⟨b0,rfl,a8,Y⟩;cases b0
  . go_wp2;go_meet;exact⟨_,rfl,(λh=>by cases h),Y⟩
  go_wp2_with fail;refine(Pz Y 2 _).mono ?_;rintro e v1 ⟨b1,rfl,a1,K1⟩;go_wp2;go_meet;exact⟨_,rfl,a1,K1⟩
 obtain⟨b,rfl,P,s⟩:=hcut;cases b;rotate_left
 . have h2:=P rfl;go_upto_region 21 with fail;go_cut [13,14] from 139 to 144 (λp v wx=>∃(G:Nat) (x:zH) (y:Ae) (z:Nat) (H:Int),p=pAa G 0/\v=vIa H/\Af (XB lo U G x y z wx)/\HD lo cb sb m I0 U C w (sAa tb off n cap) n wx)
   case first=>
    obtain⟨lp,lc,a4,a5⟩:=lH (tb:=tb) (off:=off) 3 3 rfl (show 3<=n by omega) a6;go_wp2_with fail;refine(lD _ _ (n-3) (s.expr a4)).mono ?_;rintro e w5 ⟨x,y,z,H,rfl,E5,B5⟩;have X5:=I (s.1.xb E5 B5);have L:=I ((s.1.call B5).call ((An _ w5).alloc (Bv _) (.cells (xv x y z).toArray 116)));go_wp2;go_meet;exact⟨_,x,y,z,H,rfl,rfl,X5,L⟩
   obtain⟨G,x,y,z,H,rfl,rfl,X4,F⟩:=hcut;go_wp2_with fail;go_ret;exact HD.fail F _;have X5:=I (X4.1.call (dr wc 1));have L:=I (F.1.call (dr wc 1));obtain⟨x0,x1,x2,x3⟩:=dJ X4.1.1;have q:=F.1.ci.box;have z7:=zm (j:=9) q rfl;have zl:=Ag q;have X:=Ag X4.1.1;obtain⟨R,p0,d0,e0,f6,f7,b7⟩:=F.1.tx (i:=0) (by omega);have g0:(0:Int)<n:=by omega
   refine aE λa ha=>?_;have d:a.tmps.size=335:=by rw[ha];rfl
   have M:=I (dr wc 1);refine aF [13,16] [(0,(pAa cb 0)),(2,(sAa tb off n cap)),(13,(pAa G 0))] d (by rw[ha];rfl) ?_;have HA:=I ha;refine De 0 147 (pAa cb 0) rfl d ?_;refine De 1 148 (pAa cb 0) rfl d ?_;refine De 2 149 (pAa cb 0) rfl d ?_;refine De 3 150 (pAa cb 9) rfl d ?_;refine Nk 4 151 150 (U 2) [[], []] rfl d M.1 z7 zl ?_;refine De 5 152 (sAa tb off n cap) rfl d ?_;refine Kr 6 153 (pAa tb off) rfl d ?_ ?_;intro A Z e;obtain⟨f,l,o⟩:=e.at (t:=152) (V:=(sAa tb off n cap)) rfl;go_simp;refine De 7 154 (pAa tb (off+1)) rfl d ?_;refine Nk 8 155 154 (.string R) [[9], []] rfl d M.1 d0 b7 ?_;refine Vk 10 157 (.agg #[x.op,x.num,.string x.name,.slice y x.args.length z]) [[12,11], []] rfl d M.1 ?_ ?_;intro A Z e Q;obtain⟨f,l,o⟩:=e.at (t:=13) (V:=(pAa G 0)) rfl;have c0:=(Q.cell (p:=aD G 0) X).trans x0;have c1:=(Q.cell (p:=aD G 1) X).trans x1;have c2:=(Q.cell (p:=aD G 2) X).trans x2;have c3:=(Q.cell (p:=aD G 3) X).trans x3;have cl:=As X Q.size;go_simp;refine Rz 9 156 rfl d (λA e K hK=>?_);obtain⟨f,l,o⟩:=e.at (t:=155) (V:=(.string R)) rfl;go_simp;refine(lJ _ _).mono ?_;rintro e' w5 ⟨ks,rfl,b6,rfl⟩;refine hK.1 _ _ (λ_ h=>h) ?_;refine Kr 11 158 (.agg #[ks,x.op,x.num,.string x.name,.slice y x.args.length z]) rfl d ?_ ?_;intro A Z e;obtain⟨f,l,o⟩:=e.at (t:=156) (V:=(vIa ks)) rfl;obtain⟨B,D,E⟩:=e.at (t:=157) (V:=(.agg #[x.op,x.num,.string x.name,.slice y x.args.length z])) rfl;go_simp;refine Rz 12 159 rfl d (λA e K hK=>?_);obtain⟨f,l,o⟩:=e.at (t:=158) (V:=(.agg #[ks,x.op,x.num,.string x.name,.slice y x.args.length z])) rfl;go_simp;refine hK.1 _ _ (λ_ h=>Ab h (J _ _)) ?_;refine fJ 13 160 (k:=2) (by decide) L.1.ci (by omega) L.1.le (c:=vIa ks::xv x y z) ⟨[vIa ks],xv x y z,rfl,⟨ks,rfl,b6⟩,λ_=>X5.1.2,λh=>aB h (by decide)⟩ rfl d 151 159 rfl rfl ?_;intro g gc w6 W hC hD;have HC:=I hC;have HG:=I hD;have k7:=zm (j:=9) W rfl;have y7:=zQ (j:=9) W;have kl:=Ag W;refine De 14 161 (pAa cb 0) rfl d ?_;refine De 15 162 (pAa cb 9) rfl d ?_;refine Ub 16 rfl d (λA e K hK=>?_);obtain⟨f,l,o⟩:=e.at (t:=162) (V:=(pAa cb 9)) rfl;obtain⟨B,D,E⟩:=e.at (t:=160) (V:=(sAa g 0 ((C 2).length+1) gc)) rfl;go_simp;refine hK.1 _ (λh=>aB (by decide) h) ?_;refine Wn ?_;rw[HA.1];simp only[Dj,Act.put,O];go_wp2;go_ret;exact⟨_,_,_,_,rfl,HC.1,L.1.df.trans HG.1⟩
 go_upto_region 25 with fail
 go_cut [163] from 164 to 176 (λv wx=>∃b:Bool,v=.bool b/\(b=true->2<n)/\HD lo cb sb m I0 U C w (sAa tb off n cap) n wx)
 case first=>
  obtain⟨R,p0,c1,c2,-,-,a3⟩:=s.1.tx h0;cases e0:(R.toList== [100,117,116,121])
  . go_wp2;go_meet;exact⟨_,rfl,(λh=>by cases h),s⟩
  go_wp2_with fail;refine(Pz s 1 _).mono ?_;rintro e v0 ⟨b0,rfl,a8,Y⟩;cases b0
  . go_wp2;go_meet;exact⟨_,rfl,(λh=>by cases h),Y⟩
  go_wp2_with fail;refine(Pz Y 2 _).mono ?_;rintro e v1 ⟨b1,rfl,a1,K1⟩;go_wp2;go_meet;exact⟨_,rfl,a1,K1⟩
 obtain⟨b,rfl,P,s⟩:=hcut;cases b;rotate_left
 . have h2:=P rfl;go_upto_region 26 with fail;go_cut [15,16] from 177 to 182 (λp v wx=>∃(G:Nat) (x:zH) (y:Ae) (z:Nat) (H:Int),p=pAa G 0/\v=vIa H/\Af (XB lo U G x y z wx)/\HD lo cb sb m I0 U C w (sAa tb off n cap) n wx)
   case first=>
    obtain⟨lp,lc,a4,a5⟩:=lH (tb:=tb) (off:=off) 3 3 rfl (show 3<=n by omega) a6;go_wp2_with fail;refine(lD _ _ (n-3) (s.expr a4)).mono ?_;rintro e w5 ⟨x,y,z,H,rfl,E5,B5⟩;have X5:=I (s.1.xb E5 B5);have L:=I ((s.1.call B5).call ((An _ w5).alloc (Bv _) (.cells (xv x y z).toArray 116)));go_wp2;go_meet;exact⟨_,x,y,z,H,rfl,rfl,X5,L⟩
   obtain⟨G,x,y,z,H,rfl,rfl,X4,F⟩:=hcut;go_wp2_with fail;go_ret;exact HD.fail F _;have X5:=I (X4.1.call (dr wc 1));have L:=I (F.1.call (dr wc 1));obtain⟨x0,x1,x2,x3⟩:=dJ X4.1.1;have q:=F.1.ci.box;have z7:=zm (j:=10) q rfl;have zl:=Ag q;have X:=Ag X4.1.1;obtain⟨ua,uc,d9⟩:=Js (F.1.ci.own 3 (by decide));refine aE λa ha=>?_;have d:a.tmps.size=335:=by rw[ha];rfl
   have M:=I (dr wc 1);have f9:=I d9;refine aF [7,9,12] [(0,(pAa cb 0)),(15,(pAa G 0))] d (by rw[ha];rfl) ?_;have HA:=I ha;refine De 0 185 (pAa cb 0) rfl d ?_;refine De 1 186 (pAa cb 0) rfl d ?_;refine De 2 187 (pAa cb 10) rfl d ?_;refine Vk 3 188 (U 3) [[], [], []] rfl d M.1 ?_ ?_;intro A Z e Q;obtain⟨f,l,o⟩:=e.at (t:=187) (V:=(pAa cb 10)) rfl;have c:=(Q.cell (p:=aD cb 10) zl).trans z7;have cl:=As zl Q.size;go_simp;refine Vk 4 189 (.agg #[x.op,x.num,.string x.name,.slice y x.args.length z]) [[], [], []] rfl d M.1 ?_ ?_;intro A Z e Q;obtain⟨f,l,o⟩:=e.at (t:=15) (V:=(pAa G 0)) rfl;have c0:=(Q.cell (p:=aD G 0) X).trans x0;have c1:=(Q.cell (p:=aD G 1) X).trans x1;have c2:=(Q.cell (p:=aD G 2) X).trans x2;have c3:=(Q.cell (p:=aD G 3) X).trans x3;have cl:=As X Q.size;go_simp;refine Kr 5 190 (vIa (C 3).length) rfl d ?_ ?_;intro A Z e;obtain⟨f,l,o⟩:=e.at (t:=188) (V:=(U 3)) rfl;rw[f9.1]at f l o;go_simp;refine Rz 6 191 rfl d (λA e K hK=>?_);go_simp;refine hK.1 _ _ (λ_ h=>Ab h (J _ _)) ?_;refine Yk 7 192 (k:=3) (by decide) L.1.ci (by omega) L.1.le (c:= [vIa 0,vIa 0,.string ⟨#[]⟩,sNa]) ⟨rfl,λu hu=>by simp at hu;rcases hu with rfl|rfl|rfl|rfl <;> rfl⟩ rfl d 188 191 rfl rfl ?_;intro g gc w6 hO hG hA hC;obtain⟨E1,E2⟩:=CI.elem (z0:=vIa 0) (z1:=vIa 0) (z2:=.string ⟨#[]⟩) (z3:=sNa) L.1.ci hO hG hA ⟨[],xv x y z,rfl,rfl,λ_=>X5.1.2,λh=>aB h (by decide)⟩;obtain⟨h4,r,r0,r1,r2,r3⟩:=mL hO (L.1.ci.flen 3 (by decide));have c4:g≠cb:=ZR hO (by have:=L.1.ci.lt;omega);have HC:=I E1;have HG:=I E2;have HR:=I r;have b8:=I hC;have i1:((C 3).length:Int)<(((C 3).length+1:Nat):Int):=by omega
   have i2:(C 3).length<(C 3).length+1:=Nat.lt_succ_self _;have i3:¬ ((C 3).length:Int)+1<=((C 3).length:Int):=by omega
   refine Kr 8 193 (pAa g ((C 3).length*4)) rfl d ?_ ?_;intro A Z e;obtain⟨f,l,o⟩:=e.at (t:=192) (V:=(sAa g 0 ((C 3).length+1) gc)) rfl;obtain⟨B,D,E⟩:=e.at (t:=190) (V:=(vIa (C 3).length)) rfl;go_simp;refine De 10 194 (pAa cb 0) rfl d ?_;refine De 11 195 (pAa cb 10) rfl d ?_;refine dL 9 12 rfl rfl d (λA e K hK=>?_) (λA e K hK=>?_)
   . obtain⟨f,l,o⟩:=e.at (t:=193) (V:=(pAa g ((C 3).length*4))) rfl;obtain⟨B,D,E⟩:=e.at (t:=189) (V:=(.agg #[x.op,x.num,.string x.name,.slice y x.args.length z])) rfl;have R:=zm (j:=(C 3).length*4) HR.1 r0;have y0:=zQ (j:=(C 3).length*4) HR.1;have N:=zm (j:=(C 3).length*4+1) HR.1 r1;have y1:=zQ (j:=(C 3).length*4+1) HR.1;have s2:=zm (j:=(C 3).length*4+2) HR.1 r2;have y2:=zQ (j:=(C 3).length*4+2) HR.1;have s3:=zm (j:=(C 3).length*4+3) HR.1 r3;have y3:=zQ (j:=(C 3).length*4+3) HR.1;have sl:=Ag HR.1;go_simp;refine hK.1 _ (λh=>aB (by decide) h) ?_;change Jd _ _ _ _ _ _ _ _ _ (Qy g ((C 3).length*4) (vIa x.op) (vIa x.num) (.string x.name) (.slice y x.args.length z) w6);have c5:=I ((EB (v0:=vIa x.op) (v1:=vIa x.num) (v2:=.string x.name) (v3:=.slice y x.args.length z) (j:=(C 3).length*4) c4.symm).trans b8.1);generalize Qy g ((C 3).length*4) (vIa x.op) (vIa x.num) (.string x.name) (.slice y x.args.length z) w6=w7 at*;refine Ub 12 rfl d (λA e K hK=>?_);obtain⟨f,l,o⟩:=e.at (t:=195) (V:=(pAa cb 10)) rfl;obtain⟨B,D,E⟩:=e.at (t:=192) (V:=(sAa g 0 ((C 3).length+1) gc)) rfl;have R:=zm (j:=10) c5.1 rfl;have y0:=zQ (j:=10) c5.1;have sl:=Ag c5.1;go_simp;refine hK.1 _ (λh=>aB (by decide) h) ?_;refine Wn ?_;rw[HA.1];simp only[Dj,Act.put,O];go_wp2;go_ret;exact⟨_,_,_,_,rfl,HC.1,L.1.df.trans HG.1⟩
   obtain⟨f,l,o⟩:=e.at (t:=195) (V:=(pAa cb 10)) rfl;obtain⟨B,D,E⟩:=e.at (t:=192) (V:=(sAa g 0 ((C 3).length+1) gc)) rfl;have R:=zm (j:=10) b8.1 rfl;have y0:=zQ (j:=10) b8.1;have sl:=Ag b8.1;go_simp;refine hK.1 _ (λh=>aB (by decide) h) ?_;have a0:=I ((Below.heap_setCell w6 (aD cb 10) (sAa g 0 ((C 3).length+1) gc) g c4).trans HR.1);rw[<-ZN (show g≠((aD cb (7+3)):Addr).block from c4)]at HC HG;generalize w6.setCell (aD cb (7+3)) (sAa g 0 ((C 3).length+1) gc)=w7 at*;refine Ub 9 rfl d (λA e K hK=>?_);obtain⟨f,l,o⟩:=e.at (t:=193) (V:=(pAa g ((C 3).length*4))) rfl;obtain⟨B,D,E⟩:=e.at (t:=189) (V:=(.agg #[x.op,x.num,.string x.name,.slice y x.args.length z])) rfl;have R:=zm (j:=(C 3).length*4) a0.1 r0;have y0:=zQ (j:=(C 3).length*4) a0.1;have N:=zm (j:=(C 3).length*4+1) a0.1 r1;have y1:=zQ (j:=(C 3).length*4+1) a0.1;have s2:=zm (j:=(C 3).length*4+2) a0.1 r2;have y2:=zQ (j:=(C 3).length*4+2) a0.1;have s3:=zm (j:=(C 3).length*4+3) a0.1 r3;have y3:=zQ (j:=(C 3).length*4+3) a0.1;have sl:=Ag a0.1;go_simp;refine hK.1 _ (λh=>aB (by decide) h) ?_;change Jd _ _ _ _ _ _ _ _ _ (Qy g ((C 3).length*4) (vIa x.op) (vIa x.num) (.string x.name) (.slice y x.args.length z) w7);refine Wn ?_;rw[HA.1];simp only[Dj,Act.put,O];go_wp2;go_ret;exact⟨_,_,_,_,rfl,HC.1,L.1.df.trans HG.1⟩
 go_upto_region 30 with fail
 go_cut [196] from 197 to 230 (λv wx=>∃b:Bool,v=.bool b/\(b=true->n=8)/\HD lo cb sb m I0 U C w (sAa tb off n cap) n wx)
 case first=>
  obtain⟨R,p0,c1,c2,-,-,a3⟩:=s.1.tx h0;cases e0:(R.toList== [108,105,109,105,116])
  . go_wp2;go_meet;exact⟨_,rfl,(λh=>by cases h),s⟩
  cases e1:((n:Int)==8)
  . go_wp2;go_meet;exact⟨_,rfl,(λh=>by cases h),s⟩
  have e2:=I (show n=8 by simp at e1;omega);have e3:8<n+1:=by have:=e2.1;omega
  go_wp2_with fail;refine(lM s 1).mono ?_;rintro e v0 ⟨b0,rfl,a8,Y⟩;cases b0
  . go_wp2;go_meet;exact⟨_,rfl,(λh=>by cases h),Y⟩
  go_wp2_with fail;refine(Pz Y 2 _).mono ?_;rintro e v1 ⟨b1,rfl,a1,K1⟩;cases b1
  . go_wp2;go_meet;exact⟨_,rfl,(λh=>by cases h),K1⟩
  go_wp2_with fail;refine(Zz K1 3 1).mono ?_;rintro e v2 ⟨b2,rfl,b9,K2⟩;cases b2
  . go_wp2;go_meet;exact⟨_,rfl,(λh=>by cases h),K2⟩
  go_wp2_with fail;refine(Pz K2 5 _).mono ?_;rintro e v3 ⟨b3,rfl,g7,K3⟩;cases b3
  . go_wp2;go_meet;exact⟨_,rfl,(λh=>by cases h),K3⟩
  go_wp2_with fail;refine(Zz K3 6 2).mono ?_;rintro e v4 ⟨b4,rfl,g8,K4⟩;cases b4
  . go_wp2;go_meet;exact⟨_,rfl,(λh=>by cases h),K4⟩
  go_wp2_with fail;refine(Pz K4 7 _).mono ?_;rintro e v5 ⟨b5,rfl,g9,K5⟩;go_wp2;go_meet;exact⟨_,rfl,(λ_=>e2.1),K5⟩
 obtain⟨b,rfl,P,s⟩:=hcut;cases b;rotate_left
 . have h2:=P rfl;subst h2;obtain⟨s3,p3,d3,e3,c6,f0,a7⟩:=s.1.tx (i:=3) (by decide);go_wp2_with fail;refine(eC s3 _).mono ?_;rintro e w5 ⟨rfl,rfl⟩;generalize bW s3=mk;go_upto_region 32 with fail;go_cut [251] from 236 to 250 (λv wx=>∃b:Bool,v=.bool b/\HD lo cb sb m I0 U C w (sAa tb off 8 cap) 8 wx)
   case first=>
    cases e1:(mk==2)
    . cases e2:(mk==1)
      . go_wp2;go_meet;exact⟨_,rfl,s⟩
      go_wp2_with fail;refine(Zz s 4 2).mono ?_;rintro e v0 ⟨b0,rfl,-,Y⟩;go_wp2;go_meet;exact⟨_,rfl,Y⟩
    have e2:(mk==1)=false:=by
     have:=eq_of_beq e1;subst this;rfl
    go_wp2_with fail;refine(Zz s 4 3).mono ?_;rintro e v0 ⟨b0,rfl,-,Y⟩;cases b0
    . go_wp2;go_meet;exact⟨_,rfl,Y⟩
    go_wp2;go_meet;exact⟨_,rfl,Y⟩
   obtain⟨b,rfl,F⟩:=hcut;cases b;rotate_left
   . go_wp2;go_ret;exact HD.fail F _
   go_wp2_with fail;have L:=I (F.1.call (dr wc 1));have q:=F.1.ci.box;have z7:=zm (j:=11) q rfl;have zl:=Ag q;obtain⟨N,p1,d1,e1,a9,c7,a2⟩:=F.1.tx (i:=1) (by decide);have g1:(1:Int)<8:=by decide
   obtain⟨s3,p3,d3,e3,c6,f0,a7⟩:=F.1.tx (i:=3) (by decide);have g3:(3:Int)<8:=by decide
   obtain⟨s4,p4,d4,e4,h5,h6,f1⟩:=F.1.tx (i:=4) (by decide);have g4:(4:Int)<8:=by decide
   obtain⟨s6,p6,d6,e6,h8,h9,f2⟩:=F.1.tx (i:=6) (by decide);have g6:(6:Int)<8:=by decide
   refine aE λa ha=>?_;have d:a.tmps.size=335:=by rw[ha];rfl
   have M:=I (dr wc 1);refine aF [23,26] [(0,(pAa cb 0)),(2,(sAa tb off 8 cap))] d (by rw[ha];rfl) ?_;have HA:=I ha;refine De 0 252 (pAa cb 0) rfl d ?_;refine De 1 253 (pAa cb 0) rfl d ?_;refine De 2 254 (pAa cb 0) rfl d ?_;refine De 3 255 (pAa cb 11) rfl d ?_;refine Nk 4 256 255 (U 4) [[], []] rfl d M.1 z7 zl ?_;refine De 5 257 (sAa tb off 8 cap) rfl d ?_;refine Kr 6 258 (pAa tb (off+4)) rfl d ?_ ?_;intro A Z e;obtain⟨f,l,o⟩:=e.at (t:=257) (V:=(sAa tb off 8 cap)) rfl;go_simp;refine De 7 259 (pAa tb (off+4+1)) rfl d ?_;refine Nk 8 260 259 (.string N) [[22,21], []] rfl d M.1 d1 a2 ?_;refine De 9 261 (sAa tb off 8 cap) rfl d ?_;refine Kr 10 262 (pAa tb (off+12)) rfl d ?_ ?_;intro A Z e;obtain⟨f,l,o⟩:=e.at (t:=261) (V:=(sAa tb off 8 cap)) rfl;go_simp;refine De 11 263 (pAa tb (off+12+1)) rfl d ?_;refine Nk 12 264 263 (.string s3) [[22,21], []] rfl d M.1 d3 a7 ?_;refine De 13 265 (sAa tb off 8 cap) rfl d ?_;refine Kr 14 266 (pAa tb (off+16)) rfl d ?_ ?_;intro A Z e;obtain⟨f,l,o⟩:=e.at (t:=265) (V:=(sAa tb off 8 cap)) rfl;go_simp;refine De 15 267 (pAa tb (off+16+2)) rfl d ?_;refine Nk 16 268 267 (vIa p4) [[22,21], []] rfl d M.1 e4 f1 ?_;refine De 17 269 (sAa tb off 8 cap) rfl d ?_;refine Kr 18 270 (pAa tb (off+24)) rfl d ?_ ?_;intro A Z e;obtain⟨f,l,o⟩:=e.at (t:=269) (V:=(sAa tb off 8 cap)) rfl;go_simp;refine De 19 271 (pAa tb (off+24+2)) rfl d ?_;refine Nk 20 272 271 (vIa p6) [[22,21], []] rfl d M.1 e6 f2 ?_;refine Kr 21 273 (.agg #[.string N,.string s3,p4,p6]) rfl d ?_ ?_;intro A Z e;obtain⟨f,l,o⟩:=e.at (t:=260) (V:=(.string N)) rfl;obtain⟨B,D,E⟩:=e.at (t:=264) (V:=(.string s3)) rfl;obtain⟨c9,d7,d8⟩:=e.at (t:=268) (V:=(vIa p4)) rfl;obtain⟨i0,i4,i5⟩:=e.at (t:=272) (V:=(vIa p6)) rfl;go_simp;refine Rz 22 274 rfl d (λA e K hK=>?_);obtain⟨f,l,o⟩:=e.at (t:=273) (V:=(.agg #[.string N,.string s3,p4,p6])) rfl;go_simp;refine hK.1 _ _ (λ_ h=>Ab h (J _ _)) ?_;refine fJ 23 275 (k:=4) (by decide) L.1.ci (by omega) L.1.le (c:= [.string N,.string s3,vIa p4,vIa p6]) ⟨[.string N,.string s3,vIa p4,vIa p6], [],rfl,⟨N,s3,p4,p6,rfl,a9,c6⟩,λh=>aB h (by decide),λ_=>rfl⟩ rfl d 256 274 rfl rfl ?_;intro g gc w6 W hC hD;have HC:=I hC;have HG:=I hD;have k7:=zm (j:=11) W rfl;have y7:=zQ (j:=11) W;have kl:=Ag W;refine De 24 276 (pAa cb 0) rfl d ?_;refine De 25 277 (pAa cb 11) rfl d ?_;refine Ub 26 rfl d (λA e K hK=>?_);obtain⟨f,l,o⟩:=e.at (t:=277) (V:=(pAa cb 11)) rfl;obtain⟨B,D,E⟩:=e.at (t:=275) (V:=(sAa g 0 ((C 4).length+1) gc)) rfl;go_simp;refine hK.1 _ (λh=>aB (by decide) h) ?_;refine Wn ?_;rw[HA.1];simp only[Dj,Act.put,O];go_wp2;go_ret;exact⟨_,_,_,_,rfl,HC.1,L.1.df.trans HG.1⟩
 go_upto_region 35 with fail
 go_cut [278] from 279 to 312 (λv wx=>∃b:Bool,v=.bool b/\(b=true->n=7)/\HD lo cb sb m I0 U C w (sAa tb off n cap) n wx)
 case first=>
  obtain⟨R,p0,c1,c2,-,-,a3⟩:=s.1.tx h0;cases e0:(R.toList== [111,102,102])
  . go_wp2;go_meet;exact⟨_,rfl,(λh=>by cases h),s⟩
  cases e1:((n:Int)==7)
  . go_wp2;go_meet;exact⟨_,rfl,(λh=>by cases h),s⟩
  have e2:=I (show n=7 by simp at e1;omega);have e3:7<n+1:=by have:=e2.1;omega
  go_wp2_with fail;refine(lM s 1).mono ?_;rintro e v0 ⟨b0,rfl,a8,Y⟩;cases b0
  . go_wp2;go_meet;exact⟨_,rfl,(λh=>by cases h),Y⟩
  go_wp2_with fail;refine(Pz Y 2 _).mono ?_;rintro e v1 ⟨b1,rfl,a1,K1⟩;cases b1
  . go_wp2;go_meet;exact⟨_,rfl,(λh=>by cases h),K1⟩
  go_wp2_with fail;refine(Zz K1 3 2).mono ?_;rintro e v2 ⟨b2,rfl,b9,K2⟩;cases b2
  . go_wp2;go_meet;exact⟨_,rfl,(λh=>by cases h),K2⟩
  go_wp2_with fail;refine(Pz K2 4 _).mono ?_;rintro e v3 ⟨b3,rfl,g7,K3⟩;cases b3
  . go_wp2;go_meet;exact⟨_,rfl,(λh=>by cases h),K3⟩
  go_wp2_with fail;refine(Zz K3 5 2).mono ?_;rintro e v4 ⟨b4,rfl,g8,K4⟩;cases b4
  . go_wp2;go_meet;exact⟨_,rfl,(λh=>by cases h),K4⟩
  go_wp2_with fail;refine(Pz K4 6 _).mono ?_;rintro e v5 ⟨b5,rfl,g9,K5⟩;go_wp2;go_meet;exact⟨_,rfl,(λ_=>e2.1),K5⟩
 obtain⟨b,rfl,P,s⟩:=hcut;cases b;rotate_left
 . have h2:=P rfl;subst h2;go_wp2_with fail;have F:=s;have L:=I (F.1.call (dr wc 1));have q:=F.1.ci.box;have z7:=zm (j:=12) q rfl;have zl:=Ag q;obtain⟨N,p1,d1,e1,a9,c7,a2⟩:=F.1.tx (i:=1) (by decide);have g1:(1:Int)<7:=by decide
   obtain⟨s3,p3,d3,e3,c6,f0,a7⟩:=F.1.tx (i:=3) (by decide);have g3:(3:Int)<7:=by decide
   obtain⟨s5,p5,d5,e5,i6,i7,f3⟩:=F.1.tx (i:=5) (by decide);have g5:(5:Int)<7:=by decide
   refine aE λa ha=>?_;have d:a.tmps.size=335:=by rw[ha];rfl
   have M:=I (dr wc 1);refine aF [19,22] [(0,(pAa cb 0)),(2,(sAa tb off 7 cap))] d (by rw[ha];rfl) ?_;have HA:=I ha;refine De 0 313 (pAa cb 0) rfl d ?_;refine De 1 314 (pAa cb 0) rfl d ?_;refine De 2 315 (pAa cb 0) rfl d ?_;refine De 3 316 (pAa cb 12) rfl d ?_;refine Nk 4 317 316 (U 5) [[], []] rfl d M.1 z7 zl ?_;refine De 5 318 (sAa tb off 7 cap) rfl d ?_;refine Kr 6 319 (pAa tb (off+4)) rfl d ?_ ?_;intro A Z e;obtain⟨f,l,o⟩:=e.at (t:=318) (V:=(sAa tb off 7 cap)) rfl;go_simp;refine De 7 320 (pAa tb (off+4+1)) rfl d ?_;refine Nk 8 321 320 (.string N) [[18,17], []] rfl d M.1 d1 a2 ?_;refine De 9 322 (sAa tb off 7 cap) rfl d ?_;refine Kr 10 323 (pAa tb (off+12)) rfl d ?_ ?_;intro A Z e;obtain⟨f,l,o⟩:=e.at (t:=322) (V:=(sAa tb off 7 cap)) rfl;go_simp;refine De 11 324 (pAa tb (off+12+2)) rfl d ?_;refine Nk 12 325 324 (vIa p3) [[18,17], []] rfl d M.1 e3 a7 ?_;refine De 13 326 (sAa tb off 7 cap) rfl d ?_;refine Kr 14 327 (pAa tb (off+20)) rfl d ?_ ?_;intro A Z e;obtain⟨f,l,o⟩:=e.at (t:=326) (V:=(sAa tb off 7 cap)) rfl;go_simp;refine De 15 328 (pAa tb (off+20+2)) rfl d ?_;refine Nk 16 329 328 (vIa p5) [[18,17], []] rfl d M.1 e5 f3 ?_;refine Kr 17 330 (.agg #[.string N,p3,p5]) rfl d ?_ ?_;intro A Z e;obtain⟨f,l,o⟩:=e.at (t:=321) (V:=(.string N)) rfl;obtain⟨B,D,E⟩:=e.at (t:=325) (V:=(vIa p3)) rfl;obtain⟨c9,d7,d8⟩:=e.at (t:=329) (V:=(vIa p5)) rfl;go_simp;refine Rz 18 331 rfl d (λA e K hK=>?_);obtain⟨f,l,o⟩:=e.at (t:=330) (V:=(.agg #[.string N,p3,p5])) rfl;go_simp;refine hK.1 _ _ (λ_ h=>Ab h (J _ _)) ?_;refine fJ 19 332 (k:=5) (by decide) L.1.ci (by omega) L.1.le (c:= [.string N,vIa p3,vIa p5]) ⟨[.string N,vIa p3,vIa p5], [],rfl,⟨N,p3,p5,rfl,a9⟩,λh=>aB h (by decide),λ_=>rfl⟩ rfl d 317 331 rfl rfl ?_;intro g gc w6 W hC hD;have HC:=I hC;have HG:=I hD;have k7:=zm (j:=12) W rfl;have y7:=zQ (j:=12) W;have kl:=Ag W;refine De 20 333 (pAa cb 0) rfl d ?_;refine De 21 334 (pAa cb 12) rfl d ?_;refine Ub 22 rfl d (λA e K hK=>?_);obtain⟨f,l,o⟩:=e.at (t:=334) (V:=(pAa cb 12)) rfl;obtain⟨B,D,E⟩:=e.at (t:=332) (V:=(sAa g 0 ((C 5).length+1) gc)) rfl;go_simp;refine hK.1 _ (λh=>aB (by decide) h) ?_;refine Wn ?_;rw[HA.1];simp only[Dj,Act.put,O];go_wp2;go_ret;exact⟨_,_,_,_,rfl,HC.1,L.1.df.trans HG.1⟩
 go_wp2;go_ret;exact HD.fail s _
end
end Go.Proofs.YtelojoopofolpaaGreat
