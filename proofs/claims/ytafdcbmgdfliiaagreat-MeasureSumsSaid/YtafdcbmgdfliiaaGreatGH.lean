/- a part of the proof -/
import Derived.Test.YtafdcbmgdfliiaaGreatG5
import Derived.Test.YtafdcbmgdfliiaaGreatGF
set_option linter.all false
set_option maxRecDepth 100000
set_option maxHeartbeats 3000000
namespace Go.Proofs.YtafdcbmgdfliiaaGreat
open Go.RowKit Go.Sort Go.Proofs.Tryz
variable {k:Nat}{s:BA}{a:LB}
def Qx(l:List zB)(s:BA):Int:=match fi l s with
 |some i=>(i:Int)
 |none=>-1
theorem qG{X:Type}(nm:X->BA)(s:BA):∀(k:Nat) (l:List X),Ex nm s k l=match l.findIdx? (λx=>decide (nm x=s)) with|some i=>((k+i:Nat):Int)|none=>-1
 |k, []=>rfl
 |k,x::l=>by
  rw[Ex,List.findIdx?_cons];by_cases h:nm x=s
  . simp[h]
  rw[iN h,qG nm s (k+1) l];grind
theorem Xx(l:List zB)(s:BA):Ex zB.name s 0 l=Qx l s:=by
 grind[qG,Qx,fi]
def uP(l:List zB)(s:BA)(a:Ae)(cap:Nat)(B:Nat)(w:Wd)(p:B<=w.heap.size)(g:Me B w a l):CE 109 #[CU a l.length cap,B_ s] w (Qx l s):=by
 have q:=g.1;have j:=I g;delta CE;go_in;go_wp2_with fail;go_loop [5] (λi=>∃k:Nat,k<=l.length/\i=Bn k/\Af (Qx l s=Ex zB.name s k (l.drop k))) (λi=>l.length-(intOf i).toNat);exact⟨0,Bg _,rfl,I (Xx l s).symm⟩;obtain⟨k,r,rfl,h⟩:=hrel;by_cases c:k<l.length
 . obtain⟨b,m,rfl,t,d⟩:=j.1.cells (by omega);have u:=(d k c).1;have n:b<w.heap.size:=by omega
   by_cases e:(Ak l k).name=s
   . have o:((Ak l k).name.toList==s.toList)=true:=by rw[zV];simpa using e
     have f:=I (h.1.trans (by rw[bJ l k c,Ex,iP e]));go_wp2;go_ret;exact⟨ze f.1.symm,rfl⟩
   have o:((Ak l k).name.toList==s.toList)=false:=by rw[zV];simpa using e
   have f:=I (h.1.trans (by rw[bJ l k c,Ex,iN e]));go_wp2;go_round;exact⟨k+1,by omega,by go_num,f⟩;simp[intOf];omega
 obtain rfl:k=l.length:=by omega
 have f:=I (h.1.trans (by rw[Gk,Ex]));go_wp2;go_ret;exact⟨ze f.1.symm,rfl⟩
def zK(l:LI)(k:Int)(a:Ae)(cap:Nat)(w:Wd)(p:l.length<=140737488355328)(h:zW w a l):CE 236 #[CU a l.length cap,k] w (.bool (Ck l k)):=by
 have m:=I h;delta CE;go_in;go_wp2_with fail;go_loop [5] (λi=>∃j:Nat,j<=l.length/\i=.int .i64 j/\Af (Ck l k=Ck (l.drop j) k)) (λi=>l.length-(intOf i).toNat);exact⟨0,Bg _,rfl,I rfl⟩;obtain⟨j,q,rfl,c⟩:=hrel;by_cases d:j<l.length
 . obtain⟨b,n,rfl,r,f⟩:=m.1.cells (by omega);have s:=f j d;cases e:(Am l j==k)
   . have g:=I (show Ck l k=false by rw[c.1,Zn l j d,Ck,e];rfl);have o:(Am l j !=k)=true:=by simpa using e
     go_wp2;go_ret;exact⟨zz g.1.symm,rfl⟩
   have g:=I (show Ck l k=Ck (l.drop (j+1)) k by rw[c.1,Zn l j d,Ck,e];rfl);have o:(Am l j !=k)=false:=by simpa using e
   go_wp2;go_round;exact⟨j+1,by omega,by go_num,g⟩;simp[intOf];omega
 obtain rfl:j=l.length:=by omega
 have g:=I (show Ck l k=true by rw[c.1,Gk,Ck]);go_wp2;go_ret;exact⟨zz g.1.symm,rfl⟩
def zF(x y k:Int):Ck [x,y] k=((x==k)&&(y==k)):=by simp[Ck]
theorem GF{o:Int}{t:LI}(c:o=7\/o=8\/o=9\/o=12\/o=13)(d:t≠ []):Ch o t=if Ck t 1=true then 1 else if Ck t 2=true then 2 else 0:=by
 obtain⟨x,r,rfl⟩:∃x r,t=x::r:=by cases t<;>simp_all
 have h:Ch o (x::r)=if(Fs x&&Ck (x::r) x)=true then x else 0:=by rcases c with rfl|rfl|rfl|rfl|rfl <;> rfl
 grind[Fs,Ck]
theorem FG(o x y:Int)(d:o=16\/o=17){p q r s:Bool}(f:(x==1)=p)(i:(x==2)=q)(j:(y==1)=r)(k:(y==2)=s):Ch o [x,y]=if((p&&r) || (q&&s))=true then 4 else 0:=by
 have h:Ch o [x,y]=if(Fs x&&(x==y))=true then 4 else 0:=by rcases d with rfl|rfl <;> rfl
 grind[Fs]
def BY(o:Int)(n:Nat):Prop:=1<=o/\o<=22/\o≠6/\zL o n=true
def Oc(o:Int)(t:LI)(a:Ae)(cap:Nat)(w:Wd):Prop:=Calls prog 170 #[o,.slice a t.length cap] w λe w'=>e=.returned (Ch o t)/\Below w.heap.size w w'
def XO(o:Int)(c:o=1\/o=2\/o=3\/o=4\/o=5)(t:LI)(a:Ae)(cap:Nat)(w:Wd)(d:t.length<=2^47)(b:zW w a t):Oc o t a cap w:=by
 have e:=I b;rcases c with rfl|rfl|rfl|rfl|rfl
 all_goals
  go_enter func170,ntmps170
  go_wp2;go_ret;exact⟨ze (rfl),An _ _⟩
def XR(o:Int)(c:o=7\/o=8\/o=9\/o=12\/o=13)(t:LI)(a:Ae)(cap:Nat)(w:Wd)(f:t.length<=2^47)(d:zW w a t)(b:t≠ []):Oc o t a cap w:=by
 have g:=I d;have h:=I (GF c b);rcases c with rfl|rfl|rfl|rfl|rfl
 all_goals
  cases i:Ck t 1 <;> cases j:Ck t 2
 all_goals
  go_enter func170,ntmps170
  go_wp2_with (go_at_call 236;refine cb (zK _ _ _ _ _ f g.1) ?_)
  go_ret;exact⟨ze (by rw[h.1,i,j];rfl),An _ _⟩
def XP(o:Int)(m:o=10\/o=11)(t:LI)(a:Ae)(cap:Nat)(w:Wd)(n:t.length<=2^47)(j:zW w a t)(k:t.length=2):Oc o t a cap w:=by
 have l:=I j;clear j;obtain⟨x,y,rfl⟩:∃x y,t= [x,y]:=by
  match t,k with
  |[x,y],_=>exact⟨x,y,rfl⟩
 clear k;obtain⟨b,d,rfl,r,c⟩:=l.1.cells (by simp);have s:w.cell? (aD b d)=some (Bn x):=c 0 (by simp);have u:w.cell? (aD b (d+1))=some (Bn y):=c 1 (by simp);clear c;cases f:(x==1) <;> cases g:(x==2) <;> cases h:(y==1) <;> cases i:(y==2)
 all_goals try (exfalso;simp only[beq_iff_eq]at f g h i;omega)
 all_goals
  have p:=zF x y 1;have q:=zF x y 2;simp only[f,g,h,i,Bool.and_true,Bool.and_false,Bool.and_self]at p q;rcases m with rfl|rfl
 all_goals
  go_enter func170,ntmps170
  go_wp2_with (go_at_call 236;refine(zK _ _ _ _ _ n l.1).mono ?_;rintro e v ⟨rfl,rfl⟩)
  go_ret;exact⟨ze (by simp[Ch,aZ,Gd,Fs,Am,Ck,f,g,h,i]),An _ _⟩
def XQ(o:Int)(j:o=16\/o=17)(t:LI)(a:Ae)(cap:Nat)(w:Wd)(n:t.length<=2^47)(k:zW w a t)(l:t.length=2):Oc o t a cap w:=by
 have m:=I k;obtain⟨x,y,rfl⟩:∃x y,t= [x,y]:=by
  match t,l with
  |[x,y],_=>exact⟨x,y,rfl⟩
 obtain⟨b,d,rfl,s,c⟩:=m.1.cells (by simp);have u:w.cell? (aD b d)=some (Bn x):=c 0 (by simp);have v:w.cell? (aD b (d+1))=some (Bn y):=c 1 (by simp);cases f:(x==1) <;> cases g:(x==2) <;> cases h:(y==1) <;> cases i:(y==2)
 all_goals try (exfalso;simp only[beq_iff_eq]at f g h i;omega)
 all_goals
  have p:=zF x y 1;have q:=zF x y 2;simp only[f,g,h,i,Bool.and_true,Bool.and_false,Bool.and_self]at p q;have r:=I (FG o x y j f g h i);rcases j with rfl|rfl
 all_goals
  go_enter func170,ntmps170
  go_wp2_with (go_at_call 236;refine(zK _ _ _ _ _ n m.1).mono ?_;rintro e z ⟨rfl,rfl⟩)
  go_ret;exact⟨ze (by rw[r.1];rfl),An _ _⟩
def XD(o:Int)(h:o=18)(t:LI)(a:Ae)(cap:Nat)(w:Wd)(j:t.length<=2^47)(f:zW w a t)(g:t.length=2):Oc o t a cap w:=by
 have i:=I f;clear f;obtain⟨x,y,rfl⟩:∃x y,t= [x,y]:=by
  match t,g with
  |[x,y],_=>exact⟨x,y,rfl⟩
 clear g;obtain⟨b,d,rfl,k,c⟩:=i.1.cells (by simp);have l:w.cell? (aD b d)=some (Bn x):=c 0 (by simp);have m:w.cell? (aD b (d+1))=some (Bn y):=c 1 (by simp);clear c;subst h;cases e:(x==y)
 all_goals
  go_enter func170,ntmps170
  go_wp2;go_quiet (fail)
  go_wp2;go_ret;exact⟨ze (by simp only[Ch,Gd,Am,List.getD_cons_zero,List.getD_cons_succ,e];rfl),dN (An _ _) _⟩
def XC(o:Int)(g:o=14)(t:LI)(a:Ae)(cap:Nat)(w:Wd)(k:t.length<=2^47)(e:zW w a t)(f:t.length=3):Oc o t a cap w:=by
 have h:=I e;clear e;obtain⟨x,y,z,rfl⟩:∃x y z,t= [x,y,z]:=by
  match t,f with
  |[x,y,z],_=>exact⟨x,y,z,rfl⟩
 clear f;subst g;obtain⟨b,d,rfl,l,c⟩:=h.1.cells (by simp);have m:w.cell? (aD b d)=some (Bn x):=c 0 (by simp);have n:w.cell? (aD b (d+1))=some (Bn y):=c 1 (by simp);have p:w.cell? (aD b (d+2))=some (Bn z):=c 2 (by simp);clear c;cases i:(x==4) <;> cases j:(y==z)
 all_goals
  go_enter func170,ntmps170
  go_wp2;go_quiet (fail)
  go_wp2;go_ret;exact⟨ze (by simp only[Ch,Am,List.getD_cons_zero,List.getD_cons_succ,i,j];rfl),dN (An _ _) _⟩
def XS(o:Int)(c:o=15\/o=19\/o=20\/o=21\/o=22)(t:LI)(a:Ae)(cap:Nat)(w:Wd)(d:t.length<=2^47)(b:zW w a t):Oc o t a cap w:=by
 have f:=I b;rcases c with rfl|rfl|rfl|rfl|rfl
 all_goals
  cases g:Ck t 3 <;> cases h:Ck t 4
 all_goals
  go_enter func170,ntmps170
  go_wp2_with (go_at_call 236;refine cb (zK _ _ _ _ _ d f.1) ?_)
  go_ret;exact⟨ze (by simp only[Ch,Gd,h,g];rfl),An _ _⟩
theorem JX(o:Int)(t:LI)(a:Ae)(cap:Nat)(w:Wd)(b:t.length<=2^47)(c:zW w a t)(f:BY o t.length):CV 170 #[o,CU a t.length cap] w (Ch o t):=by
 obtain⟨g,i,j,d⟩:=f;rcases(by omega:(o=1\/o=2\/o=3\/o=4\/o=5)\/(o=7\/o=8\/o=9\/o=12\/o=13)\/(o=10\/o=11)\/(o=16\/o=17)\/o=18\/o=14\/(o=15\/o=19\/o=20\/o=21\/o=22)) with h|h|h|h|h|h|h;exact XO o h t a cap w b c;exact XR o h t a cap w b c (by rintro rfl;rcases h with rfl|rfl|rfl|rfl|rfl <;> simp[zL]at d);exact XP o h t a cap w b c (by rcases h with rfl|rfl <;> simp[zL]at d <;> omega);exact XQ o h t a cap w b c (by rcases h with rfl|rfl <;> simp[zL]at d <;> omega);exact XD o h t a cap w b c (by subst h;grind[zL]);exact XC o h t a cap w b c (by grind[zL]);exact XS o h t a cap w b c
def sU(w:Wd):Calls prog 237 #[] w λe w'=>(∃cap,e=.returned (Kx w.heap.size 0 11 cap))/\w.heap.size<w'.heap.size/\Gy w' w.heap.size 0 zI/\Below w.heap.size w w':=by
 go_in;go_wp2;go_ret;exact⟨⟨_,rfl⟩,by simp,Gy.new w zI _,J _ _⟩
def FV(w:Wd):Calls prog 171 #[Bn 1] w λe a=>(∃cap,e=.returned (Kx w.heap.size 0 11 cap))/\w.heap.size<a.heap.size/\Gy a w.heap.size 0 zI/\Bw w a:=by
 go_in;go_wp2_with fail;refine(sU w).mono ?_;rintro e a ⟨⟨g,rfl⟩,c,b,d⟩;have f:=I b;go_wp2;go_ret;exact⟨⟨_,rfl⟩,c,f.1,d⟩
def Z_(w:Wd):Calls prog 171 #[Bn 3] w λe w'=>(∃cap,e=.returned (Kx w.heap.size 0 7 cap))/\w.heap.size<w'.heap.size/\Gy w' w.heap.size 0 Uh/\Bw w w':=by
 go_in;go_wp2;go_ret;exact⟨⟨_,rfl⟩,by simp,Gy.new w Uh _,J _ _⟩
def FU(w:Wd):CE 171 #[Bn 0] w Ls:=by
 delta CE;go_in;go_wp2;go_ret;exact⟨rfl,rfl⟩
def FR(w:Wd):Calls prog 171 #[Bn 2] w λe w'=>∃v,e=.returned v/\w'.ownsRow w.heap.size 9 1 v 25 (Rb.map Value.string)/\Bw w w':=by
 have⟨T,U,E,F,G⟩:=info_parts yG;go_in;go_wp2_with fail;have B:=I (show World.ownsRow (w.alloc (.cells (Ml.map Value.string).toArray 9)) w.heap.size 9 1 (Kx w.heap.size 0 3 3) 3 ((Lq 0).map Value.string) from by
  refine⟨rfl,.inr ⟨w.heap.size,3,(Ml.map Value.string).toArray,rfl,Bv _,?_,Bv _,by decide,rfl,rfl⟩⟩;show(w.heap.push _)[w.heap.size]?=_
  simp[Array.getElem?_push])
 have C:=I (J w (.cells (Ml.map Value.string).toArray 9));have H:(w.alloc (.cells (Ml.map Value.string).toArray 9)).heap.size=w.heap.size+1:=by simp
 have Q:=sU (w.alloc (.cells (Ml.map Value.string).toArray 9));rw[H]at Q;refine Q.mono ?_;rintro e A ⟨⟨V,rfl⟩,d,k,K⟩;have L:=I k;have l:Below (w.alloc (.cells (Ml.map Value.string).toArray 9)).heap.size (w.alloc (.cells (Ml.map Value.string).toArray 9)) A:=by rw[H];exact K
 have M:=I (Ab C.1 l);have f:=I (Sh B.1 C.1 l);rw[<-oM 0]at f;have B:=f;go_wp2_with fail;go_loopw [3,5] (λout i wr=>∃(j:Nat) (v:Value),j<=11/\i=Bn j/\out=v/\Af (wr.ownsRow w.heap.size 9 1 v (Eg 0 j).length ((Eg 0 j).map Value.string))/\Af (Gy wr (w.heap.size+1) 0 zI)/\w.heap.size+1<wr.heap.size/\Af (Bw w wr)) (λ_ i _=>11-(intOf i).toNat);exact⟨0,_,Bg _,rfl,rfl,B,L,d,M⟩;obtain⟨j,v,R,rfl,rfl,g,k,d,z⟩:=hrel;by_cases h:j<11
 . have c1:=k.1 j h;rw[Nat.zero_add]at c1;have N:(j:Int)<11:=by omega
   have m:=jZ g.1 (gW 0 j) (k.1 0 (by decide)) (by simp[Bl,zI]);have b:=I (pN 0 j (by decide) R);have n:(Bl zI j).size<=8:=nX j h;have o:((⟨#[98,101,102,111,114,101,46]⟩:BA).size)<=7:=by decide
   have p:(((⟨#[98,101,102,111,114,101,46]⟩:BA).size:Nat):Int)+((Bl zI j).size:Int)<=9223372036854775807:=by omega
   have q:(⟨#[98,101,102,111,114,101,46]⟩:BA).size+(Bl zI j).size<=9223372036854775807:=by omega
   have r:(Bl zI j).size<=9223372036854775800:=by omega
   have s:((Bl zI j).size:Int)<=8:=by omega
   go_wp2_with (at_builtin;refine wpList_append_own _ rfl _ _ 36 rfl w.heap.size 9 T (B_ ByteArray.empty) 1 16 underlying36 U E F G rfl (by decide) _ _ _ rfl (g.1.alloc _) (aD wr.heap.size 0) 1 1 [B_ (⟨#[98,101,102,111,114,101,46]⟩++Bl zI j)] rfl rfl ?c1 ?c2 ?c3 ?c4 ?c5 ?_)
   case c1=>exact Hh wr [B_ (⟨#[98,101,102,111,114,101,46]⟩++Bl zI j)] 9
   case c2=>intro u P;simp at P;subst P;rfl
   case c3=>rw[b.1];unfold maxLen;omega
   case c4=>rw[b.1];omega
   case c5=>have:=z.1.size;simp;omega
   intro S A c a _;have t:=I (Ld (e':=9) z.1 rfl g.1 a);have x:=I ((k.1.below d (J _ _)).grown (by simp;omega) a m);have D:wr.heap.size<=A.heap.size:=Bf (by simp) a.size;have y:w.heap.size+1<A.heap.size:=by omega
   have f:=I (show A.ownsRow w.heap.size 9 1 S (Eg 0 (j+1)).length ((Eg 0 (j+1)).map Value.string) by
    rw[oU 0 j h,Gh,Ii];exact c)
   go_wp2;go_roundw;(try((repeat apply eX);refine⟨?_,rfl⟩));exact⟨j+1,_,by omega,by go_num,rfl,f,x,y,t⟩;simp[intOf];omega
 obtain rfl:j=11:=by omega
 rw[pO 0 (by decide)]at g;rw[<-oM 1]at g;have B:=g;have L:=k;have M:=z;go_wp2_with fail;go_loopw [3,6] (λout i wr=>∃(j:Nat) (v:Value),j<=11/\i=Bn j/\out=v/\Af (wr.ownsRow w.heap.size 9 1 v (Eg 1 j).length ((Eg 1 j).map Value.string))/\Af (Gy wr (w.heap.size+1) 0 zI)/\w.heap.size+1<wr.heap.size/\Af (Bw w wr)) (λ_ i _=>11-(intOf i).toNat);exact⟨0,_,Bg _,rfl,rfl,B,L,d,M⟩;obtain⟨j,v,R,rfl,rfl,g,k,d,z⟩:=hrel;by_cases h:j<11
 . have c1:=k.1 j h;rw[Nat.zero_add]at c1;have N:(j:Int)<11:=by omega
   have m:=jZ g.1 (gW 1 j) (k.1 0 (by decide)) (by simp[Bl,zI]);have b:=I (pN 1 j (by decide) R);have n:(Bl zI j).size<=8:=nX j h;have o:((⟨#[97,102,116,101,114,46]⟩:BA).size)<=7:=by decide
   have p:(((⟨#[97,102,116,101,114,46]⟩:BA).size:Nat):Int)+((Bl zI j).size:Int)<=9223372036854775807:=by omega
   have q:(⟨#[97,102,116,101,114,46]⟩:BA).size+(Bl zI j).size<=9223372036854775807:=by omega
   have r:(Bl zI j).size<=9223372036854775800:=by omega
   have s:((Bl zI j).size:Int)<=8:=by omega
   go_wp2_with (at_builtin;refine wpList_append_own _ rfl _ _ 36 rfl w.heap.size 9 T (B_ ByteArray.empty) 1 16 underlying36 U E F G rfl (by decide) _ _ _ rfl (g.1.alloc _) (aD wr.heap.size 0) 1 1 [B_ (⟨#[97,102,116,101,114,46]⟩++Bl zI j)] rfl rfl ?c1 ?c2 ?c3 ?c4 ?c5 ?_)
   case c1=>exact Hh wr [B_ (⟨#[97,102,116,101,114,46]⟩++Bl zI j)] 9
   case c2=>intro u P;simp at P;subst P;rfl
   case c3=>rw[b.1];unfold maxLen;omega
   case c4=>rw[b.1];omega
   case c5=>have:=z.1.size;simp;omega
   intro S A c a _;have t:=I (Ld (e':=9) z.1 rfl g.1 a);have x:=I ((k.1.below d (J _ _)).grown (by simp;omega) a m);have D:wr.heap.size<=A.heap.size:=Bf (by simp) a.size;have y:w.heap.size+1<A.heap.size:=by omega
   have f:=I (show A.ownsRow w.heap.size 9 1 S (Eg 1 (j+1)).length ((Eg 1 (j+1)).map Value.string) by
    rw[oU 1 j h,Gh,Ii];exact c)
   go_wp2;go_roundw;(try((repeat apply eX);refine⟨?_,rfl⟩));exact⟨j+1,_,by omega,by go_num,rfl,f,x,y,t⟩;simp[intOf];omega
 obtain rfl:j=11:=by omega
 rw[pO 1 (by decide)]at g;go_wp2;go_ret;exact⟨_,rfl,g.1,z.1⟩
def sN(k:Nat)(h:k<4)(w:Wd):Calls prog 171 #[k] w (mX k w):=by
 obtain rfl|rfl|rfl|rfl:k=0\/k=1\/k=2\/k=3:=by omega
 refine cb (FU w) ?_;exact⟨none,0,rfl,.inl rfl,An _ _⟩;refine(FV w).mono ?_;rintro e g ⟨⟨b,rfl⟩,c,d,f⟩;exact⟨_,b,rfl,.inr ⟨_,0,rfl,c,d⟩,f⟩;refine(FR w).mono ?_;rintro e g ⟨v,rfl,c,d⟩;obtain⟨a,b,rfl,f,_⟩:=Lz.of_own (l:=Rb) c (by decide);exact⟨a,b,rfl,f,d⟩;refine(Z_ w).mono ?_;rintro e g ⟨⟨b,rfl⟩,c,d,f⟩;exact⟨_,b,rfl,.inr ⟨_,0,rfl,c,d⟩,f⟩
def dD:List (List UInt8):= [[108,101,103,115], [104,101,97,100,115], [116,121,112,101,115], [110,105,103,104,116,115], [100,117,116,105,101,115], [100,97,121,115]]
def dC:List (List UInt8):= [[115,116,97,114,116], [101,110,100]]
def fW(s:BA):Int:=if zN dD s=true then 1 else if zN dC s=true then 3 else if(s.toList== [104,111,109,101])=true then 4 else 2
def Qq(s:BA):Bool:=decide (7<s.size)&&((s.extract 0 7).toList== [98,101,102,111,114,101,46])
def Uu(s:BA):Bool:=decide (6<s.size)&&((s.extract 0 6).toList== [97,102,116,101,114,46])
theorem RO:((List.range 4).all λk=>(List.range (zk k).length).all λi=>(Cl k (Bl (zk k) i)==fW (Bl (zk k) i)) || (k==2&&(Qq (Bl (zk k) i) || Uu (Bl (zk k) i))))=true:=by decide+kernel
theorem IJ(a:k<4){i:Nat}(b:i<(zk k).length)(c:k=2->Qq (Bl (zk k) i)=false/\Uu (Bl (zk k) i)=false):Cl k (Bl (zk k) i)=fW (Bl (zk k) i):=by
 grind[RO]
def Pw(n:Int):Int:=if n=0 then 6 else 0
theorem Lz.none_wi{l:LB}(h:∀m,m<l.length->Bl l m≠s):wi l s=none:=by
 grind[wi,List.mem_iff_getElem,Bl]
theorem tM(k:Nat)(c:k<4)(s:BA)(r:k=2->Qq s=false/\Uu s=false)(w:Wd):CV 106 #[k,B_ s] w (.tuple #[(Cl k s),(Pw (Cl k s))]):=by
 have C:=I r;by_cases x:k=2;have t:((k:Int)==2)=true:=by simp;omega
 have⟨d,f⟩:=r x;rw[Qq]at d;rw[Uu]at f;by_cases D:7<s.size;have L:((s.extract 0 7).toList== [98,101,102,111,114,101,46])=false:=by simpa[D] using d
 have y:6<s.size:=by omega
 rotate_left;by_cases y:6<s.size;rotate_left 2;have t:((k:Int)==2)=false:=by simp;omega
 all_goals
  try have M:((s.extract 0 6).toList== [97,102,116,101,114,46])=false:=by simpa[y] using f
  try clear d f
 all_goals
  clear r x;delta CV;go_in
  go_wp2_with fail;have E:Calls prog 171 #[k] w (mX k w):=sN k c w;refine E.mono ?_;rintro e N ⟨a,F,rfl,z,l⟩;have G:=I z;have A:=I l;have B:=dZ k;clear z l;go_wp2_with fail;go_loop [7] (λi=>∃j:Nat,j<=(zk k).length/\i=Bn j/\Af (∀m,m<j->Bl (zk k) m≠s)) (λi=>(zk k).length-(intOf i).toNat)
  case atStart=>exact⟨0,Bg _,rfl,I (λm hm=>aB hm (Nat.not_lt_zero _))⟩
  obtain⟨j,P,rfl,g⟩:=hrel;by_cases n:j<(zk k).length
  . obtain⟨b,H,rfl,Q,o⟩:=G.1.cells (by omega);have R:=o j n;clear o;cases e:((Bl (zk k) j).toList==s.toList)
    . have p:=I (show ∀m,m<j+1->Bl (zk k) m≠s from λm hm=>by
       by_cases t:m=j
       . subst t;rw[zV]at e;simpa using e
       exact g.1 m (by omega))
      go_wp2;go_round
      case rel=>exact⟨j+1,by omega,by go_num,p⟩
      case measure=>simp[intOf];omega
    have u:Bl (zk k) j=s:=by rw[zV]at e;simpa using e
    have q:Cl k s=fW s:=by rw[<-u];exact IJ c n (by intro h;rw[u];exact C.1 h)
    clear u g;cases S:(s.toList== [108,101,103,115]);cases T:(s.toList== [104,101,97,100,115]);cases U:(s.toList== [116,121,112,101,115]);cases V:(s.toList== [110,105,103,104,116,115]);cases W:(s.toList== [100,117,116,105,101,115]);cases X:(s.toList== [100,97,121,115]);cases Y:(s.toList== [115,116,97,114,116]);cases Z:(s.toList== [101,110,100]);cases n8:(s.toList== [104,111,109,101])
    all_goals
     simp only[fW,zN,dD,dC,List.any_cons,List.any_nil, *,Bool.true_or,Bool.or_true,Bool.false_or,Bool.or_false,Mn,if_true,if_false]at q;replace q:=I q;go_wp2;go_ret2;exact⟨by rw[q.1];rfl,A.1⟩
  obtain rfl:j=(zk k).length:=by omega
  have K:=I (mQ c (Lz.none_wi g.1));have v:Af (Cl k s=0):=I K.1;go_wp2;go_ret2;exact⟨by rw[v.1];rfl,A.1⟩
def nA(s:BA)(w:Wd):CV 106 #[Bn 1,B_ s] w (.tuple #[(Cl 1 s),(Pw (Cl 1 s))]):=tM 1 (by decide) s (λh=>aB h (by decide)) w
theorem OD(h:Qq s=true):Cl 2 s=Cl 1 (s.extract 7 s.size):=by
 rw[Qq,Em]at h;have d:7<s.size:=by simpa using h.1
 have b:Dt s Kn=true:=by
  rw[Dt,Em];exact⟨decide_eq_true (by show 7<=s.size;omega),by rw[show Kn.toList= [98,101,102,111,114,101,46] from Lib.toList_data _];exact h.2⟩
 have a:∀L:List UInt8,L.take 1≠ [98]->(s.toList==L)=false:=λL hL=>by
  rw[beq_eq_false_iff_ne];intro e;have c:=aW b;apply hL;rw[<-e,c,Lib.toList_data];rfl
 show Jq s=Oy _;simp_all[Jq]
theorem OE(j:Qq s=false)(h:Uu s=true):Cl 2 s=Cl 1 (s.extract 6 s.size):=by
 rw[Uu,Em]at h;have k:6<s.size:=by simpa using h.1
 have a:Dt s Mt=true:=by
  rw[Dt,Em];exact⟨decide_eq_true (by show 6<=s.size;omega),by rw[show Mt.toList= [97,102,116,101,114,46] from Lib.toList_data _];exact h.2⟩
 have b:∀L:List UInt8,L.take 1≠ [97]->(s.toList==L)=false:=λL hL=>by
  rw[beq_eq_false_iff_ne];intro e;have c:=aW a;apply hL;rw[<-e,c,Lib.toList_data];rfl
 have d:Dt s Kn=false:=by
  cases f:Dt s Kn;rfl;have i:=aW a;have c:=aW f;have:(s.toList).take 1= [97]:=by rw[i,Lib.toList_data];rfl
  have g:(s.toList).take 1= [98]:=by rw[c,Lib.toList_data];rfl
  rw[this]at g;exact aB g (by decide)
 show Jq s=Oy _;simp_all[Jq]
theorem tT(s:BA)(w:Wd)(i:s.size<=2^47)(h:Qq s=true\/(Qq s=false/\Uu s=true)):CV 106 #[Bn 2,B_ s] w (.tuple #[(Cl 2 s),(Pw (Cl 2 s))]):=by
 rcases h with h|⟨h,b⟩
 . have c:=I (OD h);rw[Qq,Em]at h;have d:7<s.size:=by simpa using h.1
   have g:=h.2;delta CV;go_in;go_wp2_with fail;refine ca (nA _ _) λf a=>?_;go_wp2;go_ret2;exact⟨by rw[c.1];rfl,a⟩
 have c:=I (OE h b);rw[Qq]at h;rw[Uu,Em]at b;have j:6<s.size:=by simpa using b.1
 have k:=b.2;by_cases d:7<s.size
 . have g:((s.extract 0 7).toList== [98,101,102,111,114,101,46])=false:=by simpa[d] using h
   delta CV;go_in;go_wp2_with fail;refine ca (nA _ _) λf a=>?_;go_wp2;go_ret2;exact⟨by rw[c.1];rfl,a⟩
 delta CV;go_in;go_wp2_with fail;refine ca (nA _ _) λf a=>?_;go_wp2;go_ret2;exact⟨by rw[c.1];rfl,a⟩
theorem mZ(k:Nat)(c:k<4)(s:BA)(w:Wd)(b:s.size<=2^47):CV 106 #[k,B_ s] w (.tuple #[(Cl k s),(Pw (Cl k s))]):=by
 grind[tM,tT]
def NM(s:BA)(w:Wd)(q:s.size<=2^47):CV 206 #[B_ s] w (.bool (Re s)):=by
 delta CV;go_in;go_wp2_with fail;go_loopw [3] (λi wr=>∃j:Nat,1<=j/\j<=4/\i=Bn j/\Af (∀m:Nat,1<=m->m<j->Cl m s=0)/\Af (Bw w wr)) (λi _=>4-(intOf i).toNat);exact⟨1,by omega,by omega,rfl,I (λm p h2=>by omega),I (An _ _)⟩;obtain⟨j,p,y,rfl,a,b⟩:=hrel;by_cases h:j<=3
 . have c:(j:Int)<=3:=by omega
   go_wp2_with fail;refine ca (mZ j (by omega) s wr q) λz d=>?_;have f:=I (Ab b.1 d);by_cases e:Cl j s=0
   . have g:=I (show ∀m:Nat,1<=m->m<j+1->Cl m s=0 from λm g1 g2=>by
      by_cases r:m=j
      . subst r;exact e
      exact a.1 m g1 (by omega))
     have t:(Pw (Cl j s)==0)=false:=by rw[e];rfl
     go_wp2;go_roundw;exact⟨j+1,by omega,by omega,by go_num,g,f⟩;simp[intOf];omega
   have k:=I (xE p h e);have t:(Pw (Cl j s)==0)=true:=by rw[Pw,iN e];rfl
   go_wp2;go_ret;exact⟨zz k.1.symm,f.1⟩
 have c:¬ (j:Int)<=3:=by omega
 have k:=I (show Re s=false by
  have u:=a.1 1 (by omega) (by omega);have v:=a.1 2 (by omega) (by omega);have x:=a.1 3 (by omega) (by omega);have l:Cl 1 s=0:=u;have n:Cl 2 s=0:=v;have o:Cl 3 s=0:=x;unfold Re;rw[l,n,o];rfl)
 go_wp2;go_ret;exact⟨zz k.1.symm,b.1⟩
theorem gR{X:Type}(nm:X->BA)(d:X)(l:List X)(i:Nat)(s:BA)(f:i<=l.length)(h:∀m,m<i->nm (l.getD m d)≠s):Ao ((l.take i).map nm) s=false:=by
 grind[Ao,List.mem_iff_getElem]
theorem gJ{X:Type}(nm:X->BA)(d:X)(l:List X)(i j:Nat)(s:BA)(a:j<i)(b:i<=l.length)(h:nm (l.getD j d)=s):Ao ((l.take i).map nm) s=true:=by
 grind[Ao,List.mem_iff_getElem]
theorem KM(l:List It)(i:Nat)(a:Int)(s:BA)(e:i<=l.length)(h:∀m,m<i->¬ ((Ah l m).sc=a/\(Ah l m).name=s)):Ge ((l.take i).map λr=>(r.sc,r.name)) a s=false:=by
 grind[Ge,List.mem_iff_getElem,Ah]
theorem IL(l:List It)(i j:Nat)(a:Int)(s:BA)(b:j<i)(c:i<=l.length)(h:(Ah l j).sc=a/\(Ah l j).name=s):Ge ((l.take i).map λr=>(r.sc,r.name)) a s=true:=by
 rw[Ge,List.any_eq_true];refine⟨((Ah l j).sc,(Ah l j).name),List.mem_map.2 ⟨Ah l j,?_,rfl⟩,by simp[h]⟩;grind[Ah,List.mem_iff_getElem]
theorem JH(l:List zB)(k:Nat)(h:k<l.length):l.take (k+1)=l.take k++ [Ak l k]:=by
 simp_all[Ak]
theorem JG(l:List It)(k:Nat)(h:k<l.length):l.take (k+1)=l.take k++ [Ah l k]:=by
 simp_all[Ah]
theorem OP(l:List Dg)(k:Nat)(h:k<l.length):l.take (k+1)=l.take k++ [Bc l k]:=by
 simp_all[Bc]
theorem OO(l:List Fd)(k:Nat)(h:k<l.length):l.take (k+1)=l.take k++ [Bi l k]:=by
 simp_all[Bi]
theorem Ac{w w':Wd}{o:Obj}{b:Nat}(a:Bw w w')(q:w.heap[b]?=some o):w'.heap[b]?=some o:=(a.block b (Ag q)).trans q
def fE{a b c:Wd}(h:Af (Bw a b))(k:Bw b c):Af (Bw a c):=I (Ab h.1 k)
def fO{w w':Wd}{b:Nat}{o:Obj}(q:Af (w.heap[b]?=some o))(h:Below w.heap.size w w'):Af (w'.heap[b]?=some o):=I (Ac h q.1)
def dr(w:Wd)(n:Nat):Bw w (w.drewN n):=dN (An _ _) n
theorem LX{l:List Dg}(b:k<l.length)(h:zZ (Bc l k).name=true)(c:Ao a (Bc l k).name=false):If a (l.drop k)=if Qp (Bc l k).meas=0 then(6,a) else if(Ar (Bc l k).most 0 599999&&Ar (Bc l k).days 1 31)=false then(5,a) else If (a++ [(Bc l k).name]) (l.drop (k+1)):=by
 grind[bH,If]
theorem LW{l:List Fd}(b:k<l.length)(h:zZ (Bi l k).name=true)(c:Ao a (Bi l k).name=false):Kh a (l.drop k)=if(Ar (Bi l k).days 1 31&&Ar (Bi l k).cnt 1 (Bi l k).days)=false then 5 else Kh (a++ [(Bi l k).name]) (l.drop (k+1)):=by
 grind[eT,Kh]
theorem nM(l m:LB)(s:BA):Ao (l++m) s=(Ao l s || Ao m s):=by grind[Ao]
def Zm{X:Type}(at':List X->Nat->X)(nm:X->BA)(l:List X)(s:BA)(j:Nat):Prop:=∀m,m<j->nm (at' l m)≠s
def Zm.step{X:Type}{a:List X->Nat->X}{nm:X->BA}{l:List X}{j:Nat}(h:Zm a nm l s j)(e:(((nm (a l j)).toList)==s.toList)=false):Zm a nm l s (j+1):=by
 intro m c;by_cases b:m=j;subst b;rw[zV]at e;simpa using e;exact h m (by omega)
theorem bD{a b:BA}(h:(a.toList==b.toList)=true):a=b:=by grind[zV]
def JS(c:Ad)(p:Bd)(w:Wd)(B:Nat)(V:B<=w.heap.size)(ha:Kb B w c p):
 CV 201 #[Ay c p] w (Gg c):=by
 try delta Ay Az
 have a4:=ha.ls.1;have a5:=ha.oz.1;have X:=I ha;clear ha;delta CV;go_in;go_wp2_with fail;have HX:=I (zh w (Aj c p));have HB:=I (J w (Aj c p));generalize w.alloc (Aj c p)=W at*;go_loopw [3] (λi wr=>∃(k:Nat),k<=c.ls.length/\i=Bn k/\Af (If [] c.ls=If ((c.ls.take k).map Dg.name) (c.ls.drop k))/\Af (wr.heap[w.heap.size]?=some (Aj c p))/\Af (Bw w wr)) (λi _=>c.ls.length-(intOf i).toNat);exact⟨0,Bg _,rfl,I rfl,HX,HB⟩;obtain⟨k,T,rfl,C,K,g⟩:=hrel;have t:=Qk K.1;have x:=Qj K.1;have N:=Ag K.1;by_cases n:k<c.ls.length
 . have⟨b,L,h,hb,l⟩:=(X.1.keep (g.1.mono V)).ls.cells (by omega);have⟨U,c1,c2,c3,s1,s2⟩:=l k n;have M:b<wr.heap.size:=by have:=g.1.size;omega
   rw[h]at t;clear h;have sm:(Bc c.ls k).name.size<=maxLen:=by unfold maxLen;omega
   have E:=fE g (J wr (oL (Bc c.ls k)));have F:=fO K (J wr (oL (Bc c.ls k)));have G:=I (zh wr (oL (Bc c.ls k)));clear l x;go_wp2_with fail;clear U c1 c2 c3 t N;generalize wr.alloc (oL (Bc c.ls k))=w0 at*;refine ca (bC _ _ sm) λw1 u=>?_;have a:=fE E u;have f:=fO F u;have d:=fO G u;clear u E F G;have⟨P,z⟩:=aT wr.heap.size;rw[<-z]at d;simp only[<-z];clear z;cases Q:zZ (Bc c.ls k).name
   . have s:=I (show Gg c=1 by unfold Gg;rw[C.1,vA n Q];rfl);go_wp2;go_ret;exact hU s a
   go_wp2_with fail;go_loopw [5] (λq wr=>∃j:Nat,j<=k/\q=Bn j/\Af (Zm Bc Dg.name c.ls (Bc c.ls k).name j)/\Af (wr.heap[w.heap.size]?=some (Aj c p))/\Af (wr.heap[P]?=some (oL (Bc c.ls k)))/\Af (Bw w wr)) (λq _=>k-(intOf q).toNat);exact⟨0,Bg _,rfl,I (λm hm=>aB hm (Nat.not_lt_zero _)),f,d,a⟩;clear f d a;obtain⟨j,hj,rfl,r,f,d,a⟩:=hrel;have r0:=zw d.1;have r1:=zu d.1;have r2:=zC d.1;have r3:=Hk d.1;have rl:=Ag d.1;have t:=Qk f.1;have N:=Ag f.1;by_cases A:j<k
   . have⟨b,L,h,hb,l⟩:=(X.1.keep (a.1.mono V)).ls.cells (by omega);have⟨U,_⟩:=l j (by omega);have M:b<wr.heap.size:=by have:=a.1.size;omega
     rw[h]at t;clear h;have a2:j<c.ls.length:=by omega
     clear l;cases R:((Bc c.ls j).name.toList==(Bc c.ls k).name.toList)
     . have o:=I (r.1.step R);go_wp2;go_quiet (fail);go_wp2;go_roundw;(try((repeat apply eX);refine⟨?_,rfl⟩));exact⟨j+1,by omega,by go_num,o,fO f (dr _ _),fO d (dr _ _),fE a (dr _ _)⟩;simp[intOf];omega
     have s:=I (show Gg c=7 by unfold Gg;rw[C.1,wV n Q (gJ Dg.name _ c.ls k j _ A T (bD R))];rfl);go_wp2;go_quiet (fail);go_wp2;go_ret;exact⟨ze s.1.symm,Ab a.1 (dr _ _)⟩
   obtain rfl:j=k:=by omega
   have y:=I (C.1.trans (LX n Q (gR Dg.name _ c.ls j _ T r.1)));clear t r C;cases e3:(bW (Bc c.ls j).meas==0)
   . have v:¬ Qp (Bc c.ls j).meas=0:=by rw[<-uY];simpa using e3
     cases S:Ar (Bc c.ls j).most 0 599999
     . have s:=I (show Gg c=5 by unfold Gg;rw[y.1,iN v,S];rfl);clear v;go_wp2_with (first|(go_at_call 198;refine cb (eC _ _) ?_)|(go_at_call 199;refine cb (zS _ _ _ _) ?_));go_ret;exact hU s a
     cases Y:Ar (Bc c.ls j).days 1 31
     . have s:=I (show Gg c=5 by unfold Gg;rw[y.1,iN v,S,Y];rfl);clear v;go_wp2_with (first|(go_at_call 198;refine cb (eC _ _) ?_)|(go_at_call 199;refine cb (zS _ _ _ _) ?_));go_ret;exact hU s a
     have H:=I (show If [] c.ls=If ((c.ls.take (j+1)).map Dg.name) (c.ls.drop (j+1)) by rw[y.1,iN v,S,Y,OP _ _ n,Ii];rfl);clear v;go_wp2_with (first|(go_at_call 198;refine cb (eC _ _) ?_)|(go_at_call 199;refine cb (zS _ _ _ _) ?_));go_roundw;(try((repeat apply eX);refine⟨?_,rfl⟩));exact⟨j+1,by omega,by go_num,H,f,a⟩;simp[intOf];omega
   have v:Qp (Bc c.ls j).meas=0:=by rw[<-uY];simpa using e3
   have s:=I (show Gg c=6 by unfold Gg;rw[y.1,iP v];rfl);clear v;go_wp2_with (first|(go_at_call 198;refine cb (eC _ _) ?_)|(go_at_call 199;refine cb (zS _ _ _ _) ?_));go_ret;exact hU s a
 obtain rfl:k=c.ls.length:=by omega
 have Z:If [] c.ls=(0,c.ls.map Dg.name):=C.1.trans (by rw[Gk,List.take_length];rfl);have a0:=I (show Gg c=Kh (c.ls.map Dg.name) c.oz by unfold Gg;rw[Z];rfl);clear Z C T n;go_wp2_with fail;clear t x N;go_loopw [6] (λi wr=>∃(k:Nat),k<=c.oz.length/\i=Bn k/\Af (Gg c=Kh (c.ls.map Dg.name++(c.oz.take k).map Fd.name) (c.oz.drop k))/\Af (wr.heap[w.heap.size]?=some (Aj c p))/\Af (Bw w wr)) (λi _=>c.oz.length-(intOf i).toNat);exact⟨0,Bg _,rfl,I (by rw[a0.1,List.take_zero,List.map_nil,List.append_nil];rfl),K,g⟩;clear a0 K g;obtain⟨k,T,rfl,C,K,g⟩:=hrel;have x:=Qj K.1;have N:=Ag K.1;by_cases n:k<c.oz.length
 . have⟨b,L,h,hb,l⟩:=(X.1.keep (g.1.mono V)).oz.cells (by omega);have⟨U,c1,c2,s1⟩:=l k n;have M:b<wr.heap.size:=by have:=g.1.size;omega
   rw[h]at x;clear h;have sm:(Bi c.oz k).name.size<=maxLen:=by unfold maxLen;omega
   have E:=fE g (J wr (oO (Bi c.oz k)));have F:=fO K (J wr (oO (Bi c.oz k)));have G:=I (zh wr (oO (Bi c.oz k)));clear l;go_wp2_with fail;clear U c1 c2 x N;generalize wr.alloc (oO (Bi c.oz k))=w0 at*;refine ca (bC _ _ sm) λw1 u=>?_;have a:=fE E u;have f:=fO F u;have d:=fO G u;clear u E F G;have⟨P,z⟩:=aT wr.heap.size;rw[<-z]at d;simp only[<-z];clear z;cases Q:zZ (Bi c.oz k).name
   . have s:=I (show Gg c=1 by rw[C.1,uZ n Q]);go_wp2;go_ret;exact hU s a
   have a3:=Qk f.1;have gl:=Ag f.1;go_wp2_with fail;clear a3 gl;go_loopw [8] (λq wr=>∃j:Nat,j<=c.ls.length/\q=Bn j/\Af (Zm Bc Dg.name c.ls (Bi c.oz k).name j)/\Af (wr.heap[w.heap.size]?=some (Aj c p))/\Af (wr.heap[P]?=some (oO (Bi c.oz k)))/\Af (Bw w wr)) (λq _=>c.ls.length-(intOf q).toNat);exact⟨0,Bg _,rfl,I (λm hm=>aB hm (Nat.not_lt_zero _)),f,d,a⟩;clear f d a;obtain⟨j,hj,rfl,r,f,d,a⟩:=hrel;have r0:=zw d.1;have rl:=Ag d.1;have t:=Qk f.1;have N:=Ag f.1;by_cases A:j<c.ls.length
   . have⟨b,L,h,hb,l⟩:=(X.1.keep (a.1.mono V)).ls.cells (by omega);have⟨U,_⟩:=l j A;have M:b<wr.heap.size:=by have:=a.1.size;omega
     rw[h]at t;clear h;clear l;cases R:((Bc c.ls j).name.toList==(Bi c.oz k).name.toList)
     . have o:=I (r.1.step R);go_wp2;go_quiet (fail);go_wp2;go_roundw;(try((repeat apply eX);refine⟨?_,rfl⟩));exact⟨j+1,by omega,by go_num,o,fO f (dr _ _),fO d (dr _ _),fE a (dr _ _)⟩;simp[intOf];omega
     have s:=I (show Gg c=7 by
      have:=gJ Dg.name _ c.ls c.ls.length j _ A (Bv _) (bD R);rw[List.take_length]at this;rw[C.1,nP n Q (by rw[nM,this];rfl)])
     go_wp2;go_quiet (fail);go_wp2;go_ret;exact⟨ze s.1.symm,Ab a.1 (dr _ _)⟩
   obtain rfl:j=c.ls.length:=by omega
   have a1:=I (show Ao (c.ls.map Dg.name) (Bi c.oz k).name=false by
    have:=gR Dg.name _ c.ls c.ls.length _ (Bv _) r.1;rwa [List.take_length]at this)
   clear r A;go_wp2_with fail;clear r0 rl t N;go_loopw [9] (λq wr=>∃j:Nat,j<=k/\q=Bn j/\Af (Zm Bi Fd.name c.oz (Bi c.oz k).name j)/\Af (wr.heap[w.heap.size]?=some (Aj c p))/\Af (wr.heap[P]?=some (oO (Bi c.oz k)))/\Af (Bw w wr)) (λq _=>k-(intOf q).toNat);exact⟨0,Bg _,rfl,I (λm hm=>aB hm (Nat.not_lt_zero _)),f,d,a⟩;clear f d a;obtain⟨j,hj,rfl,r,f,d,a⟩:=hrel;have r0:=zw d.1;have r1:=zu d.1;have r2:=zC d.1;have rl:=Ag d.1;have x:=Qj f.1;have N:=Ag f.1;by_cases A:j<k
   . have⟨b,L,h,hb,l⟩:=(X.1.keep (a.1.mono V)).oz.cells (by omega);have⟨U,_⟩:=l j (by omega);have M:b<wr.heap.size:=by have:=a.1.size;omega
     rw[h]at x;clear h;have a2:j<c.oz.length:=by omega
     clear l;cases R:((Bi c.oz j).name.toList==(Bi c.oz k).name.toList)
     . have o:=I (r.1.step R);go_wp2;go_quiet (fail);go_wp2;go_roundw;(try((repeat apply eX);refine⟨?_,rfl⟩));exact⟨j+1,by omega,by go_num,o,fO f (dr _ _),fO d (dr _ _),fE a (dr _ _)⟩;simp[intOf];omega
     have s:=I (show Gg c=7 by rw[C.1,nP n Q (by rw[nM,gJ Fd.name _ c.oz k j _ A T (bD R),Bool.or_true])]);go_wp2;go_quiet (fail);go_wp2;go_ret;exact⟨ze s.1.symm,Ab a.1 (dr _ _)⟩
   obtain rfl:j=k:=by omega
   have y:=I (C.1.trans (LW n Q (by rw[nM,a1.1,gR Fd.name _ c.oz j _ T r.1];rfl)));clear x r C;cases S:Ar (Bi c.oz j).days 1 31
   . have s:=I (show Gg c=5 by rw[y.1,S];rfl);go_wp2_with (go_at_call 199;refine cb (zS _ _ _ _) ?_);go_ret;exact hU s a
   cases Y:Ar (Bi c.oz j).cnt 1 (Bi c.oz j).days
   . have s:=I (show Gg c=5 by rw[y.1,S,Y];rfl);go_wp2_with (go_at_call 199;refine cb (zS _ _ _ _) ?_);go_ret;exact hU s a
   have H:=I (show Gg c=Kh (c.ls.map Dg.name++(c.oz.take (j+1)).map Fd.name) (c.oz.drop (j+1)) by rw[y.1,S,Y,OO _ _ n,Ii,<-List.append_assoc];rfl);go_wp2_with (go_at_call 199;refine cb (zS _ _ _ _) ?_);go_roundw;(try((repeat apply eX);refine⟨?_,rfl⟩));exact⟨j+1,by omega,by go_num,H,f,a⟩;simp[intOf];omega
 obtain rfl:k=c.oz.length:=by omega
 have s:=I (show Gg c=0 by rw[C.1,Gk,Kh]);go_wp2;go_ret;exact hU s g
def FQ(c:Ad)(p:Bd)(w:Wd)(h:Mh c=false):CV 122 #[Ay c p] w (Bn 5):=by
 try delta Ay Az
 cases b:Ar c.rp 0 1440
 . delta CV;go_in;go_wp2_with (go_at_call 199;refine cb (zS _ _ _ _) ?_);go_ret;exact⟨rfl,J _ _⟩
 cases d:Ar c.rl 0 1440
 . delta CV;go_in;go_wp2_with (go_at_call 199;refine cb (zS _ _ _ _) ?_);go_ret;exact⟨rfl,J _ _⟩
 cases f:Ar c.cn 0 1440
 . delta CV;go_in;go_wp2_with (go_at_call 199;refine cb (zS _ _ _ _) ?_);go_ret;exact⟨rfl,J _ _⟩
 cases g:Ar c.sit c.cn 1440
 . delta CV;go_in;go_wp2_with (go_at_call 199;refine cb (zS _ _ _ _) ?_);go_ret;exact⟨rfl,J _ _⟩
 cases i:Ar c.lv 0 10080
 . delta CV;go_in;go_wp2_with (go_at_call 199;refine cb (zS _ _ _ _) ?_);go_ret;exact⟨rfl,J _ _⟩
 cases j:Ar c.nf 0 1439
 . delta CV;go_in;go_wp2_with (go_at_call 199;refine cb (zS _ _ _ _) ?_);go_ret;exact⟨rfl,J _ _⟩
 cases k:Ar c.nt 0 1439
 . delta CV;go_in;go_wp2_with (go_at_call 199;refine cb (zS _ _ _ _) ?_);go_ret;exact⟨rfl,J _ _⟩
 cases l:Ar c.gu 0 599999
 . delta CV;go_in;go_wp2_with (go_at_call 199;refine cb (zS _ _ _ _) ?_);go_ret;exact⟨rfl,J _ _⟩
 simp[Mh,b,d,f,g,i,j,k,l]at h
def FP(c:Ad)(p:Bd)(w:Wd)(b:Mh c=true)(h:Li c=false):CV 122 #[Ay c p] w (Bn 10):=by
 try delta Ay Az
 simp only[Mh,Em]at b;obtain⟨⟨⟨⟨⟨⟨⟨d,f⟩,g⟩,i⟩,j⟩,k⟩,l⟩,m⟩:=b;by_cases n:32<c.cs.length
 . delta CV;go_in;go_wp2_with (go_at_call 199;refine cb (zS _ _ _ _) ?_);go_ret;exact⟨rfl,J _ _⟩
 by_cases o:40<c.rs.length
 . delta CV;go_in;go_wp2_with (go_at_call 199;refine cb (zS _ _ _ _) ?_);go_ret;exact⟨rfl,J _ _⟩
 by_cases q:16<c.ks.length
 . delta CV;go_in;go_wp2_with (go_at_call 199;refine cb (zS _ _ _ _) ?_);go_ret;exact⟨rfl,J _ _⟩
 by_cases r:1<c.xs.length
 . delta CV;go_in;go_wp2_with (go_at_call 199;refine cb (zS _ _ _ _) ?_);go_ret;exact⟨rfl,J _ _⟩
 by_cases s:16<c.ls.length
 . delta CV;go_in;go_wp2_with (go_at_call 199;refine cb (zS _ _ _ _) ?_);go_ret;exact⟨rfl,J _ _⟩
 by_cases t:16<c.oz.length
 . delta CV;go_in;go_wp2_with (go_at_call 199;refine cb (zS _ _ _ _) ?_);go_ret;exact⟨rfl,J _ _⟩
 simp[Li]at h;omega
def tO(c:Ad)(p:Bd)(w:Wd)(B:Nat)(hB:B<=w.heap.size)(ha:Kb B w c p):
 CV 122 #[Ay c p] w (Cf c):=by
 try delta Ay Az
 cases h0:Mh c;exact(FQ c p w h0).mono (by rintro e w' ⟨rfl,h⟩;exact⟨ze (by rw[Cf,iP h0]),h⟩);cases h1:Li c;exact(FP c p w h0 h1).mono (by rintro e w' ⟨rfl,h⟩;exact⟨ze (by rw[Cf,iN (by simp[h0]),iP h1]),h⟩);have Hv:=I (show Cf c=if Ih [] c.cs≠0 then Ih [] c.cs else if Gj [] c.rs≠0 then Gj [] c.rs else if Ig c.ks≠0 then Ig c.ks else if Kg c.xs≠0 then Kg c.xs else Gg c by rw[Cf,iN (by simp[h0]),iN (by simp[h1])]);simp only[Mh,Em]at h0;obtain⟨⟨⟨⟨⟨⟨⟨b0,b1⟩,b2⟩,b3⟩,b4⟩,b5⟩,b6⟩,b7⟩:=h0;simp only[Li,Em,decide_eq_true_eq]at h1;obtain⟨⟨⟨⟨⟨s0,s1⟩,s2⟩,s3⟩,s4⟩,s5⟩:=h1;have HA:=I ha;clear ha;delta CV;go_in;go_wp2_with (go_at_call 199;refine cb (zS _ _ _ _) ?_);clear b0 b1 b2 b3 b4 b5 b6 b7;have HX:=I (zh w (Aj c p));have HB:=I (J w (Aj c p));generalize w.alloc (Aj c p)=W at*;go_loopw [3] (λi wr=>∃(k:Nat),k<=c.cs.length/\i=Bn k/\Af (Ih [] c.cs=Ih ((c.cs.take k).map zB.name) (c.cs.drop k))/\Af (wr.heap[w.heap.size]?=some (Aj c p))/\Af (Bw w wr)) (λi _=>c.cs.length-(intOf i).toNat);exact⟨0,Bg _,rfl,I rfl,HX,HB⟩;clear HX HB;obtain⟨k,S,rfl,E,s,a⟩:=hrel;have q7:=Ic s.1;have Q:=Ag s.1;by_cases d:k<c.cs.length
 . have⟨b,T,y,hb,t⟩:=(HA.1.keep (a.1.mono hB)).cs.cells (by omega);have⟨c0,a7,N,n,⟨X,Y,Z,c4⟩,o,f⟩:=t k d;have P:b<wr.heap.size:=by have:=a.1.size;omega
   rw[y]at q7;clear y;have sm:(Ak c.cs k).name.size<=maxLen:=by unfold maxLen;omega
   clear t f o;go_wp2_with fail;clear c0 X Y Z c4 q7 Q;refine ca (bC _ _ sm) λw1 H=>?_;have g:=fE a H;have u:=fO s H;clear H a s P;cases e1:zZ (Ak c.cs k).name
   . have l:=I (E.1.trans (vB d e1));have K:=I (show Cf c=1 by rw[Hv.1,l.1];rfl);go_wp2;go_ret;exact hU K g
   go_wp2_with fail;go_loopw [4] (λq wr=>∃j:Nat,j<=k/\q=Bn j/\Af (Zm Ak zB.name c.cs (Ak c.cs k).name j)/\Af (wr.heap[w.heap.size]?=some (Aj c p))/\Af (Bw w wr)) (λq _=>k-(intOf q).toNat);exact⟨0,Bg _,rfl,I (λm hm=>aB hm (Nat.not_lt_zero _)),u,g⟩;clear u g;obtain⟨j,hj,rfl,L,u,g⟩:=hrel;have q7:=Ic u.1;have Q:=Ag u.1;have⟨b,T,y,hb,t⟩:=(HA.1.keep (g.1.mono hB)).cs.cells (by omega);have⟨c0,a7,N,n,⟨X,Y,Z,c4⟩,o,f⟩:=t k d;have F:=I f;have V:=I o;have P:b<wr.heap.size:=by have:=g.1.size;omega
   rw[y]at q7;clear y;by_cases U:j<k
   . have⟨d0,_⟩:=t j (by omega);have b9:j<c.cs.length:=by omega
     clear t f o;cases e2:((Ak c.cs j).name.toList==(Ak c.cs k).name.toList)
     . have D:=I (L.1.step e2);go_wp2;go_quiet (fail);go_wp2;go_roundw;(try((repeat apply eX);refine⟨?_,rfl⟩));exact⟨j+1,by omega,by go_num,D,fO u (dr _ _),fE g (dr _ _)⟩;simp[intOf];omega
     have l:=I (E.1.trans (vY d e1 (gJ zB.name _ c.cs k j _ U S (bD e2))));have K:=I (show Cf c=7 by rw[Hv.1,l.1];rfl);go_wp2;go_quiet (fail);go_wp2;go_ret;exact⟨ze K.1.symm,Ab g.1 (dr _ _)⟩
   obtain rfl:j=k:=by omega
   have hh:=I (gR zB.name _ c.cs j _ S L.1);clear t f o L U;go_wp2_with fail;refine ca (aK (Ak c.cs j).ex N n wr B (by have:=g.1.size;omega) V.1 F.1) λw2 x=>?_;have z:=fE g x;have G:=fO u x;clear x c0 X Y Z c4 q7 Q F V;by_cases A:Bb (Ak c.cs j).ex=0
   . have v:=I (E.1.trans (xX d e1 hh.1 A));rw[A];go_wp2;go_roundw;(try((repeat apply eX);refine⟨?_,rfl⟩));exact⟨j+1,by omega,by go_num,I (by rw[JH _ _ d,Ii];exact v.1),G,z⟩;simp[intOf];omega
   have v:=I (E.1.trans (vZ d e1 hh.1 A));have K:=I (show Cf c=Bb (Ak c.cs j).ex by rw[Hv.1,v.1];exact iP A);have e4:=CN A
   clear A;go_wp2;go_ret;exact hU K z
 obtain rfl:k=c.cs.length:=by omega
 have l:Af (Ih [] c.cs=0):=I (E.1.trans (by rw[Gk,Ih]));have R:=I (Hv.1.trans (iN (by rw[l.1];simp)));clear Hv E S d l;have q8:=Jg s.1;go_wp2_with fail;clear q7 q8 Q;go_loopw [6] (λi wr=>∃(k:Nat),k<=c.rs.length/\i=Bn k/\Af (Gj [] c.rs=Gj ((c.rs.take k).map λr=>(r.sc,r.name)) (c.rs.drop k))/\Af (wr.heap[w.heap.size]?=some (Aj c p))/\Af (Bw w wr)) (λi _=>c.rs.length-(intOf i).toNat);exact⟨0,Bg _,rfl,I rfl,s,a⟩;clear s a;obtain⟨k,S,rfl,E,s,a⟩:=hrel;have q8:=Jg s.1;have Q:=Ag s.1;by_cases d:k<c.rs.length
 . have⟨b,T,y,hb,t⟩:=(HA.1.keep (a.1.mono hB)).rs.cells (by omega);have⟨c0,X,a7,c6,N,n,⟨Y,Z,c4,c5⟩,o,f⟩:=t k d;have P:b<wr.heap.size:=by have:=a.1.size;omega
   rw[y]at q8;clear y;have sm:(Ah c.rs k).name.size<=maxLen:=by unfold maxLen;omega
   have V:=I o;have F:=I f;have a0:=fE a (J wr (oR (Ah c.rs k) N n));have a8:=fO s (J wr (oR (Ah c.rs k) N n));have a9:=I (zh wr (oR (Ah c.rs k) N n));have b8:=I (F.1.keep ((J wr (oR (Ah c.rs k) N n)).mono (show B<=wr.heap.size by have:=a.1.size;omega)));clear t f o F;cases e0:Ar (Ah c.rs k).sc 1 3
   . have l:=I (E.1.trans (gO d (by rw[e0];rfl)));have K:=I (show Cf c=1 by rw[R.1,l.1];rfl);go_wp2_with (go_at_call 199;refine cb (zS _ _ _ _) ?_);go_ret;exact hU K a0
   go_wp2_with (go_at_call 199;refine cb (zS _ _ _ _) ?_);clear c0 X Y Z c4 c5 q8 Q;generalize wr.alloc (oR (Ah c.rs k) N n)=w0 at*;refine ca (bC _ _ sm) λw1 H=>?_;have g:=fE a0 H;have u:=fO a8 H;have C:=fO a9 H;have M:=I (b8.1.keep (H.mono (show B<=w0.heap.size by have:=a0.1.size;omega)));clear H a s P a0 a8 a9 b8;have⟨rb,a4⟩:=aT wr.heap.size;rw[<-a4]at C;simp only[<-a4];clear a4;cases e1:zZ (Ah c.rs k).name
   . have l:=I (E.1.trans (gO d (by rw[e0,e1];rfl)));have K:=I (show Cf c=1 by rw[R.1,l.1];rfl);go_wp2;go_ret;exact hU K g
   have a5:=I (show(Ar (Ah c.rs k).sc 1 3&&zZ (Ah c.rs k).name)=true by rw[e0,e1];rfl);clear e0;go_wp2_with fail;go_loopw [8] (λq wr=>∃j:Nat,j<=k/\q=Bn j/\Af (∀m,m<j->¬ ((Ah c.rs m).sc=(Ah c.rs k).sc/\(Ah c.rs m).name=(Ah c.rs k).name))/\Af (wr.heap[w.heap.size]?=some (Aj c p))/\Af (wr.heap[rb]?=some (oR (Ah c.rs k) N n))/\Af (Et B wr N (Ah c.rs k).ex.args)/\Af (Bw w wr)) (λq _=>k-(intOf q).toNat);exact⟨0,Bg _,rfl,I (λm hm=>aB hm (Nat.not_lt_zero _)),u,C,M,g⟩;clear u C M g;obtain⟨j,hj,rfl,L,u,C,M,g⟩:=hrel;have q8:=Jg u.1;have Q:=Ag u.1;have r0:=zw C.1;have r1:=zu C.1;have r2:=zC C.1;have r3:=Hk C.1;have r4:=Ks C.1;have r5:=Lg C.1;have rl:=Ag C.1;by_cases U:j<k
   . have⟨b,T,y,hb,t⟩:=(HA.1.keep (g.1.mono hB)).rs.cells (by omega);have P:b<wr.heap.size:=by have:=g.1.size;omega
     rw[y]at q8;clear y;have⟨d0,d1,_⟩:=t j (by omega);have b9:j<c.rs.length:=by omega
     clear t;cases e2:((Ah c.rs j).sc==(Ah c.rs k).sc)
     . have D:=I (show ∀m,m<j+1->¬ ((Ah c.rs m).sc=(Ah c.rs k).sc/\(Ah c.rs m).name=(Ah c.rs k).name) from λm hm=>by
        by_cases e:m=j
        . subst e;intro h;rw[h.1]at e2;simp at e2
        exact L.1 m (by omega))
       go_wp2;go_quiet (fail);go_wp2;go_roundw;(try((repeat apply eX);refine⟨?_,rfl⟩));exact⟨j+1,by omega,by go_num,D,fO u (dr _ _),fO C (dr _ _),I (M.1.keep ((dr wr _).mono (show B<=wr.heap.size by have:=g.1.size;omega))),fE g (dr _ _)⟩;simp[intOf];omega
     cases A:((Ah c.rs j).name.toList==(Ah c.rs k).name.toList)
     . have D:=I (show ∀m,m<j+1->¬ ((Ah c.rs m).sc=(Ah c.rs k).sc/\(Ah c.rs m).name=(Ah c.rs k).name) from λm hm=>by
        by_cases e:m=j
        . subst e;intro h;rw[h.2]at A;simp at A
        exact L.1 m (by omega))
       go_wp2;go_quiet (fail);go_wp2;go_roundw;(try((repeat apply eX);refine⟨?_,rfl⟩));exact⟨j+1,by omega,by go_num,D,fO u (dr _ _),fO C (dr _ _),I (M.1.keep ((dr wr _).mono (show B<=wr.heap.size by have:=g.1.size;omega))),fE g (dr _ _)⟩;simp[intOf];omega
     have l:=I (E.1.trans (wP d a5.1 (IL c.rs k j _ _ U S ⟨by simpa using e2,bD A⟩)));have K:=I (show Cf c=7 by rw[R.1,l.1];rfl);go_wp2;go_quiet (fail);go_wp2;go_ret;exact⟨ze K.1.symm,Ab g.1 (dr _ _)⟩
   obtain rfl:j=k:=by omega
   have hh:=I (KM c.rs j _ _ S L.1);clear L U q8;go_wp2_with fail;refine ca (aK (Ah c.rs j).ex N n wr B (by have:=g.1.size;omega) V.1 M.1) λw2 x=>?_;have z:=fE g x;have G:=fO u x;clear x r0 r1 r2 r3 r4 r5 Q rl;by_cases A:Bb (Ah c.rs j).ex=0
   . have v:=I (E.1.trans (xT d a5.1 hh.1 A));rw[A];go_wp2;go_roundw;(try((repeat apply eX);refine⟨?_,rfl⟩));exact⟨j+1,by omega,by go_num,I (by rw[JG _ _ d,Ii];exact v.1),G,z⟩;simp[intOf];omega
   have v:=I (E.1.trans (wR d a5.1 hh.1 A));have K:=I (show Cf c=Bb (Ah c.rs j).ex by rw[R.1,v.1];exact iP A);have e4:=CN A
   clear A;go_wp2;go_ret;exact hU K z
 obtain rfl:k=c.rs.length:=by omega
 have l:Af (Gj [] c.rs=0):=I (E.1.trans (by rw[Gk,Gj]));have a1:=I (R.1.trans (iN (by rw[l.1];simp)));clear R E S d l;have q9:=Mg s.1;go_wp2_with fail;clear q8 q9 Q;go_loopw [10] (λi wr=>∃(k:Nat),k<=c.ks.length/\i=Bn k/\Af (Ig c.ks=Ig (c.ks.drop k))/\Af (wr.heap[w.heap.size]?=some (Aj c p))/\Af (Bw w wr)) (λi _=>c.ks.length-(intOf i).toNat);exact⟨0,Bg _,rfl,I rfl,s,a⟩;clear s a;obtain⟨k,S,rfl,E,s,a⟩:=hrel;have q9:=Mg s.1;have Q:=Ag s.1;by_cases d:k<c.ks.length
 . have⟨b,T,y,hb,t⟩:=(HA.1.keep (a.1.mono hB)).ks.cells (by omega);have⟨c0,c6,N,n,⟨X,Y,Z,c4⟩,o,f⟩:=t k d;have P:b<wr.heap.size:=by have:=a.1.size;omega
   rw[y]at q9;clear y;have V:=I o;have F:=I f;clear t f o;cases e0:Ar (Aq c.ks k).sc 1 3
   . have l:=I (E.1.trans (tP d e0));have K:=I (show Cf c=1 by rw[a1.1,l.1];rfl);go_wp2_with (go_at_call 199;refine cb (zS _ _ _ _) ?_);go_ret;exact hU K a
   go_wp2_with (go_at_call 199;refine cb (zS _ _ _ _) ?_);refine ca (aK (Aq c.ks k).ex N n wr B (by have:=a.1.size;omega) V.1 F.1) λw2 x=>?_;have z:=fE a x;have G:=fO s x;clear x c0 X Y Z c4 q9 Q F V;by_cases A:Bb (Aq c.ks k).ex=0
   . have v:=I (E.1.trans (xU d e0 A));rw[A];go_wp2;go_roundw;(try((repeat apply eX);refine⟨?_,rfl⟩));exact⟨k+1,by omega,by go_num,v,G,z⟩;simp[intOf];omega
   have v:=I (E.1.trans (vW d e0 A));have K:=I (show Cf c=Bb (Aq c.ks k).ex by rw[a1.1,v.1];exact iP A);have e4:=CN A
   clear A;go_wp2;go_ret;exact hU K z
 obtain rfl:k=c.ks.length:=by omega
 have l:Af (Ig c.ks=0):=I (E.1.trans (by rw[Gk,Ig]));have a6:=I (a1.1.trans (iN (by rw[l.1];simp)));clear a1 E S d l;have a3:=Ol s.1;go_wp2_with fail;clear q9 a3 Q;go_loopw [12] (λi wr=>∃(k:Nat),k<=c.xs.length/\i=Bn k/\Af (Kg c.xs=Kg (c.xs.drop k))/\Af (wr.heap[w.heap.size]?=some (Aj c p))/\Af (Bw w wr)) (λi _=>c.xs.length-(intOf i).toNat);exact⟨0,Bg _,rfl,I rfl,s,a⟩;clear s a;obtain⟨k,S,rfl,E,s,a⟩:=hrel;have a3:=Ol s.1;have Q:=Ag s.1;by_cases d:k<c.xs.length
 . have⟨b,T,y,hb,t⟩:=(HA.1.keep (a.1.mono hB)).xs.cells (by omega);have⟨N,n,_,⟨X,Y,Z,c4⟩,o,f⟩:=t.at k d;have P:b<wr.heap.size:=by have:=a.1.size;omega
   rw[y]at a3;clear y;have V:=I o;have F:=I f;clear t f o;go_wp2_with fail;refine ca (aK (Au c.xs k) N n wr B (by have:=a.1.size;omega) V.1 F.1) λw2 x=>?_;have z:=fE a x;have G:=fO s x;clear x X Y Z c4 a3 Q F V;by_cases A:Bb (Au c.xs k)=0
   . have v:=I (E.1.trans (xS d A));rw[A];go_wp2;go_roundw;(try((repeat apply eX);refine⟨?_,rfl⟩));exact⟨k+1,by omega,by go_num,v,G,z⟩;simp[intOf];omega
   have v:=I (E.1.trans (wO d A));have K:=I (show Cf c=Bb (Au c.xs k) by rw[a6.1,v.1];exact iP A);have e4:=CN A
   clear A;go_wp2;go_ret;exact hU K z
 obtain rfl:k=c.xs.length:=by omega
 have l:Af (Kg c.xs=0):=I (E.1.trans (by rw[Gk,Kg]));have c7:=I (a6.1.trans (iN (by rw[l.1];simp)));clear a6 E S d l;have x0:=zw s.1;have x1:=zu s.1;have x2:=zC s.1;have x3:=Hk s.1;have x4:=Ks s.1;have x5:=Lg s.1;have x6:=Mf s.1;have x7:=Ic s.1;have x8:=Jg s.1;have x9:=Mg s.1;have c8:=Ol s.1;have c9:=Qk s.1;have d2:=Qj s.1;have d3:=Ui s.1;go_wp2_with fail;refine ca (JS c p wr B (by have:=a.1.size;omega) (HA.1.keep (a.1.mono hB))) λw2 x=>?_;have z:=fE a x;clear x;go_wp2;go_ret;exact hU c7 z
