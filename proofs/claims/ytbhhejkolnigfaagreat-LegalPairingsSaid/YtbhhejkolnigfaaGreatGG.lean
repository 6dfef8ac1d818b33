/- a part of the proof -/
import Derived.Test.YtbhhejkolnigfaaGreatG5
import Derived.Test.YtbhhejkolnigfaaGreatGF
set_option linter.unusedVariables false
set_option linter.unusedSimpArgs false
set_option maxRecDepth 100000
set_option maxHeartbeats 51200000
namespace Go.Proofs.YtbhhejkolnigfaaGreat
open Go.RowKit Go.Sort Go.Proofs.Tryz
def ciI(l:List zB)(s:ByteArray):Int:=match fi l s with
 |some i=>(i:Int)
 |none=>-1
theorem zmg{X:Type}(nm:X->ByteArray)(s:ByteArray):∀(k:Nat) (l:List X),ixF nm s k l=match l.findIdx? (λx=>decide (nm x=s)) with|some i=>((k+i:Nat):Int)|none=>-1
 |k, []=>rfl
 |k,x::l=>by
  rw[ixF,List.findIdx?_cons];by_cases h:nm x=s
  . simp[h]
  rw[if_neg h,zmg nm s (k+1) l];simp only[h,decide_false,zt4,if_false];cases l.findIdx? (λx=>decide (nm x=s)) with
  |none=>rfl
  |some i=>show((k+1+i:Nat):Int)=((k+(i+1):Nat):Int);omega
theorem ixF_ci(l:List zB)(s:ByteArray):ixF zB.name s 0 l=ciI l s:=by
 rw[zmg];unfold ciI fi;cases l.findIdx? (λx=>decide (x.name=s)) with
 |none=>rfl
 |some i=>simp
theorem zhV(l:List zB)(s:ByteArray)(a:zua)(cap:Nat)(B:Nat)(w:World)(p:B<=w.heap.size)(g:zbd B w a l):Calls prog 134 #[.slice a l.length cap,.string s] w λe w'=>e=.returned (ciI l s)/\w=w':=by
 have q:=g.1;have j:=I g;clear g;go_enter func134,ntmps134
 go_wp2_with fail;go_loop [5] (λi=>∃k:Nat,k<=l.length/\i=.int .i64 k/\ztR (ciI l s=ixF zB.name s k (l.drop k))) (λi=>l.length-(intOf i).toNat)
 case atStart=>exact⟨0,ztX _,rfl,I (ixF_ci l s).symm⟩
 obtain⟨k,r,rfl,h⟩:=hrel;by_cases c:k<l.length
 . obtain⟨b,m,rfl,t,d⟩:=j.1.cells (by omega);have u:=(d k c).1;have n:b<w.heap.size:=by omega
   clear d;by_cases e:(csAt l k).name=s
   . have o:((csAt l k).name.toList==s.toList)=true:=by rw[zV];simpa using e
     have f:=I (h.1.trans (by rw[zgf l k c,ixF,if_pos e]));clear e;go_wp2_with fail;go_ret;exact⟨ze f.1.symm,rfl⟩
   have o:((csAt l k).name.toList==s.toList)=false:=by rw[zV];simpa using e
   have f:=I (h.1.trans (by rw[zgf l k c,ixF,if_neg e]));clear e;go_wp2_with fail;go_round
   case rel=>exact⟨k+1,by omega,by go_num,f⟩
   case measure=>simp[intOf];omega
 obtain rfl:k=l.length:=by omega
 have f:=I (h.1.trans (by rw[zt6,ixF]));go_wp2_with fail;go_ret;exact⟨ze f.1.symm,rfl⟩
theorem zK(l:List Int)(k:Int)(a:zua)(cap:Nat)(w:World)(p:l.length<=140737488355328)(h:zW w a l):Calls prog 218 #[.slice a l.length cap,k] w λe w'=>e=.returned (.bool (allB l k))/\w=w':=by
 have m:=I h;clear h;go_enter func218,ntmps218
 go_wp2_with fail;go_loop [5] (λi=>∃j:Nat,j<=l.length/\i=.int .i64 j/\ztR (allB l k=allB (l.drop j) k)) (λi=>l.length-(intOf i).toNat)
 case atStart=>exact⟨0,ztX _,rfl,I rfl⟩
 obtain⟨j,q,rfl,c⟩:=hrel;by_cases d:j<l.length
 . obtain⟨b,n,rfl,r,f⟩:=m.1.cells (by omega);have s:=f j d;clear f m;cases e:(iAt l j==k)
   . have g:=I (show allB l k=false by rw[c.1,zhG l j d,allB,e];rfl);have o:(iAt l j !=k)=true:=by simpa using e
     clear e;go_wp2_with fail;go_ret;exact⟨zz g.1.symm,rfl⟩
   have g:=I (show allB l k=allB (l.drop (j+1)) k by rw[c.1,zhG l j d,allB,e];rfl);have o:(iAt l j !=k)=false:=by simpa using e
   clear e;go_wp2_with fail;go_round
   case rel=>exact⟨j+1,by omega,by go_num,g⟩
   case measure=>simp[intOf];omega
 obtain rfl:j=l.length:=by omega
 have g:=I (show allB l k=true by rw[c.1,zt6,allB]);go_wp2_with fail;go_ret;exact⟨zz g.1.symm,rfl⟩
theorem zF(x y k:Int):allB [x,y] k=((x==k)&&(y==k)):=by simp[allB]
theorem zhr{o:Int}{t:List Int}(c:o=7\/o=8\/o=9\/o=12\/o=13)(d:t≠ []):resK o t=if allB t 1=true then 1 else if allB t 2=true then 2 else 0:=by
 obtain⟨x,r,rfl⟩:∃x r,t=x::r:=by cases t with
  |nil=>exact absurd rfl d
  |cons x r=>exact⟨x,r,rfl⟩
 have h:resK o (x::r)=if(amtB x&&allB (x::r) x)=true then x else 0:=by rcases c with rfl|rfl|rfl|rfl|rfl <;> rfl
 rw[h];by_cases a:x=1
 . subst a;simp[amtB,allB]
 by_cases b:x=2
 . subst b;simp[amtB,allB]
 have e:(x==1)=false:=by simpa using a
 have f:(x==2)=false:=by simpa using b
 simp[amtB,allB,e,f]
theorem zbK(o x y:Int)(d:o=16\/o=17){p q r s:Bool}(f:(x==1)=p)(i:(x==2)=q)(j:(y==1)=r)(k:(y==2)=s):resK o [x,y]=if((p&&r) || (q&&s))=true then 4 else 0:=by
 have h:resK o [x,y]=if(amtB x&&(x==y))=true then 4 else 0:=by rcases d with rfl|rfl <;> rfl
 rw[h,<-f,<-i,<-j,<-k];by_cases b:x=1
 . subst b;by_cases g:y=1
   . subst g;rfl
   have:(1==y)=false:=by simpa using λe=>g e.symm
   have a:(y==1)=false:=by simpa using g
   rw[this,a];rfl
 by_cases c:x=2
 . subst c;by_cases g:y=2
   . subst g;rfl
   have:(2==y)=false:=by simpa using λe=>g e.symm
   have a:(y==2)=false:=by simpa using g
   rw[this,a];rfl
 have l:(x==1)=false:=by simpa using b
 have m:(x==2)=false:=by simpa using c
 simp[amtB,l,m]
def zsp(o:Int)(n:Nat):Prop:=1<=o/\o<=22/\o≠6/\zL o n=true
def ResS(o:Int)(t:List Int)(a:zua)(cap:Nat)(w:World):Prop:=Calls prog 204 #[o,.slice a t.length cap] w λe w'=>e=.returned (resK o t)/\Below w.heap.size w w'
theorem zxv(o:Int)(c:o=1\/o=2\/o=3\/o=4\/o=5)(t:List Int)(a:zua)(cap:Nat)(w:World)(d:t.length<=140737488355328)(b:zW w a t):ResS o t a cap w:=by
 have e:=I b;clear b;rcases c with rfl|rfl|rfl|rfl|rfl
 all_goals
  go_enter func204,ntmps204
  go_wp2_with fail;go_ret;exact⟨ze (rfl),ztT _ _⟩
theorem zxy(o:Int)(c:o=7\/o=8\/o=9\/o=12\/o=13)(t:List Int)(a:zua)(cap:Nat)(w:World)(f:t.length<=140737488355328)(d:zW w a t)(b:t≠ []):ResS o t a cap w:=by
 have g:=I d;clear d;have h:=I (zhr c b);clear b;rcases c with rfl|rfl|rfl|rfl|rfl
 all_goals
  cases i:allB t 1 <;> cases j:allB t 2
 all_goals
  go_enter func204,ntmps204
  go_wp2_with (go_at_call 218;refine cb (zK _ _ _ _ _ f g.1) ?_)
  go_ret;exact⟨ze (by rw[h.1,i,j];rfl),ztT _ _⟩
theorem zxw(o:Int)(m:o=10\/o=11)(t:List Int)(a:zua)(cap:Nat)(w:World)(n:t.length<=140737488355328)(j:zW w a t)(k:t.length=2):ResS o t a cap w:=by
 have l:=I j;clear j;obtain⟨x,y,rfl⟩:∃x y,t= [x,y]:=by
  match t,k with
  |[x,y],_=>exact⟨x,y,rfl⟩
 clear k;obtain⟨b,d,rfl,r,c⟩:=l.1.cells (by simp);have s:w.cell? ⟨b,d,none⟩=some (.int .i64 x):=c 0 (by simp);have u:w.cell? ⟨b,d+1,none⟩=some (.int .i64 y):=c 1 (by simp);clear c;cases f:(x==1) <;> cases g:(x==2) <;> cases h:(y==1) <;> cases i:(y==2)
 all_goals try (exfalso;simp only[beq_iff_eq]at f g h i;omega)
 all_goals
  have p:=zF x y 1;have q:=zF x y 2;simp only[f,g,h,i,Bool.and_true,Bool.and_false,Bool.and_self]at p q;rcases m with rfl|rfl
 all_goals
  go_enter func204,ntmps204
  go_wp2_with (go_at_call 218;refine(zK _ _ _ _ _ n l.1).mono ?_;rintro e v ⟨rfl,rfl⟩)
  go_ret;exact⟨ze (by simp[resK,zde,cmpB,amtB,iAt,allB,f,g,h,i]),ztT _ _⟩
theorem zxx(o:Int)(j:o=16\/o=17)(t:List Int)(a:zua)(cap:Nat)(w:World)(n:t.length<=140737488355328)(k:zW w a t)(l:t.length=2):ResS o t a cap w:=by
 have m:=I k;clear k;obtain⟨x,y,rfl⟩:∃x y,t= [x,y]:=by
  match t,l with
  |[x,y],_=>exact⟨x,y,rfl⟩
 clear l;obtain⟨b,d,rfl,s,c⟩:=m.1.cells (by simp);have u:w.cell? ⟨b,d,none⟩=some (.int .i64 x):=c 0 (by simp);have v:w.cell? ⟨b,d+1,none⟩=some (.int .i64 y):=c 1 (by simp);clear c;cases f:(x==1) <;> cases g:(x==2) <;> cases h:(y==1) <;> cases i:(y==2)
 all_goals try (exfalso;simp only[beq_iff_eq]at f g h i;omega)
 all_goals
  have p:=zF x y 1;have q:=zF x y 2;simp only[f,g,h,i,Bool.and_true,Bool.and_false,Bool.and_self]at p q;have r:=I (zbK o x y j f g h i);rcases j with rfl|rfl
 all_goals
  go_enter func204,ntmps204
  go_wp2_with (go_at_call 218;refine(zK _ _ _ _ _ n m.1).mono ?_;rintro e z ⟨rfl,rfl⟩)
  go_ret;exact⟨ze (by rw[r.1];rfl),ztT _ _⟩
theorem zxB(o:Int)(h:o=18)(t:List Int)(a:zua)(cap:Nat)(w:World)(j:t.length<=140737488355328)(f:zW w a t)(g:t.length=2):ResS o t a cap w:=by
 have i:=I f;clear f;obtain⟨x,y,rfl⟩:∃x y,t= [x,y]:=by
  match t,g with
  |[x,y],_=>exact⟨x,y,rfl⟩
 clear g;obtain⟨b,d,rfl,k,c⟩:=i.1.cells (by simp);have l:w.cell? ⟨b,d,none⟩=some (.int .i64 x):=c 0 (by simp);have m:w.cell? ⟨b,d+1,none⟩=some (.int .i64 y):=c 1 (by simp);clear c;subst h;cases e:(x==y)
 all_goals
  go_enter func204,ntmps204
  go_wp2_with fail;go_quiet (fail)
  go_wp2_with fail;go_ret;exact⟨ze (by simp only[resK,cmpB,iAt,List.getD_cons_zero,List.getD_cons_succ,e];rfl),below_drewN (ztT _ _) _⟩
theorem zxA(o:Int)(g:o=14)(t:List Int)(a:zua)(cap:Nat)(w:World)(k:t.length<=140737488355328)(e:zW w a t)(f:t.length=3):ResS o t a cap w:=by
 have h:=I e;clear e;obtain⟨x,y,z,rfl⟩:∃x y z,t= [x,y,z]:=by
  match t,f with
  |[x,y,z],_=>exact⟨x,y,z,rfl⟩
 clear f;subst g;obtain⟨b,d,rfl,l,c⟩:=h.1.cells (by simp);have m:w.cell? ⟨b,d,none⟩=some (.int .i64 x):=c 0 (by simp);have n:w.cell? ⟨b,d+1,none⟩=some (.int .i64 y):=c 1 (by simp);have p:w.cell? ⟨b,d+2,none⟩=some (.int .i64 z):=c 2 (by simp);clear c;cases i:(x==4) <;> cases j:(y==z)
 all_goals
  go_enter func204,ntmps204
  go_wp2_with fail;go_quiet (fail)
  go_wp2_with fail;go_ret;exact⟨ze (by simp only[resK,iAt,List.getD_cons_zero,List.getD_cons_succ,i,j];rfl),below_drewN (ztT _ _) _⟩
theorem zxz(o:Int)(c:o=15\/o=19\/o=20\/o=21\/o=22)(t:List Int)(a:zua)(cap:Nat)(w:World)(d:t.length<=140737488355328)(b:zW w a t):ResS o t a cap w:=by
 have f:=I b;clear b;rcases c with rfl|rfl|rfl|rfl|rfl
 all_goals
  cases g:allB t 3 <;> cases h:allB t 4
 all_goals
  go_enter func204,ntmps204
  go_wp2_with (go_at_call 218;refine cb (zK _ _ _ _ _ d f.1) ?_)
  go_ret;exact⟨ze (by simp only[resK,cmpB,h,g];rfl),ztT _ _⟩
theorem zl4(o:Int)(t:List Int)(a:zua)(cap:Nat)(w:World)(b:t.length<=140737488355328)(c:zW w a t)(f:zsp o t.length):Calls prog 204 #[o,.slice a t.length cap] w λe w'=>e=.returned (resK o t)/\Bw w w':=by
 obtain⟨g,i,j,d⟩:=f;rcases(by omega:(o=1\/o=2\/o=3\/o=4\/o=5)\/(o=7\/o=8\/o=9\/o=12\/o=13)\/(o=10\/o=11)\/(o=16\/o=17)\/o=18\/o=14\/(o=15\/o=19\/o=20\/o=21\/o=22)) with h|h|h|h|h|h|h
 . exact zxv o h t a cap w b c
 . exact zxy o h t a cap w b c (by rintro rfl;rcases h with rfl|rfl|rfl|rfl|rfl <;> simp[zL]at d)
 . exact zxw o h t a cap w b c (by rcases h with rfl|rfl <;> simp[zL]at d <;> omega)
 . exact zxx o h t a cap w b c (by rcases h with rfl|rfl <;> simp[zL]at d <;> omega)
 . exact zxB o h t a cap w b c (by subst h;simp[zL]at d;omega)
 . exact zxA o h t a cap w b c (by subst h;simp[zL]at d;omega)
 exact zxz o h t a cap w b c
theorem ze2(w:World):Calls prog 169 #[] w λe w'=>(∃cap,e=.returned (.slice (some ⟨w.heap.size,0,none⟩) 11 cap))/\w.heap.size<w'.heap.size/\zai w' w.heap.size 0 zI/\Below w.heap.size w w':=by
 go_enter func169,ntmps169
 go_wp2_with fail;go_ret;exact⟨⟨_,rfl⟩,by simp,zai.new w zI _,J _ _⟩
theorem zgL(w:World):Calls prog 121 #[.int .i64 1] w λe a=>(∃cap,e=.returned (.slice (some ⟨w.heap.size,0,none⟩) 11 cap))/\w.heap.size<a.heap.size/\zai a w.heap.size 0 zI/\Bw w a:=by
 go_enter func121,ntmps121
 go_wp2_with fail;refine(ze2 w).mono ?_;rintro e a ⟨⟨g,rfl⟩,c,b,d⟩;have f:=I b;clear b;go_wp2_with fail;go_ret;exact⟨⟨_,rfl⟩,c,f.1,d⟩
theorem zgJ(w:World):Calls prog 121 #[.int .i64 3] w λe w'=>(∃cap,e=.returned (.slice (some ⟨w.heap.size,0,none⟩) 7 cap))/\w.heap.size<w'.heap.size/\zai w' w.heap.size 0 zcm/\Bw w w':=by
 go_enter func121,ntmps121
 go_wp2_with fail;go_ret;exact⟨⟨_,rfl⟩,by simp,zai.new w zcm _,J _ _⟩
theorem zgK(w:World):Calls prog 121 #[.int .i64 0] w λe w'=>e=.returned (.slice none 0 0)/\w=w':=by
 go_enter func121,ntmps121
 go_wp2_with fail;go_ret;exact⟨rfl,rfl⟩
theorem zgI(w:World):Calls prog 121 #[.int .i64 2] w λe w'=>∃v,e=.returned v/\w'.ownsRow w.heap.size 9 1 v 25 (zbC.map Value.string)/\Bw w w':=by
 obtain⟨T,U,E,F,G⟩:=info_parts zmh;go_enter func121,ntmps121
 go_wp2_with fail
 have B:=I (show World.ownsRow (w.alloc (.cells (zeo.map Value.string).toArray 9)) w.heap.size 9 1 (.slice (some ⟨w.heap.size,0,none⟩) 3 3) 3 ((rstK 0).map Value.string) from by
  refine⟨rfl,.inr ⟨w.heap.size,3,(zeo.map Value.string).toArray,rfl,ztY _,?_,ztY _,by decide,rfl,rfl⟩⟩;show(w.heap.push _)[w.heap.size]?=_
  simp[Array.getElem?_push])
 have C:=I (J w (.cells (zeo.map Value.string).toArray 9));have H:(w.alloc (.cells (zeo.map Value.string).toArray 9)).heap.size=w.heap.size+1:=by simp
 have Q:=ze2 (w.alloc (.cells (zeo.map Value.string).toArray 9));rw[H]at Q;refine Q.mono ?_;rintro e A ⟨⟨V,rfl⟩,d,k,K⟩;have L:=I k;have l:Below (w.alloc (.cells (zeo.map Value.string).toArray 9)).heap.size (w.alloc (.cells (zeo.map Value.string).toArray 9)) A:=by rw[H];exact K
 have M:=I (ztS C.1 l);have f:=I (zbQ B.1 C.1 l);clear k K l B Q C;rw[<-zhp 0]at f;have B:=f;clear f;go_wp2_with fail;go_loopw [3,5] (λout i wr=>∃(j:Nat) (v:Value),j<=11/\i=.int .i64 j/\out=v/\ztR (wr.ownsRow w.heap.size 9 1 v (rstJ 0 j).length ((rstJ 0 j).map Value.string))/\ztR (zai wr (w.heap.size+1) 0 zI)/\w.heap.size+1<wr.heap.size/\ztR (Bw w wr)) (λ_ i _=>11-(intOf i).toNat)
 case atStart=>exact⟨0,_,ztX _,rfl,rfl,B,L,d,M⟩
 clear B L d M;obtain⟨j,v,R,rfl,rfl,g,k,d,z⟩:=hrel;by_cases h:j<11
 . have c1:=k.1 j h;rw[Nat.zero_add]at c1;have N:(j:Int)<11:=by omega
   have m:=zjw g.1 (zfB 0 j) (k.1 0 (by decide)) (by simp[sAt,zI]);have b:=I (zjp 0 j (by decide) R);have n:(sAt zI j).size<=8:=zhN j h;have o:((⟨#[98,101,102,111,114,101,46]⟩:ByteArray).size)<=7:=by decide
   have p:(((⟨#[98,101,102,111,114,101,46]⟩:ByteArray).size:Nat):Int)+((sAt zI j).size:Int)<=9223372036854775807:=by omega
   have q:(⟨#[98,101,102,111,114,101,46]⟩:ByteArray).size+(sAt zI j).size<=9223372036854775807:=by omega
   have r:(sAt zI j).size<=9223372036854775800:=by omega
   have s:((sAt zI j).size:Int)<=8:=by omega
   go_wp2_with (at_builtin;refine wpList_append_own _ rfl _ _ 140 rfl w.heap.size 9 T (.string ByteArray.empty) 1 16 underlying140 U E F G rfl (by decide) _ _ _ rfl (g.1.alloc _) ⟨wr.heap.size,0,none⟩ 1 1 [.string (⟨#[98,101,102,111,114,101,46]⟩++sAt zI j)] rfl rfl ?c1 ?c2 ?c3 ?c4 ?c5 ?_)
   case c1=>exact zaa wr [.string (⟨#[98,101,102,111,114,101,46]⟩++sAt zI j)] 9
   case c2=>intro u P;simp at P;subst P;rfl
   case c3=>rw[b.1];unfold maxLen;omega
   case c4=>rw[b.1];omega
   case c5=>have:=z.1.size;simp;omega
   intro S A c a _;have t:=I (zaG (e':=9) z.1 rfl g.1 a);have x:=I ((k.1.below d (J _ _)).grown (by simp;omega) a m);have D:wr.heap.size<=A.heap.size:=ztV (by simp) a.size;have y:w.heap.size+1<A.heap.size:=by omega
   have f:=I (show A.ownsRow w.heap.size 9 1 S (rstJ 0 (j+1)).length ((rstJ 0 (j+1)).map Value.string) by
    rw[zhq 0 j h,zt2,zt3];exact c)
   clear c a m b o n p q r s g k z d D c1;go_wp2_with fail;go_roundw
   case rel=>first|exact⟨j+1,_,by omega,by go_num,rfl,f,x,y,t⟩|((repeat apply Exists.intro);exact⟨⟨j+1,_,by omega,by go_num,rfl,f,x,y,t⟩,rfl⟩)
   case measure=>simp[intOf];omega
 obtain rfl:j=11:=by omega
 rw[zjq 0 (by decide)]at g;rw[<-zhp 1]at g;have B:=g;have L:=k;have M:=z;clear g k z;go_wp2_with fail;go_loopw [3,6] (λout i wr=>∃(j:Nat) (v:Value),j<=11/\i=.int .i64 j/\out=v/\ztR (wr.ownsRow w.heap.size 9 1 v (rstJ 1 j).length ((rstJ 1 j).map Value.string))/\ztR (zai wr (w.heap.size+1) 0 zI)/\w.heap.size+1<wr.heap.size/\ztR (Bw w wr)) (λ_ i _=>11-(intOf i).toNat)
 case atStart=>exact⟨0,_,ztX _,rfl,rfl,B,L,d,M⟩
 clear B L d M;obtain⟨j,v,R,rfl,rfl,g,k,d,z⟩:=hrel;by_cases h:j<11
 . have c1:=k.1 j h;rw[Nat.zero_add]at c1;have N:(j:Int)<11:=by omega
   have m:=zjw g.1 (zfB 1 j) (k.1 0 (by decide)) (by simp[sAt,zI]);have b:=I (zjp 1 j (by decide) R);have n:(sAt zI j).size<=8:=zhN j h;have o:((⟨#[97,102,116,101,114,46]⟩:ByteArray).size)<=7:=by decide
   have p:(((⟨#[97,102,116,101,114,46]⟩:ByteArray).size:Nat):Int)+((sAt zI j).size:Int)<=9223372036854775807:=by omega
   have q:(⟨#[97,102,116,101,114,46]⟩:ByteArray).size+(sAt zI j).size<=9223372036854775807:=by omega
   have r:(sAt zI j).size<=9223372036854775800:=by omega
   have s:((sAt zI j).size:Int)<=8:=by omega
   go_wp2_with (at_builtin;refine wpList_append_own _ rfl _ _ 140 rfl w.heap.size 9 T (.string ByteArray.empty) 1 16 underlying140 U E F G rfl (by decide) _ _ _ rfl (g.1.alloc _) ⟨wr.heap.size,0,none⟩ 1 1 [.string (⟨#[97,102,116,101,114,46]⟩++sAt zI j)] rfl rfl ?c1 ?c2 ?c3 ?c4 ?c5 ?_)
   case c1=>exact zaa wr [.string (⟨#[97,102,116,101,114,46]⟩++sAt zI j)] 9
   case c2=>intro u P;simp at P;subst P;rfl
   case c3=>rw[b.1];unfold maxLen;omega
   case c4=>rw[b.1];omega
   case c5=>have:=z.1.size;simp;omega
   intro S A c a _;have t:=I (zaG (e':=9) z.1 rfl g.1 a);have x:=I ((k.1.below d (J _ _)).grown (by simp;omega) a m);have D:wr.heap.size<=A.heap.size:=ztV (by simp) a.size;have y:w.heap.size+1<A.heap.size:=by omega
   have f:=I (show A.ownsRow w.heap.size 9 1 S (rstJ 1 (j+1)).length ((rstJ 1 (j+1)).map Value.string) by
    rw[zhq 1 j h,zt2,zt3];exact c)
   clear c a m b o n p q r s g k z d D c1;go_wp2_with fail;go_roundw
   case rel=>first|exact⟨j+1,_,by omega,by go_num,rfl,f,x,y,t⟩|((repeat apply Exists.intro);exact⟨⟨j+1,_,by omega,by go_num,rfl,f,x,y,t⟩,rfl⟩)
   case measure=>simp[intOf];omega
 obtain rfl:j=11:=by omega
 rw[zjq 1 (by decide)]at g;go_wp2_with fail;go_ret;exact⟨_,rfl,g.1,z.1⟩
theorem zbT(k:Nat)(h:k<4)(w:World):Calls prog 121 #[k] w (zeX k w):=by
 obtain rfl|rfl|rfl|rfl:k=0\/k=1\/k=2\/k=3:=by omega
 . refine cb (zgK w) ?_;exact⟨none,0,rfl,.inl rfl,ztT _ _⟩
 . refine(zgL w).mono ?_;rintro e g ⟨⟨b,rfl⟩,c,d,f⟩;exact⟨_,b,rfl,.inr ⟨_,0,rfl,c,d⟩,f⟩
 . refine(zgI w).mono ?_;rintro e g ⟨v,rfl,c,d⟩;obtain⟨a,b,rfl,f,_⟩:=zej.of_own (l:=zbC) c (by decide);exact⟨a,b,rfl,f,d⟩
 refine(zgJ w).mono ?_;rintro e g ⟨⟨b,rfl⟩,c,d,f⟩;exact⟨_,b,rfl,.inr ⟨_,0,rfl,c,d⟩,f⟩
def kNum:List (List UInt8):= [[108,101,103,115], [104,101,97,100,115], [116,121,112,101,115], [110,105,103,104,116,115], [100,117,116,105,101,115], [100,97,121,115]]
def kClk:List (List UInt8):= [[115,116,97,114,116], [101,110,100]]
def zah(s:ByteArray):Int:=if zN kNum s=true then 1 else if zN kClk s=true then 3 else if(s.toList== [104,111,109,101])=true then 4 else 2
def zgE(s:ByteArray):Bool:=decide (7<s.size)&&((s.extract 0 7).toList== [98,101,102,111,114,101,46])
def zju(s:ByteArray):Bool:=decide (6<s.size)&&((s.extract 0 6).toList== [97,102,116,101,114,46])
theorem zrC:((List.range 4).all λk=>(List.range (zk k).length).all λi=>(zad k (sAt (zk k) i)==zah (sAt (zk k) i)) || (k==2&&(zgE (sAt (zk k) i) || zju (sAt (zk k) i))))=true:=by decide+kernel
theorem zjI{k:Nat}(a:k<4){i:Nat}(b:i<(zk k).length)(c:k=2->zgE (sAt (zk k) i)=false/\zju (sAt (zk k) i)=false):zad k (sAt (zk k) i)=zah (sAt (zk k) i):=by
 have:=List.all_eq_true.1 (List.all_eq_true.1 zrC k (List.mem_range.2 a)) i (List.mem_range.2 b);rw[Bool.or_eq_true]at this;rcases this with h|h
 . simpa using h
 rw[zt5]at h;obtain⟨d,e⟩:=c (by simpa using h.1);rw[d,e]at h;simp at h
def erK(n:Int):Int:=if n=0 then 6 else 0
theorem zej.none_wi{l:List ByteArray}{s:ByteArray}(h:∀m,m<l.length->sAt l m≠s):wi l s=none:=by
 unfold wi
 rw[List.findIdx?_eq_none_iff];intro x b;obtain⟨m,a,rfl⟩:=List.mem_iff_getElem.1 b;have:=h m a;unfold sAt at this
 rw[zt0,zt1 a]at this;simpa using this
theorem zfq(k:Nat)(c:k<4)(s:ByteArray)(r:k=2->zgE s=false/\zju s=false)(w:World):Calls prog 132 #[k,.string s] w λe w'=>e=.returned (.tuple #[(zad k s),(erK (zad k s))])/\Bw w w':=by
 have C:=I r;by_cases x:k=2
 have t:((k:Int)==2)=true:=by simp;omega
 obtain⟨d,f⟩:=r x;rw[zgE]at d;rw[zju]at f;by_cases D:7<s.size
 have L:((s.extract 0 7).toList== [98,101,102,111,114,101,46])=false:=by simpa[D] using d
 have y:6<s.size:=by omega
 rotate_left
 by_cases y:6<s.size
 rotate_left 2
 have t:((k:Int)==2)=false:=by simp;omega
 all_goals
  try have M:((s.extract 0 6).toList== [97,102,116,101,114,46])=false:=by simpa[y] using f
  try clear d f
 all_goals
  clear r x;go_enter func132,ntmps132
  go_wp2_with fail;have E:Calls prog 121 #[k] w (zeX k w):=zbT k c w;refine E.mono ?_;rintro e N ⟨a,F,rfl,z,l⟩;have G:=I z;have A:=I l;have B:=zdF k;clear z l;go_wp2_with fail;go_loop [7] (λi=>∃j:Nat,j<=(zk k).length/\i=.int .i64 j/\ztR (∀m,m<j->sAt (zk k) m≠s)) (λi=>(zk k).length-(intOf i).toNat)
  case atStart=>exact⟨0,ztX _,rfl,I (λm hm=>absurd hm (Nat.not_lt_zero _))⟩
  obtain⟨j,P,rfl,g⟩:=hrel;by_cases n:j<(zk k).length
  . obtain⟨b,H,rfl,Q,o⟩:=G.1.cells (by omega);have R:=o j n;clear o;cases e:((sAt (zk k) j).toList==s.toList)
    . have p:=I (show ∀m,m<j+1->sAt (zk k) m≠s from λm hm=>by
       by_cases t:m=j
       . subst t;rw[zV]at e;simpa using e
       exact g.1 m (by omega))
      go_wp2_with fail;go_round
      case rel=>exact⟨j+1,by omega,by go_num,p⟩
      case measure=>simp[intOf];omega
    have u:sAt (zk k) j=s:=by rw[zV]at e;simpa using e
    have q:zad k s=zah s:=by rw[<-u];exact zjI c n (by intro h;rw[u];exact C.1 h)
    clear u g;cases S:(s.toList== [108,101,103,115]);cases T:(s.toList== [104,101,97,100,115]);cases U:(s.toList== [116,121,112,101,115]);cases V:(s.toList== [110,105,103,104,116,115]);cases W:(s.toList== [100,117,116,105,101,115]);cases X:(s.toList== [100,97,121,115]);cases Y:(s.toList== [115,116,97,114,116]);cases Z:(s.toList== [101,110,100]);cases n8:(s.toList== [104,111,109,101])
    all_goals
     simp only[zah,zN,kNum,kClk,List.any_cons,List.any_nil, *,Bool.true_or,Bool.or_true,Bool.false_or,Bool.or_false,zt4,if_true,if_false]at q;replace q:=I q;go_wp2_with fail;go_ret2;exact⟨by rw[q.1];rfl,A.1⟩
  obtain rfl:j=(zk k).length:=by omega
  have K:=I (zd2 c (zej.none_wi g.1));have v:=I (show zad k s=0 from K.1);go_wp2_with fail;go_ret2;exact⟨by rw[v.1];rfl,A.1⟩
theorem zeh(s:ByteArray)(w:World):Calls prog 132 #[.int .i64 1,.string s] w λe w'=>e=.returned (.tuple #[(zad 1 s),(erK (zad 1 s))])/\Bw w w':=zfq 1 (by decide) s (λh=>absurd h (by decide)) w
theorem zpF{s:ByteArray}(h:zgE s=true):zad 2 s=zad 1 (s.extract 7 s.size):=by
 rw[zgE,zt5]at h;have d:7<s.size:=by simpa using h.1
 have b:preB s befW=true:=by
  rw[preB,zt5];exact⟨decide_eq_true (by show 7<=s.size;omega),by rw[show befW.toList= [98,101,102,111,114,101,46] from Lib.toList_data _];exact h.2⟩
 have a:∀L:List UInt8,L.take 1≠ [98]->(s.toList==L)=false:=λL hL=>by
  rw[beq_eq_false_iff_ne];intro e;have c:=zdU b;apply hL
  rw[<-e,c,Lib.toList_data];rfl
 show zcX s=zfm _
 unfold zcX
 rw[a _ (by decide),a _ (by decide),a _ (by decide)];simp[b]
theorem zpG{s:ByteArray}(j:zgE s=false)(h:zju s=true):zad 2 s=zad 1 (s.extract 6 s.size):=by
 rw[zju,zt5]at h;have k:6<s.size:=by simpa using h.1
 have a:preB s aftW=true:=by
  rw[preB,zt5];exact⟨decide_eq_true (by show 6<=s.size;omega),by rw[show aftW.toList= [97,102,116,101,114,46] from Lib.toList_data _];exact h.2⟩
 have b:∀L:List UInt8,L.take 1≠ [97]->(s.toList==L)=false:=λL hL=>by
  rw[beq_eq_false_iff_ne];intro e;have c:=zdU a;apply hL
  rw[<-e,c,Lib.toList_data];rfl
 have d:preB s befW=false:=by
  cases f:preB s befW
  . rfl
  have i:=zdU a;have c:=zdU f;have:(s.toList).take 1= [97]:=by rw[i,Lib.toList_data];rfl
  have g:(s.toList).take 1= [98]:=by rw[c,Lib.toList_data];rfl
  rw[this]at g;exact absurd g (by decide)
 show zcX s=zfm _
 unfold zcX
 rw[b _ (by decide),b _ (by decide),b _ (by decide),d];simp[a]
theorem zgD(s:ByteArray)(w:World)(i:s.size<=140737488355328)(h:zgE s=true\/(zgE s=false/\zju s=true)):Calls prog 132 #[.int .i64 2,.string s] w λe w'=>e=.returned (.tuple #[(zad 2 s),(erK (zad 2 s))])/\Bw w w':=by
 rcases h with h|⟨h,b⟩
 . have c:=I (zpF h);rw[zgE,zt5]at h;have d:7<s.size:=by simpa using h.1
   have g:=h.2;clear h;go_enter func132,ntmps132
   go_wp2_with fail;refine ca (zeh _ _) λf a=>?_;go_wp2_with fail;go_ret2;exact⟨by rw[c.1];rfl,a⟩
 have c:=I (zpG h b);rw[zgE]at h;rw[zju,zt5]at b;have j:6<s.size:=by simpa using b.1
 have k:=b.2;clear b;by_cases d:7<s.size
 . have g:((s.extract 0 7).toList== [98,101,102,111,114,101,46])=false:=by simpa[d] using h
   clear h;go_enter func132,ntmps132
   go_wp2_with fail;refine ca (zeh _ _) λf a=>?_;go_wp2_with fail;go_ret2;exact⟨by rw[c.1];rfl,a⟩
 clear h;go_enter func132,ntmps132
 go_wp2_with fail;refine ca (zeh _ _) λf a=>?_;go_wp2_with fail;go_ret2;exact⟨by rw[c.1];rfl,a⟩
theorem zeg(k:Nat)(c:k<4)(s:ByteArray)(w:World)(b:s.size<=140737488355328):Calls prog 132 #[k,.string s] w λe w'=>e=.returned (.tuple #[(zad k s),(erK (zad k s))])/\Bw w w':=by
 by_cases h:k=2->zgE s=false/\zju s=false
 . exact zfq k c s h w
 obtain⟨rfl,h⟩:=Classical.not_imp.1 h;cases a:zgE s
 . exact zgD s w b (.inr ⟨a,by simpa[a] using h⟩)
 exact zgD s w b (.inl a)
theorem zoo(s:ByteArray)(w:World)(q:s.size<=140737488355328):Calls prog 126 #[.string s] w λe w'=>e=.returned (.bool (zen s))/\Bw w w':=by
 go_enter func126,ntmps126
 go_wp2_with fail;go_loopw [3] (λi wr=>∃j:Nat,1<=j/\j<=4/\i=.int .i64 j/\ztR (∀m:Nat,1<=m->m<j->zad m s=0)/\ztR (Bw w wr)) (λi _=>4-(intOf i).toNat)
 case atStart=>exact⟨1,by omega,by omega,rfl,I (λm p h2=>by omega),I (ztT _ _)⟩
 obtain⟨j,p,y,rfl,a,b⟩:=hrel;by_cases h:j<=3
 . have c:(j:Int)<=3:=by omega
   go_wp2_with fail;refine ca (zeg j (by omega) s wr q) λz d=>?_;have f:=I (ztS b.1 d);clear d;by_cases e:zad j s=0
   . have g:=I (show ∀m:Nat,1<=m->m<j+1->zad m s=0 from λm g1 g2=>by
      by_cases r:m=j
      . subst r;exact e
      exact a.1 m g1 (by omega))
     have t:(erK (zad j s)==0)=false:=by rw[e];rfl
     clear e;go_wp2_with fail;go_roundw
     case rel=>exact⟨j+1,by omega,by omega,by go_num,g,f⟩
     case measure=>simp[intOf];omega
   have k:=I (zlc p h e);have t:(erK (zad j s)==0)=true:=by rw[erK,if_neg e];rfl
   clear e;go_wp2_with fail;go_ret;exact⟨zz k.1.symm,f.1⟩
 have c:¬ (j:Int)<=3:=by omega
 have k:=I (show zen s=false by
  have u:=a.1 1 (by omega) (by omega);have v:=a.1 2 (by omega) (by omega);have x:=a.1 3 (by omega) (by omega);have l:zad 1 s=0:=u;have n:zad 2 s=0:=v;have o:zad 3 s=0:=x;unfold zen;rw[l,n,o];rfl)
 go_wp2_with fail;go_ret;exact⟨zz k.1.symm,b.1⟩
end Go.Proofs.YtbhhejkolnigfaaGreat
