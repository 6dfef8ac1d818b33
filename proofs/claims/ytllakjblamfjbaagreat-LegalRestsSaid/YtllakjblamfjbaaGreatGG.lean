/- a part of the proof -/
import Derived.Test.YtllakjblamfjbaaGreatG5
import Derived.Test.YtllakjblamfjbaaGreatGF
set_option linter.unusedVariables false
set_option linter.unusedSimpArgs false
set_option maxRecDepth 100000
set_option maxHeartbeats 51200000
namespace Go.Proofs.YtllakjblamfjbaaGreat
open Go.RowKit Go.Sort Go.Proofs.Tryz
def ciI(l:List zB)(s:ByteArray):Int:=match fi l s with
 |some i=>(i:Int)
 |none=>-1
theorem zmg{X:Type}(nm:X→ByteArray)(s:ByteArray):∀(k:Nat) (l:List X),ixF nm s k l=match l.findIdx? (fun x=>decide (nm x=s)) with|some i=>((k+i:Nat):Int)|none=>-1
 |k, []=>rfl
 |k,x::l=>by
  rw[ixF,List.findIdx?_cons];by_cases h:nm x=s
  · simp[h]
  rw[if_neg h,zmg nm s (k+1) l];simp only[h,decide_false,zt4,if_false];cases l.findIdx? (fun x=>decide (nm x=s)) with
  |none=>rfl
  |some i=>show((k+1+i:Nat):Int)=((k+(i+1):Nat):Int);omega
theorem ixF_ci(l:List zB)(s:ByteArray):ixF zB.name s 0 l=ciI l s:=by
 rw[zmg];unfold ciI fi;cases l.findIdx? (fun x=>decide (x.name=s)) with
 |none=>rfl
 |some i=>simp
theorem zhV(l:List zB)(s:ByteArray)(a:zua)(cap:Nat)(B:Nat)(w:World)(p:B≤w.heap.size)(g:zbd B w a l):Calls prog 149 #[.slice a l.length cap,.string s] w fun e w'=>e=.returned (.int .i64 (ciI l s))∧w=w':=by
 have q:=g.1;have j:=I g;clear g;go_enter func149,ntmps149
 go_wp2_with fail;go_loop [5] (fun i=>∃k:Nat,k≤l.length∧i=.int .i64 k∧ztR (ciI l s=ixF zB.name s k (l.drop k))) (fun i=>l.length-(intOf i).toNat)
 case atStart=>exact⟨0,ztX _,rfl,I (ixF_ci l s).symm⟩
 obtain⟨k,r,rfl,h⟩:=hrel;by_cases c:k<l.length
 · obtain⟨b,m,rfl,t,d⟩:=j.1.cells (by omega);have u:=(d k c).1;have n:b<w.heap.size:=by omega
   clear d;by_cases e:(csAt l k).name=s
   · have o:((csAt l k).name.toList==s.toList)=true:=by rw[zV];simpa using e
     have f:=I (h.1.trans (by rw[zgf l k c,ixF,if_pos e]));clear e;go_wp2_with fail;go_ret;exact⟨ze f.1.symm,rfl⟩
   have o:((csAt l k).name.toList==s.toList)=false:=by rw[zV];simpa using e
   have f:=I (h.1.trans (by rw[zgf l k c,ixF,if_neg e]));clear e;go_wp2_with fail;go_round
   case rel=>exact⟨k+1,by omega,by go_num,f⟩
   case measure=>simp[intOf];omega
 obtain rfl:k=l.length:=by omega
 have f:=I (h.1.trans (by rw[zt6,ixF]));go_wp2_with fail;go_ret;exact⟨ze f.1.symm,rfl⟩
theorem zK(l:List Int)(k:Int)(a:zua)(cap:Nat)(w:World)(p:l.length≤140737488355328)(h:zW w a l):Calls prog 259 #[.slice a l.length cap,.int .i64 k] w fun e w'=>e=.returned (.bool (allB l k))∧w=w':=by
 have m:=I h;clear h;go_enter func259,ntmps259
 go_wp2_with fail;go_loop [5] (fun i=>∃j:Nat,j≤l.length∧i=.int .i64 j∧ztR (allB l k=allB (l.drop j) k)) (fun i=>l.length-(intOf i).toNat)
 case atStart=>exact⟨0,ztX _,rfl,I rfl⟩
 obtain⟨j,q,rfl,c⟩:=hrel;by_cases d:j<l.length
 · obtain⟨b,n,rfl,r,f⟩:=m.1.cells (by omega);have s:=f j d;clear f m;cases e:(iAt l j==k)
   · have g:=I (show allB l k=false by rw[c.1,zhG l j d,allB,e];rfl);have o:(iAt l j !=k)=true:=by simpa using e
     clear e;go_wp2_with fail;go_ret;exact⟨zz g.1.symm,rfl⟩
   have g:=I (show allB l k=allB (l.drop (j+1)) k by rw[c.1,zhG l j d,allB,e];rfl);have o:(iAt l j !=k)=false:=by simpa using e
   clear e;go_wp2_with fail;go_round
   case rel=>exact⟨j+1,by omega,by go_num,g⟩
   case measure=>simp[intOf];omega
 obtain rfl:j=l.length:=by omega
 have g:=I (show allB l k=true by rw[c.1,zt6,allB]);go_wp2_with fail;go_ret;exact⟨zz g.1.symm,rfl⟩
theorem zF(x y k:Int):allB [x,y] k=((x==k)&&(y==k)):=by simp[allB]
theorem zhr{o:Int}{t:List Int}(d:((o==7) || (o==8) || (o==9) || (o==12) || (o==13))=true)(e:t≠ []):resK o t=if allB t 1=true then 1 else if allB t 2=true then 2 else 0:=by
 obtain⟨x,r,rfl⟩:∃x r,t=x::r:=by cases t with
  |nil=>exact absurd rfl e
  |cons x r=>exact⟨x,r,rfl⟩
 have h:resK o (x::r)=if(amtB x&&allB (x::r) x)=true then x else 0:=by
  have a:o=7∨o=8∨o=9∨o=12∨o=13:=by
   simp only[Bool.or_eq_true,beq_iff_eq]at d;omega
  rcases a with rfl|rfl|rfl|rfl|rfl <;> rfl
 rw[h];by_cases b:x=1
 · subst b;simp[amtB,allB]
 by_cases c:x=2
 · subst c;simp[amtB,allB]
 have f:(x==1)=false:=by simpa using b
 have g:(x==2)=false:=by simpa using c
 simp[amtB,allB,f,g]
theorem zbK(o x y:Int)(d:o=16∨o=17){p q r s:Bool}(f:(x==1)=p)(i:(x==2)=q)(j:(y==1)=r)(k:(y==2)=s):resK o [x,y]=if((p&&r) || (q&&s))=true then 4 else 0:=by
 have h:resK o [x,y]=if(amtB x&&(x==y))=true then 4 else 0:=by rcases d with rfl|rfl <;> rfl
 rw[h,←f,←i,←j,←k];by_cases b:x=1
 · subst b;by_cases g:y=1
   · subst g;rfl
   have:(1==y)=false:=by simpa using fun e=>g e.symm
   have a:(y==1)=false:=by simpa using g
   rw[this,a];rfl
 by_cases c:x=2
 · subst c;by_cases g:y=2
   · subst g;rfl
   have:(2==y)=false:=by simpa using fun e=>g e.symm
   have a:(y==2)=false:=by simpa using g
   rw[this,a];rfl
 have l:(x==1)=false:=by simpa using b
 have m:(x==2)=false:=by simpa using c
 simp[amtB,l,m]
def zsp(o:Int)(n:Nat):Prop:=1≤o∧o≤22∧o≠6∧zL o n=true
theorem zpD(t:List Int)(a:zua)(cap:Nat)(w:World)(d:t.length≤140737488355328)(b:zW w a t):Calls prog 210 #[.int .i64 1,.slice a t.length cap] w fun e w'=>e=.returned (.int .i64 (resK 1 t))∧Below w.heap.size w w':=by
 have f:=I b;clear b;have c:=I (show resK 1 t=1 from rfl);go_enter func210,ntmps210
 go_wp2_with fail;go_ret;exact⟨ze c.1.symm,ztT _ _⟩
theorem zpC(t:List Int)(a:zua)(cap:Nat)(w:World)(d:t.length≤140737488355328)(b:zW w a t):Calls prog 210 #[.int .i64 2,.slice a t.length cap] w fun e w'=>e=.returned (.int .i64 (resK 2 t))∧Below w.heap.size w w':=by
 have f:=I b;clear b;have c:=I (show resK 2 t=2 from rfl);go_enter func210,ntmps210
 go_wp2_with fail;go_ret;exact⟨ze c.1.symm,ztT _ _⟩
theorem zpB(t:List Int)(a:zua)(cap:Nat)(w:World)(d:t.length≤140737488355328)(b:zW w a t):Calls prog 210 #[.int .i64 3,.slice a t.length cap] w fun e w'=>e=.returned (.int .i64 (resK 3 t))∧Below w.heap.size w w':=by
 have f:=I b;clear b;have c:=I (show resK 3 t=3 from rfl);go_enter func210,ntmps210
 go_wp2_with fail;go_ret;exact⟨ze c.1.symm,ztT _ _⟩
theorem zpA(t:List Int)(a:zua)(cap:Nat)(w:World)(d:t.length≤140737488355328)(b:zW w a t):Calls prog 210 #[.int .i64 4,.slice a t.length cap] w fun e w'=>e=.returned (.int .i64 (resK 4 t))∧Below w.heap.size w w':=by
 have f:=I b;clear b;have c:=I (show resK 4 t=4 from rfl);go_enter func210,ntmps210
 go_wp2_with fail;go_ret;exact⟨ze c.1.symm,ztT _ _⟩
theorem zpz(t:List Int)(a:zua)(cap:Nat)(w:World)(d:t.length≤140737488355328)(b:zW w a t):Calls prog 210 #[.int .i64 5,.slice a t.length cap] w fun e w'=>e=.returned (.int .i64 (resK 5 t))∧Below w.heap.size w w':=by
 have f:=I b;clear b;have c:=I (show resK 5 t=4 from rfl);go_enter func210,ntmps210
 go_wp2_with fail;go_ret;exact⟨ze c.1.symm,ztT _ _⟩
theorem zpy(t:List Int)(a:zua)(cap:Nat)(w:World)(d:t.length≤140737488355328)(j:zW w a t)(f:t≠ []):Calls prog 210 #[.int .i64 7,.slice a t.length cap] w fun e c=>e=.returned (.int .i64 (resK 7 t))∧Below w.heap.size w c:=by
 have g:=I j;clear j;have h:=I (zhr (o:=7) (t:=t) (by decide) f);cases i:allB t 1
 · cases k:allB t 2
   · have b:=I (show resK 7 t=0 by rw[h.1,i,k];rfl);go_enter func210,ntmps210
     go_wp2_with (go_at_call 259;refine(zK _ _ _ _ _ d g.1).mono ?_;rintro e c ⟨rfl,rfl⟩)
     go_ret;exact⟨ze b.1.symm,ztT _ _⟩
   have b:=I (show resK 7 t=2 by rw[h.1,i,k];rfl);go_enter func210,ntmps210
   go_wp2_with (go_at_call 259;refine(zK _ _ _ _ _ d g.1).mono ?_;rintro e c ⟨rfl,rfl⟩)
   go_ret;exact⟨ze b.1.symm,ztT _ _⟩
 have b:=I (show resK 7 t=1 by rw[h.1,i];rfl);go_enter func210,ntmps210
 go_wp2_with (go_at_call 259;refine(zK _ _ _ _ _ d g.1).mono ?_;rintro e c ⟨rfl,rfl⟩)
 go_ret;exact⟨ze b.1.symm,ztT _ _⟩
theorem zpx(t:List Int)(a:zua)(cap:Nat)(w:World)(d:t.length≤140737488355328)(j:zW w a t)(f:t≠ []):Calls prog 210 #[.int .i64 8,.slice a t.length cap] w fun e c=>e=.returned (.int .i64 (resK 8 t))∧Below w.heap.size w c:=by
 have g:=I j;clear j;have h:=I (zhr (o:=8) (t:=t) (by decide) f);cases i:allB t 1
 · cases k:allB t 2
   · have b:=I (show resK 8 t=0 by rw[h.1,i,k];rfl);go_enter func210,ntmps210
     go_wp2_with (go_at_call 259;refine(zK _ _ _ _ _ d g.1).mono ?_;rintro e c ⟨rfl,rfl⟩)
     go_ret;exact⟨ze b.1.symm,ztT _ _⟩
   have b:=I (show resK 8 t=2 by rw[h.1,i,k];rfl);go_enter func210,ntmps210
   go_wp2_with (go_at_call 259;refine(zK _ _ _ _ _ d g.1).mono ?_;rintro e c ⟨rfl,rfl⟩)
   go_ret;exact⟨ze b.1.symm,ztT _ _⟩
 have b:=I (show resK 8 t=1 by rw[h.1,i];rfl);go_enter func210,ntmps210
 go_wp2_with (go_at_call 259;refine(zK _ _ _ _ _ d g.1).mono ?_;rintro e c ⟨rfl,rfl⟩)
 go_ret;exact⟨ze b.1.symm,ztT _ _⟩
theorem zpw(t:List Int)(a:zua)(cap:Nat)(w:World)(d:t.length≤140737488355328)(j:zW w a t)(f:t≠ []):Calls prog 210 #[.int .i64 9,.slice a t.length cap] w fun e c=>e=.returned (.int .i64 (resK 9 t))∧Below w.heap.size w c:=by
 have g:=I j;clear j;have h:=I (zhr (o:=9) (t:=t) (by decide) f);cases i:allB t 1
 · cases k:allB t 2
   · have b:=I (show resK 9 t=0 by rw[h.1,i,k];rfl);go_enter func210,ntmps210
     go_wp2_with (go_at_call 259;refine(zK _ _ _ _ _ d g.1).mono ?_;rintro e c ⟨rfl,rfl⟩)
     go_ret;exact⟨ze b.1.symm,ztT _ _⟩
   have b:=I (show resK 9 t=2 by rw[h.1,i,k];rfl);go_enter func210,ntmps210
   go_wp2_with (go_at_call 259;refine(zK _ _ _ _ _ d g.1).mono ?_;rintro e c ⟨rfl,rfl⟩)
   go_ret;exact⟨ze b.1.symm,ztT _ _⟩
 have b:=I (show resK 9 t=1 by rw[h.1,i];rfl);go_enter func210,ntmps210
 go_wp2_with (go_at_call 259;refine(zK _ _ _ _ _ d g.1).mono ?_;rintro e c ⟨rfl,rfl⟩)
 go_ret;exact⟨ze b.1.symm,ztT _ _⟩
theorem zn3(t:List Int)(a:zua)(cap:Nat)(w:World)(d:t.length≤140737488355328)(j:zW w a t)(f:t≠ []):Calls prog 210 #[.int .i64 12,.slice a t.length cap] w fun e c=>e=.returned (.int .i64 (resK 12 t))∧Below w.heap.size w c:=by
 have g:=I j;clear j;have h:=I (zhr (o:=12) (t:=t) (by decide) f);cases i:allB t 1
 · cases k:allB t 2
   · have b:=I (show resK 12 t=0 by rw[h.1,i,k];rfl);go_enter func210,ntmps210
     go_wp2_with (go_at_call 259;refine(zK _ _ _ _ _ d g.1).mono ?_;rintro e c ⟨rfl,rfl⟩)
     go_ret;exact⟨ze b.1.symm,ztT _ _⟩
   have b:=I (show resK 12 t=2 by rw[h.1,i,k];rfl);go_enter func210,ntmps210
   go_wp2_with (go_at_call 259;refine(zK _ _ _ _ _ d g.1).mono ?_;rintro e c ⟨rfl,rfl⟩)
   go_ret;exact⟨ze b.1.symm,ztT _ _⟩
 have b:=I (show resK 12 t=1 by rw[h.1,i];rfl);go_enter func210,ntmps210
 go_wp2_with (go_at_call 259;refine(zK _ _ _ _ _ d g.1).mono ?_;rintro e c ⟨rfl,rfl⟩)
 go_ret;exact⟨ze b.1.symm,ztT _ _⟩
theorem zn2(t:List Int)(a:zua)(cap:Nat)(w:World)(d:t.length≤140737488355328)(j:zW w a t)(f:t≠ []):Calls prog 210 #[.int .i64 13,.slice a t.length cap] w fun e c=>e=.returned (.int .i64 (resK 13 t))∧Below w.heap.size w c:=by
 have g:=I j;clear j;have h:=I (zhr (o:=13) (t:=t) (by decide) f);cases i:allB t 1
 · cases k:allB t 2
   · have b:=I (show resK 13 t=0 by rw[h.1,i,k];rfl);go_enter func210,ntmps210
     go_wp2_with (go_at_call 259;refine(zK _ _ _ _ _ d g.1).mono ?_;rintro e c ⟨rfl,rfl⟩)
     go_ret;exact⟨ze b.1.symm,ztT _ _⟩
   have b:=I (show resK 13 t=2 by rw[h.1,i,k];rfl);go_enter func210,ntmps210
   go_wp2_with (go_at_call 259;refine(zK _ _ _ _ _ d g.1).mono ?_;rintro e c ⟨rfl,rfl⟩)
   go_ret;exact⟨ze b.1.symm,ztT _ _⟩
 have b:=I (show resK 13 t=1 by rw[h.1,i];rfl);go_enter func210,ntmps210
 go_wp2_with (go_at_call 259;refine(zK _ _ _ _ _ d g.1).mono ?_;rintro e c ⟨rfl,rfl⟩)
 go_ret;exact⟨ze b.1.symm,ztT _ _⟩
theorem zn5(t:List Int)(a:zua)(cap:Nat)(w:World)(k:t.length≤140737488355328)(p:zW w a t)(q:t.length=2):Calls prog 210 #[.int .i64 10,.slice a t.length cap] w fun e i=>e=.returned (.int .i64 (resK 10 t))∧Below w.heap.size w i:=by
 have j:=I p;clear p;obtain⟨x,y,rfl⟩:∃x y,t= [x,y]:=by
  match t,q with
  |[x,y],_=>exact⟨x,y,rfl⟩
 clear q;obtain⟨b,o,rfl,r,n⟩:=j.1.cells (by simp);have s:w.cell? ⟨b,o,none⟩=some (.int .i64 x):=n 0 (by simp);have u:w.cell? ⟨b,o+1,none⟩=some (.int .i64 y):=n 1 (by simp);clear n;cases g:(x==1)
 · skip
   cases f:(x==2)
   · skip
     cases d:(y==1)
     · skip
       cases c:(y==2)
       · skip
         have l:allB [x,y] 1=false:=by rw[zF,g,d];rfl
         have m:allB [x,y] 2=false:=by rw[zF,f,c];rfl
         have h:=I (show resK 10 [x,y]=0 by simp[resK,zde,cmpB,amtB,iAt,allB,g,f,d,c]);go_enter func210,ntmps210
         go_wp2_with (go_at_call 259;refine(zK _ _ _ _ _ k j.1).mono ?_;rintro e i ⟨rfl,rfl⟩)
         go_ret;exact⟨ze h.1.symm,ztT _ _⟩
       skip
       have l:allB [x,y] 1=false:=by rw[zF,g,d];rfl
       have m:allB [x,y] 2=false:=by rw[zF,f,c];rfl
       have h:=I (show resK 10 [x,y]=0 by simp[resK,zde,cmpB,amtB,iAt,allB,g,f,d,c]);go_enter func210,ntmps210
       go_wp2_with (go_at_call 259;refine(zK _ _ _ _ _ k j.1).mono ?_;rintro e i ⟨rfl,rfl⟩)
       go_ret;exact⟨ze h.1.symm,ztT _ _⟩
     skip
     cases c:(y==2)
     · skip
       have l:allB [x,y] 1=false:=by rw[zF,g,d];rfl
       have m:allB [x,y] 2=false:=by rw[zF,f,c];rfl
       have h:=I (show resK 10 [x,y]=0 by simp[resK,zde,cmpB,amtB,iAt,allB,g,f,d,c]);go_enter func210,ntmps210
       go_wp2_with (go_at_call 259;refine(zK _ _ _ _ _ k j.1).mono ?_;rintro e i ⟨rfl,rfl⟩)
       go_ret;exact⟨ze h.1.symm,ztT _ _⟩
     skip
     exfalso;simp only[beq_iff_eq]at d c;omega
   skip
   cases d:(y==1)
   · skip
     cases c:(y==2)
     · skip
       have l:allB [x,y] 1=false:=by rw[zF,g,d];rfl
       have m:allB [x,y] 2=false:=by rw[zF,f,c];rfl
       have h:=I (show resK 10 [x,y]=0 by simp[resK,zde,cmpB,amtB,iAt,allB,g,f,d,c]);go_enter func210,ntmps210
       go_wp2_with (go_at_call 259;refine(zK _ _ _ _ _ k j.1).mono ?_;rintro e i ⟨rfl,rfl⟩)
       go_ret;exact⟨ze h.1.symm,ztT _ _⟩
     skip
     have l:allB [x,y] 1=false:=by rw[zF,g,d];rfl
     have m:allB [x,y] 2=true:=by rw[zF,f,c];rfl
     have h:=I (show resK 10 [x,y]=0 by simp[resK,zde,cmpB,amtB,iAt,allB,g,f,d,c]);go_enter func210,ntmps210
     go_wp2_with (go_at_call 259;refine(zK _ _ _ _ _ k j.1).mono ?_;rintro e i ⟨rfl,rfl⟩)
     go_ret;exact⟨ze h.1.symm,ztT _ _⟩
   skip
   cases c:(y==2)
   · skip
     have l:allB [x,y] 1=false:=by rw[zF,g,d];rfl
     have m:allB [x,y] 2=false:=by rw[zF,f,c];rfl
     have h:=I (show resK 10 [x,y]=2 by simp[resK,zde,cmpB,amtB,iAt,allB,g,f,d,c]);go_enter func210,ntmps210
     go_wp2_with (go_at_call 259;refine(zK _ _ _ _ _ k j.1).mono ?_;rintro e i ⟨rfl,rfl⟩)
     go_ret;exact⟨ze h.1.symm,ztT _ _⟩
   skip
   exfalso;simp only[beq_iff_eq]at d c;omega
 skip
 cases f:(x==2)
 · skip
   cases d:(y==1)
   · skip
     cases c:(y==2)
     · skip
       have l:allB [x,y] 1=false:=by rw[zF,g,d];rfl
       have m:allB [x,y] 2=false:=by rw[zF,f,c];rfl
       have h:=I (show resK 10 [x,y]=0 by simp[resK,zde,cmpB,amtB,iAt,allB,g,f,d,c]);go_enter func210,ntmps210
       go_wp2_with (go_at_call 259;refine(zK _ _ _ _ _ k j.1).mono ?_;rintro e i ⟨rfl,rfl⟩)
       go_ret;exact⟨ze h.1.symm,ztT _ _⟩
     skip
     have l:allB [x,y] 1=false:=by rw[zF,g,d];rfl
     have m:allB [x,y] 2=false:=by rw[zF,f,c];rfl
     have h:=I (show resK 10 [x,y]=2 by simp[resK,zde,cmpB,amtB,iAt,allB,g,f,d,c]);go_enter func210,ntmps210
     go_wp2_with (go_at_call 259;refine(zK _ _ _ _ _ k j.1).mono ?_;rintro e i ⟨rfl,rfl⟩)
     go_ret;exact⟨ze h.1.symm,ztT _ _⟩
   skip
   cases c:(y==2)
   · skip
     have l:allB [x,y] 1=true:=by rw[zF,g,d];rfl
     have m:allB [x,y] 2=false:=by rw[zF,f,c];rfl
     have h:=I (show resK 10 [x,y]=1 by simp[resK,zde,cmpB,amtB,iAt,allB,g,f,d,c]);go_enter func210,ntmps210
     go_wp2_with (go_at_call 259;refine(zK _ _ _ _ _ k j.1).mono ?_;rintro e i ⟨rfl,rfl⟩)
     go_ret;exact⟨ze h.1.symm,ztT _ _⟩
   skip
   exfalso;simp only[beq_iff_eq]at d c;omega
 skip
 cases d:(y==1)
 · skip
   cases c:(y==2)
   · skip
     exfalso;simp only[beq_iff_eq]at g f;omega
   skip
   exfalso;simp only[beq_iff_eq]at g f;omega
 skip
 cases c:(y==2)
 · skip
   exfalso;simp only[beq_iff_eq]at g f;omega
 skip
 exfalso;simp only[beq_iff_eq]at g f;omega
theorem zn4(t:List Int)(a:zua)(cap:Nat)(w:World)(k:t.length≤140737488355328)(p:zW w a t)(q:t.length=2):Calls prog 210 #[.int .i64 11,.slice a t.length cap] w fun e i=>e=.returned (.int .i64 (resK 11 t))∧Below w.heap.size w i:=by
 have j:=I p;clear p;obtain⟨x,y,rfl⟩:∃x y,t= [x,y]:=by
  match t,q with
  |[x,y],_=>exact⟨x,y,rfl⟩
 clear q;obtain⟨b,o,rfl,r,n⟩:=j.1.cells (by simp);have s:w.cell? ⟨b,o,none⟩=some (.int .i64 x):=n 0 (by simp);have u:w.cell? ⟨b,o+1,none⟩=some (.int .i64 y):=n 1 (by simp);clear n;cases g:(x==1)
 · skip
   cases f:(x==2)
   · skip
     cases d:(y==1)
     · skip
       cases c:(y==2)
       · skip
         have l:allB [x,y] 1=false:=by rw[zF,g,d];rfl
         have m:allB [x,y] 2=false:=by rw[zF,f,c];rfl
         have h:=I (show resK 11 [x,y]=0 by simp[resK,zde,cmpB,amtB,iAt,allB,g,f,d,c]);go_enter func210,ntmps210
         go_wp2_with (go_at_call 259;refine(zK _ _ _ _ _ k j.1).mono ?_;rintro e i ⟨rfl,rfl⟩)
         go_ret;exact⟨ze h.1.symm,ztT _ _⟩
       skip
       have l:allB [x,y] 1=false:=by rw[zF,g,d];rfl
       have m:allB [x,y] 2=false:=by rw[zF,f,c];rfl
       have h:=I (show resK 11 [x,y]=0 by simp[resK,zde,cmpB,amtB,iAt,allB,g,f,d,c]);go_enter func210,ntmps210
       go_wp2_with (go_at_call 259;refine(zK _ _ _ _ _ k j.1).mono ?_;rintro e i ⟨rfl,rfl⟩)
       go_ret;exact⟨ze h.1.symm,ztT _ _⟩
     skip
     cases c:(y==2)
     · skip
       have l:allB [x,y] 1=false:=by rw[zF,g,d];rfl
       have m:allB [x,y] 2=false:=by rw[zF,f,c];rfl
       have h:=I (show resK 11 [x,y]=0 by simp[resK,zde,cmpB,amtB,iAt,allB,g,f,d,c]);go_enter func210,ntmps210
       go_wp2_with (go_at_call 259;refine(zK _ _ _ _ _ k j.1).mono ?_;rintro e i ⟨rfl,rfl⟩)
       go_ret;exact⟨ze h.1.symm,ztT _ _⟩
     skip
     exfalso;simp only[beq_iff_eq]at d c;omega
   skip
   cases d:(y==1)
   · skip
     cases c:(y==2)
     · skip
       have l:allB [x,y] 1=false:=by rw[zF,g,d];rfl
       have m:allB [x,y] 2=false:=by rw[zF,f,c];rfl
       have h:=I (show resK 11 [x,y]=0 by simp[resK,zde,cmpB,amtB,iAt,allB,g,f,d,c]);go_enter func210,ntmps210
       go_wp2_with (go_at_call 259;refine(zK _ _ _ _ _ k j.1).mono ?_;rintro e i ⟨rfl,rfl⟩)
       go_ret;exact⟨ze h.1.symm,ztT _ _⟩
     skip
     have l:allB [x,y] 1=false:=by rw[zF,g,d];rfl
     have m:allB [x,y] 2=true:=by rw[zF,f,c];rfl
     have h:=I (show resK 11 [x,y]=1 by simp[resK,zde,cmpB,amtB,iAt,allB,g,f,d,c]);go_enter func210,ntmps210
     go_wp2_with (go_at_call 259;refine(zK _ _ _ _ _ k j.1).mono ?_;rintro e i ⟨rfl,rfl⟩)
     go_ret;exact⟨ze h.1.symm,ztT _ _⟩
   skip
   cases c:(y==2)
   · skip
     have l:allB [x,y] 1=false:=by rw[zF,g,d];rfl
     have m:allB [x,y] 2=false:=by rw[zF,f,c];rfl
     have h:=I (show resK 11 [x,y]=2 by simp[resK,zde,cmpB,amtB,iAt,allB,g,f,d,c]);go_enter func210,ntmps210
     go_wp2_with (go_at_call 259;refine(zK _ _ _ _ _ k j.1).mono ?_;rintro e i ⟨rfl,rfl⟩)
     go_ret;exact⟨ze h.1.symm,ztT _ _⟩
   skip
   exfalso;simp only[beq_iff_eq]at d c;omega
 skip
 cases f:(x==2)
 · skip
   cases d:(y==1)
   · skip
     cases c:(y==2)
     · skip
       have l:allB [x,y] 1=false:=by rw[zF,g,d];rfl
       have m:allB [x,y] 2=false:=by rw[zF,f,c];rfl
       have h:=I (show resK 11 [x,y]=0 by simp[resK,zde,cmpB,amtB,iAt,allB,g,f,d,c]);go_enter func210,ntmps210
       go_wp2_with (go_at_call 259;refine(zK _ _ _ _ _ k j.1).mono ?_;rintro e i ⟨rfl,rfl⟩)
       go_ret;exact⟨ze h.1.symm,ztT _ _⟩
     skip
     have l:allB [x,y] 1=false:=by rw[zF,g,d];rfl
     have m:allB [x,y] 2=false:=by rw[zF,f,c];rfl
     have h:=I (show resK 11 [x,y]=0 by simp[resK,zde,cmpB,amtB,iAt,allB,g,f,d,c]);go_enter func210,ntmps210
     go_wp2_with (go_at_call 259;refine(zK _ _ _ _ _ k j.1).mono ?_;rintro e i ⟨rfl,rfl⟩)
     go_ret;exact⟨ze h.1.symm,ztT _ _⟩
   skip
   cases c:(y==2)
   · skip
     have l:allB [x,y] 1=true:=by rw[zF,g,d];rfl
     have m:allB [x,y] 2=false:=by rw[zF,f,c];rfl
     have h:=I (show resK 11 [x,y]=1 by simp[resK,zde,cmpB,amtB,iAt,allB,g,f,d,c]);go_enter func210,ntmps210
     go_wp2_with (go_at_call 259;refine(zK _ _ _ _ _ k j.1).mono ?_;rintro e i ⟨rfl,rfl⟩)
     go_ret;exact⟨ze h.1.symm,ztT _ _⟩
   skip
   exfalso;simp only[beq_iff_eq]at d c;omega
 skip
 cases d:(y==1)
 · skip
   cases c:(y==2)
   · skip
     exfalso;simp only[beq_iff_eq]at g f;omega
   skip
   exfalso;simp only[beq_iff_eq]at g f;omega
 skip
 cases c:(y==2)
 · skip
   exfalso;simp only[beq_iff_eq]at g f;omega
 skip
 exfalso;simp only[beq_iff_eq]at g f;omega
theorem znZ(t:List Int)(a:zua)(cap:Nat)(w:World)(k:t.length≤140737488355328)(p:zW w a t)(q:t.length=2):Calls prog 210 #[.int .i64 16,.slice a t.length cap] w fun e i=>e=.returned (.int .i64 (resK 16 t))∧Below w.heap.size w i:=by
 have j:=I p;clear p;obtain⟨x,y,rfl⟩:∃x y,t= [x,y]:=by
  match t,q with
  |[x,y],_=>exact⟨x,y,rfl⟩
 clear q;obtain⟨b,o,rfl,r,n⟩:=j.1.cells (by simp);have s:w.cell? ⟨b,o,none⟩=some (.int .i64 x):=n 0 (by simp);have u:w.cell? ⟨b,o+1,none⟩=some (.int .i64 y):=n 1 (by simp);clear n;cases g:(x==1)
 · skip
   cases f:(x==2)
   · skip
     cases d:(y==1)
     · skip
       cases c:(y==2)
       · skip
         have l:allB [x,y] 1=false:=by rw[zF,g,d];rfl
         have m:allB [x,y] 2=false:=by rw[zF,f,c];rfl
         have h:=I (show resK 16 [x,y]=0 by exact zbK 16 x y (by decide) g f d c);go_enter func210,ntmps210
         go_wp2_with (go_at_call 259;refine(zK _ _ _ _ _ k j.1).mono ?_;rintro e i ⟨rfl,rfl⟩)
         go_ret;exact⟨ze h.1.symm,ztT _ _⟩
       skip
       have l:allB [x,y] 1=false:=by rw[zF,g,d];rfl
       have m:allB [x,y] 2=false:=by rw[zF,f,c];rfl
       have h:=I (show resK 16 [x,y]=0 by exact zbK 16 x y (by decide) g f d c);go_enter func210,ntmps210
       go_wp2_with (go_at_call 259;refine(zK _ _ _ _ _ k j.1).mono ?_;rintro e i ⟨rfl,rfl⟩)
       go_ret;exact⟨ze h.1.symm,ztT _ _⟩
     skip
     cases c:(y==2)
     · skip
       have l:allB [x,y] 1=false:=by rw[zF,g,d];rfl
       have m:allB [x,y] 2=false:=by rw[zF,f,c];rfl
       have h:=I (show resK 16 [x,y]=0 by exact zbK 16 x y (by decide) g f d c);go_enter func210,ntmps210
       go_wp2_with (go_at_call 259;refine(zK _ _ _ _ _ k j.1).mono ?_;rintro e i ⟨rfl,rfl⟩)
       go_ret;exact⟨ze h.1.symm,ztT _ _⟩
     skip
     exfalso;simp only[beq_iff_eq]at d c;omega
   skip
   cases d:(y==1)
   · skip
     cases c:(y==2)
     · skip
       have l:allB [x,y] 1=false:=by rw[zF,g,d];rfl
       have m:allB [x,y] 2=false:=by rw[zF,f,c];rfl
       have h:=I (show resK 16 [x,y]=0 by exact zbK 16 x y (by decide) g f d c);go_enter func210,ntmps210
       go_wp2_with (go_at_call 259;refine(zK _ _ _ _ _ k j.1).mono ?_;rintro e i ⟨rfl,rfl⟩)
       go_ret;exact⟨ze h.1.symm,ztT _ _⟩
     skip
     have l:allB [x,y] 1=false:=by rw[zF,g,d];rfl
     have m:allB [x,y] 2=true:=by rw[zF,f,c];rfl
     have h:=I (show resK 16 [x,y]=4 by exact zbK 16 x y (by decide) g f d c);go_enter func210,ntmps210
     go_wp2_with (go_at_call 259;refine(zK _ _ _ _ _ k j.1).mono ?_;rintro e i ⟨rfl,rfl⟩)
     go_ret;exact⟨ze h.1.symm,ztT _ _⟩
   skip
   cases c:(y==2)
   · skip
     have l:allB [x,y] 1=false:=by rw[zF,g,d];rfl
     have m:allB [x,y] 2=false:=by rw[zF,f,c];rfl
     have h:=I (show resK 16 [x,y]=0 by exact zbK 16 x y (by decide) g f d c);go_enter func210,ntmps210
     go_wp2_with (go_at_call 259;refine(zK _ _ _ _ _ k j.1).mono ?_;rintro e i ⟨rfl,rfl⟩)
     go_ret;exact⟨ze h.1.symm,ztT _ _⟩
   skip
   exfalso;simp only[beq_iff_eq]at d c;omega
 skip
 cases f:(x==2)
 · skip
   cases d:(y==1)
   · skip
     cases c:(y==2)
     · skip
       have l:allB [x,y] 1=false:=by rw[zF,g,d];rfl
       have m:allB [x,y] 2=false:=by rw[zF,f,c];rfl
       have h:=I (show resK 16 [x,y]=0 by exact zbK 16 x y (by decide) g f d c);go_enter func210,ntmps210
       go_wp2_with (go_at_call 259;refine(zK _ _ _ _ _ k j.1).mono ?_;rintro e i ⟨rfl,rfl⟩)
       go_ret;exact⟨ze h.1.symm,ztT _ _⟩
     skip
     have l:allB [x,y] 1=false:=by rw[zF,g,d];rfl
     have m:allB [x,y] 2=false:=by rw[zF,f,c];rfl
     have h:=I (show resK 16 [x,y]=0 by exact zbK 16 x y (by decide) g f d c);go_enter func210,ntmps210
     go_wp2_with (go_at_call 259;refine(zK _ _ _ _ _ k j.1).mono ?_;rintro e i ⟨rfl,rfl⟩)
     go_ret;exact⟨ze h.1.symm,ztT _ _⟩
   skip
   cases c:(y==2)
   · skip
     have l:allB [x,y] 1=true:=by rw[zF,g,d];rfl
     have m:allB [x,y] 2=false:=by rw[zF,f,c];rfl
     have h:=I (show resK 16 [x,y]=4 by exact zbK 16 x y (by decide) g f d c);go_enter func210,ntmps210
     go_wp2_with (go_at_call 259;refine(zK _ _ _ _ _ k j.1).mono ?_;rintro e i ⟨rfl,rfl⟩)
     go_ret;exact⟨ze h.1.symm,ztT _ _⟩
   skip
   exfalso;simp only[beq_iff_eq]at d c;omega
 skip
 cases d:(y==1)
 · skip
   cases c:(y==2)
   · skip
     exfalso;simp only[beq_iff_eq]at g f;omega
   skip
   exfalso;simp only[beq_iff_eq]at g f;omega
 skip
 cases c:(y==2)
 · skip
   exfalso;simp only[beq_iff_eq]at g f;omega
 skip
 exfalso;simp only[beq_iff_eq]at g f;omega
theorem znY(t:List Int)(a:zua)(cap:Nat)(w:World)(k:t.length≤140737488355328)(p:zW w a t)(q:t.length=2):Calls prog 210 #[.int .i64 17,.slice a t.length cap] w fun e i=>e=.returned (.int .i64 (resK 17 t))∧Below w.heap.size w i:=by
 have j:=I p;clear p;obtain⟨x,y,rfl⟩:∃x y,t= [x,y]:=by
  match t,q with
  |[x,y],_=>exact⟨x,y,rfl⟩
 clear q;obtain⟨b,o,rfl,r,n⟩:=j.1.cells (by simp);have s:w.cell? ⟨b,o,none⟩=some (.int .i64 x):=n 0 (by simp);have u:w.cell? ⟨b,o+1,none⟩=some (.int .i64 y):=n 1 (by simp);clear n;cases g:(x==1)
 · skip
   cases f:(x==2)
   · skip
     cases d:(y==1)
     · skip
       cases c:(y==2)
       · skip
         have l:allB [x,y] 1=false:=by rw[zF,g,d];rfl
         have m:allB [x,y] 2=false:=by rw[zF,f,c];rfl
         have h:=I (show resK 17 [x,y]=0 by exact zbK 17 x y (by decide) g f d c);go_enter func210,ntmps210
         go_wp2_with (go_at_call 259;refine(zK _ _ _ _ _ k j.1).mono ?_;rintro e i ⟨rfl,rfl⟩)
         go_ret;exact⟨ze h.1.symm,ztT _ _⟩
       skip
       have l:allB [x,y] 1=false:=by rw[zF,g,d];rfl
       have m:allB [x,y] 2=false:=by rw[zF,f,c];rfl
       have h:=I (show resK 17 [x,y]=0 by exact zbK 17 x y (by decide) g f d c);go_enter func210,ntmps210
       go_wp2_with (go_at_call 259;refine(zK _ _ _ _ _ k j.1).mono ?_;rintro e i ⟨rfl,rfl⟩)
       go_ret;exact⟨ze h.1.symm,ztT _ _⟩
     skip
     cases c:(y==2)
     · skip
       have l:allB [x,y] 1=false:=by rw[zF,g,d];rfl
       have m:allB [x,y] 2=false:=by rw[zF,f,c];rfl
       have h:=I (show resK 17 [x,y]=0 by exact zbK 17 x y (by decide) g f d c);go_enter func210,ntmps210
       go_wp2_with (go_at_call 259;refine(zK _ _ _ _ _ k j.1).mono ?_;rintro e i ⟨rfl,rfl⟩)
       go_ret;exact⟨ze h.1.symm,ztT _ _⟩
     skip
     exfalso;simp only[beq_iff_eq]at d c;omega
   skip
   cases d:(y==1)
   · skip
     cases c:(y==2)
     · skip
       have l:allB [x,y] 1=false:=by rw[zF,g,d];rfl
       have m:allB [x,y] 2=false:=by rw[zF,f,c];rfl
       have h:=I (show resK 17 [x,y]=0 by exact zbK 17 x y (by decide) g f d c);go_enter func210,ntmps210
       go_wp2_with (go_at_call 259;refine(zK _ _ _ _ _ k j.1).mono ?_;rintro e i ⟨rfl,rfl⟩)
       go_ret;exact⟨ze h.1.symm,ztT _ _⟩
     skip
     have l:allB [x,y] 1=false:=by rw[zF,g,d];rfl
     have m:allB [x,y] 2=true:=by rw[zF,f,c];rfl
     have h:=I (show resK 17 [x,y]=4 by exact zbK 17 x y (by decide) g f d c);go_enter func210,ntmps210
     go_wp2_with (go_at_call 259;refine(zK _ _ _ _ _ k j.1).mono ?_;rintro e i ⟨rfl,rfl⟩)
     go_ret;exact⟨ze h.1.symm,ztT _ _⟩
   skip
   cases c:(y==2)
   · skip
     have l:allB [x,y] 1=false:=by rw[zF,g,d];rfl
     have m:allB [x,y] 2=false:=by rw[zF,f,c];rfl
     have h:=I (show resK 17 [x,y]=0 by exact zbK 17 x y (by decide) g f d c);go_enter func210,ntmps210
     go_wp2_with (go_at_call 259;refine(zK _ _ _ _ _ k j.1).mono ?_;rintro e i ⟨rfl,rfl⟩)
     go_ret;exact⟨ze h.1.symm,ztT _ _⟩
   skip
   exfalso;simp only[beq_iff_eq]at d c;omega
 skip
 cases f:(x==2)
 · skip
   cases d:(y==1)
   · skip
     cases c:(y==2)
     · skip
       have l:allB [x,y] 1=false:=by rw[zF,g,d];rfl
       have m:allB [x,y] 2=false:=by rw[zF,f,c];rfl
       have h:=I (show resK 17 [x,y]=0 by exact zbK 17 x y (by decide) g f d c);go_enter func210,ntmps210
       go_wp2_with (go_at_call 259;refine(zK _ _ _ _ _ k j.1).mono ?_;rintro e i ⟨rfl,rfl⟩)
       go_ret;exact⟨ze h.1.symm,ztT _ _⟩
     skip
     have l:allB [x,y] 1=false:=by rw[zF,g,d];rfl
     have m:allB [x,y] 2=false:=by rw[zF,f,c];rfl
     have h:=I (show resK 17 [x,y]=0 by exact zbK 17 x y (by decide) g f d c);go_enter func210,ntmps210
     go_wp2_with (go_at_call 259;refine(zK _ _ _ _ _ k j.1).mono ?_;rintro e i ⟨rfl,rfl⟩)
     go_ret;exact⟨ze h.1.symm,ztT _ _⟩
   skip
   cases c:(y==2)
   · skip
     have l:allB [x,y] 1=true:=by rw[zF,g,d];rfl
     have m:allB [x,y] 2=false:=by rw[zF,f,c];rfl
     have h:=I (show resK 17 [x,y]=4 by exact zbK 17 x y (by decide) g f d c);go_enter func210,ntmps210
     go_wp2_with (go_at_call 259;refine(zK _ _ _ _ _ k j.1).mono ?_;rintro e i ⟨rfl,rfl⟩)
     go_ret;exact⟨ze h.1.symm,ztT _ _⟩
   skip
   exfalso;simp only[beq_iff_eq]at d c;omega
 skip
 cases d:(y==1)
 · skip
   cases c:(y==2)
   · skip
     exfalso;simp only[beq_iff_eq]at g f;omega
   skip
   exfalso;simp only[beq_iff_eq]at g f;omega
 skip
 cases c:(y==2)
 · skip
   exfalso;simp only[beq_iff_eq]at g f;omega
 skip
 exfalso;simp only[beq_iff_eq]at g f;omega
theorem znX(t:List Int)(a:zua)(cap:Nat)(w:World)(j:t.length≤140737488355328)(g:zW w a t)(h:t.length=2):Calls prog 210 #[.int .i64 18,.slice a t.length cap] w fun e w'=>e=.returned (.int .i64 (resK 18 t))∧Below w.heap.size w w':=by
 have i:=I g;clear g;obtain⟨x,y,rfl⟩:∃x y,t= [x,y]:=by
  match t,h with
  |[x,y],_=>exact⟨x,y,rfl⟩
 clear h;obtain⟨b,d,rfl,k,c⟩:=i.1.cells (by simp);have l:w.cell? ⟨b,d,none⟩=some (.int .i64 x):=c 0 (by simp);have m:w.cell? ⟨b,d+1,none⟩=some (.int .i64 y):=c 1 (by simp);clear c;cases e:(x==y)
 · have f:=I (show resK 18 [x,y]=0 by simp only[resK,cmpB,iAt,List.getD_cons_zero,List.getD_cons_succ,e];rfl);go_enter func210,ntmps210
   go_wp2_with fail;go_quiet (fail)
   go_wp2_with fail;go_ret;exact⟨ze f.1.symm,below_drewN (ztT _ _) _⟩
 have f:=I (show resK 18 [x,y]=4 by simp only[resK,cmpB,iAt,List.getD_cons_zero,List.getD_cons_succ,e];rfl);go_enter func210,ntmps210
 go_wp2_with fail;go_quiet (fail)
 go_wp2_with fail;go_ret;exact⟨ze f.1.symm,below_drewN (ztT _ _) _⟩
theorem zn1(t:List Int)(a:zua)(cap:Nat)(w:World)(l:t.length≤140737488355328)(h:zW w a t)(i:t.length=3):Calls prog 210 #[.int .i64 14,.slice a t.length cap] w fun e w'=>e=.returned (.int .i64 (resK 14 t))∧Below w.heap.size w w':=by
 have k:=I h;clear h;obtain⟨x,y,z,rfl⟩:∃x y z,t= [x,y,z]:=by
  match t,i with
  |[x,y,z],_=>exact⟨x,y,z,rfl⟩
 clear i;obtain⟨b,d,rfl,m,c⟩:=k.1.cells (by simp);have n:w.cell? ⟨b,d,none⟩=some (.int .i64 x):=c 0 (by simp);have o:w.cell? ⟨b,d+1,none⟩=some (.int .i64 y):=c 1 (by simp);have p:w.cell? ⟨b,d+2,none⟩=some (.int .i64 z):=c 2 (by simp);clear c;cases g:(x==4)
 · have f:=I (show resK 14 [x,y,z]=0 by simp only[resK,iAt,List.getD_cons_zero,List.getD_cons_succ,g];rfl);go_enter func210,ntmps210
   go_wp2_with fail;go_quiet (fail)
   go_wp2_with fail;go_ret;exact⟨ze f.1.symm,below_drewN (ztT _ _) _⟩
 cases j:(y==z)
 · have f:=I (show resK 14 [x,y,z]=0 by simp only[resK,iAt,List.getD_cons_zero,List.getD_cons_succ,g,j];rfl);go_enter func210,ntmps210
   go_wp2_with fail;go_quiet (fail)
   go_wp2_with fail;go_ret;exact⟨ze f.1.symm,below_drewN (ztT _ _) _⟩
 have f:=I (show resK 14 [x,y,z]=y by simp only[resK,iAt,List.getD_cons_zero,List.getD_cons_succ,g,j];rfl);go_enter func210,ntmps210
 go_wp2_with fail;go_quiet (fail)
 go_wp2_with fail;go_ret;exact⟨ze f.1.symm,below_drewN (ztT _ _) _⟩
theorem zn0(t:List Int)(a:zua)(cap:Nat)(w:World)(d:t.length≤140737488355328)(f:zW w a t):Calls prog 210 #[.int .i64 15,.slice a t.length cap] w fun e b=>e=.returned (.int .i64 (resK 15 t))∧Below w.heap.size w b:=by
 have g:=I f;clear f;cases h:allB t 3
 · have c:=I (show resK 15 t=0 by simp only[resK,cmpB,h];rfl);go_enter func210,ntmps210
   go_wp2_with (go_at_call 259;refine(zK _ _ _ _ _ d g.1).mono ?_;rintro e b ⟨rfl,rfl⟩)
   go_ret;exact⟨ze c.1.symm,ztT _ _⟩
 have c:=I (show resK 15 t=4 by simp only[resK,cmpB,h];rfl);go_enter func210,ntmps210
 go_wp2_with (go_at_call 259;refine(zK _ _ _ _ _ d g.1).mono ?_;rintro e b ⟨rfl,rfl⟩)
 go_ret;exact⟨ze c.1.symm,ztT _ _⟩
theorem znW(t:List Int)(a:zua)(cap:Nat)(w:World)(d:t.length≤140737488355328)(f:zW w a t):Calls prog 210 #[.int .i64 19,.slice a t.length cap] w fun e b=>e=.returned (.int .i64 (resK 19 t))∧Below w.heap.size w b:=by
 have g:=I f;clear f;cases h:allB t 4
 · have c:=I (show resK 19 t=0 by simp only[resK,cmpB,h];rfl);go_enter func210,ntmps210
   go_wp2_with (go_at_call 259;refine(zK _ _ _ _ _ d g.1).mono ?_;rintro e b ⟨rfl,rfl⟩)
   go_ret;exact⟨ze c.1.symm,ztT _ _⟩
 have c:=I (show resK 19 t=4 by simp only[resK,cmpB,h];rfl);go_enter func210,ntmps210
 go_wp2_with (go_at_call 259;refine(zK _ _ _ _ _ d g.1).mono ?_;rintro e b ⟨rfl,rfl⟩)
 go_ret;exact⟨ze c.1.symm,ztT _ _⟩
theorem znV(t:List Int)(a:zua)(cap:Nat)(w:World)(d:t.length≤140737488355328)(f:zW w a t):Calls prog 210 #[.int .i64 20,.slice a t.length cap] w fun e b=>e=.returned (.int .i64 (resK 20 t))∧Below w.heap.size w b:=by
 have g:=I f;clear f;cases h:allB t 4
 · have c:=I (show resK 20 t=0 by simp only[resK,cmpB,h];rfl);go_enter func210,ntmps210
   go_wp2_with (go_at_call 259;refine(zK _ _ _ _ _ d g.1).mono ?_;rintro e b ⟨rfl,rfl⟩)
   go_ret;exact⟨ze c.1.symm,ztT _ _⟩
 have c:=I (show resK 20 t=4 by simp only[resK,cmpB,h];rfl);go_enter func210,ntmps210
 go_wp2_with (go_at_call 259;refine(zK _ _ _ _ _ d g.1).mono ?_;rintro e b ⟨rfl,rfl⟩)
 go_ret;exact⟨ze c.1.symm,ztT _ _⟩
theorem znU(t:List Int)(a:zua)(cap:Nat)(w:World)(d:t.length≤140737488355328)(f:zW w a t):Calls prog 210 #[.int .i64 21,.slice a t.length cap] w fun e b=>e=.returned (.int .i64 (resK 21 t))∧Below w.heap.size w b:=by
 have g:=I f;clear f;cases h:allB t 4
 · have c:=I (show resK 21 t=0 by simp only[resK,cmpB,h];rfl);go_enter func210,ntmps210
   go_wp2_with (go_at_call 259;refine(zK _ _ _ _ _ d g.1).mono ?_;rintro e b ⟨rfl,rfl⟩)
   go_ret;exact⟨ze c.1.symm,ztT _ _⟩
 have c:=I (show resK 21 t=4 by simp only[resK,cmpB,h];rfl);go_enter func210,ntmps210
 go_wp2_with (go_at_call 259;refine(zK _ _ _ _ _ d g.1).mono ?_;rintro e b ⟨rfl,rfl⟩)
 go_ret;exact⟨ze c.1.symm,ztT _ _⟩
theorem znT(t:List Int)(a:zua)(cap:Nat)(w:World)(d:t.length≤140737488355328)(f:zW w a t):Calls prog 210 #[.int .i64 22,.slice a t.length cap] w fun e b=>e=.returned (.int .i64 (resK 22 t))∧Below w.heap.size w b:=by
 have g:=I f;clear f;cases h:allB t 4
 · have c:=I (show resK 22 t=0 by simp only[resK,cmpB,h];rfl);go_enter func210,ntmps210
   go_wp2_with (go_at_call 259;refine(zK _ _ _ _ _ d g.1).mono ?_;rintro e b ⟨rfl,rfl⟩)
   go_ret;exact⟨ze c.1.symm,ztT _ _⟩
 have c:=I (show resK 22 t=4 by simp only[resK,cmpB,h];rfl);go_enter func210,ntmps210
 go_wp2_with (go_at_call 259;refine(zK _ _ _ _ _ d g.1).mono ?_;rintro e b ⟨rfl,rfl⟩)
 go_ret;exact⟨ze c.1.symm,ztT _ _⟩
theorem zl4(o:Int)(t:List Int)(a:zua)(cap:Nat)(w:World)(b:t.length≤140737488355328)(c:zW w a t)(g:zsp o t.length):Calls prog 210 #[.int .i64 o,.slice a t.length cap] w fun e w'=>e=.returned (.int .i64 (resK o t))∧Below w.heap.size w w':=by
 obtain⟨h,i,j,d⟩:=g;have f:o=1∨o=2∨o=3∨o=4∨o=5∨o=7∨o=8∨o=9∨o=10∨o=11∨o=12∨o=13∨o=14∨o=15∨o=16∨o=17∨o=18∨o=19∨o=20∨o=21∨o=22:=by omega
 rcases f with rfl|rfl|rfl|rfl|rfl|rfl|rfl|rfl|rfl|rfl|rfl|rfl|rfl|rfl|rfl|rfl|rfl|rfl|rfl|rfl|rfl
 · exact zpD t a cap w b c
 · exact zpC t a cap w b c
 · exact zpB t a cap w b c
 · exact zpA t a cap w b c
 · exact zpz t a cap w b c
 · exact zpy t a cap w b c (by rintro rfl;simp[zL]at d)
 · exact zpx t a cap w b c (by rintro rfl;simp[zL]at d)
 · exact zpw t a cap w b c (by rintro rfl;simp[zL]at d)
 · exact zn5 t a cap w b c (by simp[zL]at d;omega)
 · exact zn4 t a cap w b c (by simp[zL]at d;omega)
 · exact zn3 t a cap w b c (by rintro rfl;simp[zL]at d)
 · exact zn2 t a cap w b c (by rintro rfl;simp[zL]at d)
 · exact zn1 t a cap w b c (by simp[zL]at d;omega)
 · exact zn0 t a cap w b c
 · exact znZ t a cap w b c (by simp[zL]at d;omega)
 · exact znY t a cap w b c (by simp[zL]at d;omega)
 · exact znX t a cap w b c (by simp[zL]at d;omega)
 · exact znW t a cap w b c
 · exact znV t a cap w b c
 · exact znU t a cap w b c
 exact znT t a cap w b c
theorem ze2(w:World):Calls prog 234 #[] w fun e w'=>(∃cap,e=.returned (.slice (some ⟨w.heap.size,0,none⟩) 11 cap))∧w.heap.size<w'.heap.size∧zai w' w.heap.size 0 zI∧Below w.heap.size w w':=by
 go_enter func234,ntmps234
 go_wp2_with fail;go_ret;exact⟨⟨_,rfl⟩,by simp,zai.new w zI _,J _ _⟩
theorem zgL(w:World):Calls prog 171 #[.int .i64 1] w fun e a=>(∃cap,e=.returned (.slice (some ⟨w.heap.size,0,none⟩) 11 cap))∧w.heap.size<a.heap.size∧zai a w.heap.size 0 zI∧Below w.heap.size w a:=by
 go_enter func171,ntmps171
 go_wp2_with fail;refine(ze2 w).mono ?_;rintro e a ⟨⟨g,rfl⟩,c,b,d⟩;have f:=I b;clear b;go_wp2_with fail;go_ret;exact⟨⟨_,rfl⟩,c,f.1,d⟩
theorem zgJ(w:World):Calls prog 171 #[.int .i64 3] w fun e w'=>(∃cap,e=.returned (.slice (some ⟨w.heap.size,0,none⟩) 7 cap))∧w.heap.size<w'.heap.size∧zai w' w.heap.size 0 zcm∧Below w.heap.size w w':=by
 go_enter func171,ntmps171
 go_wp2_with fail;go_ret;exact⟨⟨_,rfl⟩,by simp,zai.new w zcm _,J _ _⟩
theorem zgK(w:World):Calls prog 171 #[.int .i64 0] w fun e w'=>e=.returned (.slice none 0 0)∧w=w':=by
 go_enter func171,ntmps171
 go_wp2_with fail;go_ret;exact⟨rfl,rfl⟩
theorem zgI(w:World):Calls prog 171 #[.int .i64 2] w fun e w'=>∃v,e=.returned v∧w'.ownsRow w.heap.size 9 1 v 25 (zbC.map Value.string)∧Below w.heap.size w w':=by
 obtain⟨T,U,E,F,G⟩:=info_parts zmh;go_enter func171,ntmps171
 go_wp2_with fail
 have B:=I (show World.ownsRow (w.alloc (.cells (zeo.map Value.string).toArray 9)) w.heap.size 9 1 (.slice (some ⟨w.heap.size,0,none⟩) 3 3) 3 ((rstK 0).map Value.string) from by
  refine⟨rfl,.inr ⟨w.heap.size,3,(zeo.map Value.string).toArray,rfl,ztY _,?_,ztY _,by decide,rfl,rfl⟩⟩;show(w.heap.push _)[w.heap.size]?=_
  simp[Array.getElem?_push])
 have C:=I (J w (.cells (zeo.map Value.string).toArray 9));have H:(w.alloc (.cells (zeo.map Value.string).toArray 9)).heap.size=w.heap.size+1:=by simp
 have Q:=ze2 (w.alloc (.cells (zeo.map Value.string).toArray 9));rw[H]at Q;refine Q.mono ?_;rintro e A ⟨⟨V,rfl⟩,d,k,K⟩;have L:=I k;have l:Below (w.alloc (.cells (zeo.map Value.string).toArray 9)).heap.size (w.alloc (.cells (zeo.map Value.string).toArray 9)) A:=by rw[H];exact K
 have M:=I (ztS C.1 l);have f:=I (zbQ B.1 C.1 l);clear k K l B Q C;rw[←zhp 0]at f;have B:=f;clear f;go_wp2_with fail;go_loopw [3,5] (fun out i wr=>∃(j:Nat) (v:Value),j≤11∧i=.int .i64 j∧out=v∧ztR (wr.ownsRow w.heap.size 9 1 v (rstJ 0 j).length ((rstJ 0 j).map Value.string))∧ztR (zai wr (w.heap.size+1) 0 zI)∧w.heap.size+1<wr.heap.size∧ztR (Below w.heap.size w wr)) (fun _ i _=>11-(intOf i).toNat)
 case atStart=>exact⟨0,_,ztX _,rfl,rfl,B,L,d,M⟩
 clear B L d M;obtain⟨j,v,R,rfl,rfl,g,k,d,z⟩:=hrel;by_cases h:j<11
 · have c1:=k.1 j h;rw[Nat.zero_add]at c1;have N:(j:Int)<11:=by omega
   have m:=zjw g.1 (zfB 0 j) (k.1 0 (by decide)) (by simp[sAt,zI]);have b:=I (zjp 0 j (by decide) R);have n:(sAt zI j).size≤8:=zhN j h;have o:((⟨#[98,101,102,111,114,101,46]⟩:ByteArray).size)≤7:=by decide
   have p:(((⟨#[98,101,102,111,114,101,46]⟩:ByteArray).size:Nat):Int)+((sAt zI j).size:Int)≤9223372036854775807:=by omega
   have q:(⟨#[98,101,102,111,114,101,46]⟩:ByteArray).size+(sAt zI j).size≤9223372036854775807:=by omega
   have r:(sAt zI j).size≤9223372036854775800:=by omega
   have s:((sAt zI j).size:Int)≤8:=by omega
   go_wp2_with (at_builtin;refine wpList_append_own _ rfl _ _ 58 rfl w.heap.size 9 T (.string ByteArray.empty) 1 16 underlying58 U E F G rfl (by decide) _ _ _ rfl (g.1.alloc _) ⟨wr.heap.size,0,none⟩ 1 1 [.string (⟨#[98,101,102,111,114,101,46]⟩++sAt zI j)] rfl rfl ?c1 ?c2 ?c3 ?c4 ?c5 ?_)
   case c1=>exact zaa wr [.string (⟨#[98,101,102,111,114,101,46]⟩++sAt zI j)] 9
   case c2=>intro u P;simp at P;subst P;rfl
   case c3=>rw[b.1];unfold maxLen;omega
   case c4=>rw[b.1];omega
   case c5=>have:=z.1.size;simp;omega
   intro S A c a _;have t:=I (zaG (e':=9) z.1 rfl g.1 a);have x:=I ((k.1.below d (J _ _)).grown (by simp;omega) a m);have D:wr.heap.size≤A.heap.size:=ztV (by simp) a.size;have y:w.heap.size+1<A.heap.size:=by omega
   have f:=I (show A.ownsRow w.heap.size 9 1 S (rstJ 0 (j+1)).length ((rstJ 0 (j+1)).map Value.string) by
    rw[zhq 0 j h,zt2,zt3];exact c)
   clear c a m b o n p q r s g k z d D c1;go_wp2_with fail;go_roundw
   case rel=>first|exact⟨j+1,_,by omega,by go_num,rfl,f,x,y,t⟩|((repeat apply Exists.intro);exact⟨⟨j+1,_,by omega,by go_num,rfl,f,x,y,t⟩,rfl⟩)
   case measure=>simp[intOf];omega
 obtain rfl:j=11:=by omega
 rw[zjq 0 (by decide)]at g;rw[←zhp 1]at g;have B:=g;have L:=k;have M:=z;clear g k z;go_wp2_with fail;go_loopw [3,6] (fun out i wr=>∃(j:Nat) (v:Value),j≤11∧i=.int .i64 j∧out=v∧ztR (wr.ownsRow w.heap.size 9 1 v (rstJ 1 j).length ((rstJ 1 j).map Value.string))∧ztR (zai wr (w.heap.size+1) 0 zI)∧w.heap.size+1<wr.heap.size∧ztR (Below w.heap.size w wr)) (fun _ i _=>11-(intOf i).toNat)
 case atStart=>exact⟨0,_,ztX _,rfl,rfl,B,L,d,M⟩
 clear B L d M;obtain⟨j,v,R,rfl,rfl,g,k,d,z⟩:=hrel;by_cases h:j<11
 · have c1:=k.1 j h;rw[Nat.zero_add]at c1;have N:(j:Int)<11:=by omega
   have m:=zjw g.1 (zfB 1 j) (k.1 0 (by decide)) (by simp[sAt,zI]);have b:=I (zjp 1 j (by decide) R);have n:(sAt zI j).size≤8:=zhN j h;have o:((⟨#[97,102,116,101,114,46]⟩:ByteArray).size)≤7:=by decide
   have p:(((⟨#[97,102,116,101,114,46]⟩:ByteArray).size:Nat):Int)+((sAt zI j).size:Int)≤9223372036854775807:=by omega
   have q:(⟨#[97,102,116,101,114,46]⟩:ByteArray).size+(sAt zI j).size≤9223372036854775807:=by omega
   have r:(sAt zI j).size≤9223372036854775800:=by omega
   have s:((sAt zI j).size:Int)≤8:=by omega
   go_wp2_with (at_builtin;refine wpList_append_own _ rfl _ _ 58 rfl w.heap.size 9 T (.string ByteArray.empty) 1 16 underlying58 U E F G rfl (by decide) _ _ _ rfl (g.1.alloc _) ⟨wr.heap.size,0,none⟩ 1 1 [.string (⟨#[97,102,116,101,114,46]⟩++sAt zI j)] rfl rfl ?c1 ?c2 ?c3 ?c4 ?c5 ?_)
   case c1=>exact zaa wr [.string (⟨#[97,102,116,101,114,46]⟩++sAt zI j)] 9
   case c2=>intro u P;simp at P;subst P;rfl
   case c3=>rw[b.1];unfold maxLen;omega
   case c4=>rw[b.1];omega
   case c5=>have:=z.1.size;simp;omega
   intro S A c a _;have t:=I (zaG (e':=9) z.1 rfl g.1 a);have x:=I ((k.1.below d (J _ _)).grown (by simp;omega) a m);have D:wr.heap.size≤A.heap.size:=ztV (by simp) a.size;have y:w.heap.size+1<A.heap.size:=by omega
   have f:=I (show A.ownsRow w.heap.size 9 1 S (rstJ 1 (j+1)).length ((rstJ 1 (j+1)).map Value.string) by
    rw[zhq 1 j h,zt2,zt3];exact c)
   clear c a m b o n p q r s g k z d D c1;go_wp2_with fail;go_roundw
   case rel=>first|exact⟨j+1,_,by omega,by go_num,rfl,f,x,y,t⟩|((repeat apply Exists.intro);exact⟨⟨j+1,_,by omega,by go_num,rfl,f,x,y,t⟩,rfl⟩)
   case measure=>simp[intOf];omega
 obtain rfl:j=11:=by omega
 rw[zjq 1 (by decide)]at g;go_wp2_with fail;go_ret;exact⟨_,rfl,g.1,z.1⟩
theorem zbT(k:Nat)(h:k<4)(w:World):Calls prog 171 #[.int .i64 k] w (zeX k w):=by
 obtain rfl|rfl|rfl|rfl:k=0∨k=1∨k=2∨k=3:=by omega
 · refine(zgK w).mono ?_;rintro e g ⟨rfl,rfl⟩;exact⟨none,0,rfl,.inl rfl,ztT _ _⟩
 · refine(zgL w).mono ?_;rintro e g ⟨⟨b,rfl⟩,c,d,f⟩;exact⟨_,b,rfl,.inr ⟨_,0,rfl,c,d⟩,f⟩
 · refine(zgI w).mono ?_;rintro e g ⟨v,rfl,c,d⟩;obtain⟨a,b,rfl,f,_⟩:=zej.of_own (l:=zbC) c (by decide);exact⟨a,b,rfl,f,d⟩
 refine(zgJ w).mono ?_;rintro e g ⟨⟨b,rfl⟩,c,d,f⟩;exact⟨_,b,rfl,.inr ⟨_,0,rfl,c,d⟩,f⟩
def kNum:List (List UInt8):= [[108,101,103,115], [104,101,97,100,115], [116,121,112,101,115], [110,105,103,104,116,115], [100,117,116,105,101,115], [100,97,121,115]]
def kClk:List (List UInt8):= [[115,116,97,114,116], [101,110,100]]
def zah(s:ByteArray):Int:=if zN kNum s=true then 1 else if zN kClk s=true then 3 else if(s.toList== [104,111,109,101])=true then 4 else 2
def zgE(s:ByteArray):Bool:=decide (7<s.size)&&((s.extract 0 7).toList== [98,101,102,111,114,101,46])
def zju(s:ByteArray):Bool:=decide (6<s.size)&&((s.extract 0 6).toList== [97,102,116,101,114,46])
theorem zrC:((List.range 4).all fun k=>(List.range (zk k).length).all fun i=>(zad k (sAt (zk k) i)==zah (sAt (zk k) i)) || (k==2&&(zgE (sAt (zk k) i) || zju (sAt (zk k) i))))=true:=by decide+kernel
theorem zjI{k:Nat}(a:k<4){i:Nat}(b:i<(zk k).length)(c:k=2→zgE (sAt (zk k) i)=false∧zju (sAt (zk k) i)=false):zad k (sAt (zk k) i)=zah (sAt (zk k) i):=by
 have:=List.all_eq_true.1 (List.all_eq_true.1 zrC k (List.mem_range.2 a)) i (List.mem_range.2 b);rw[Bool.or_eq_true]at this;rcases this with h|h
 · simpa using h
 rw[zt5]at h;obtain⟨d,e⟩:=c (by simpa using h.1);rw[d,e]at h;simp at h
def erK(n:Int):Int:=if n=0 then 6 else 0
theorem zej.none_wi{l:List ByteArray}{s:ByteArray}(h:∀m,m<l.length→sAt l m≠s):wi l s=none:=by
 unfold wi
 rw[List.findIdx?_eq_none_iff];intro x b;obtain⟨m,a,rfl⟩:=List.mem_iff_getElem.1 b;have:=h m a;unfold sAt at this
 rw[zt0,zt1 a]at this;simpa using this
theorem zfq(k:Nat)(o:k<4)(H:k≠2)(s:ByteArray)(w:World):Calls prog 146 #[.int .i64 k,.string s] w fun e w'=>e=.returned (.tuple #[.int .i64 (zad k s),.int .i64 (erK (zad k s))])∧Below w.heap.size w w':=by
 have C:((k:Int)==2)=false:=by simp;omega
 go_enter func146,ntmps146
 go_wp2_with fail;have K:Calls prog 171 #[.int .i64 k] w (zeX k w):=zbT k o w;refine K.mono ?_;rintro e Q ⟨a,L,rfl,D,t⟩;have M:=I D;have d:=I t;have E:=zdF k;clear D t;go_wp2_with fail;go_loop [7] (fun i=>∃j:Nat,j≤(zk k).length∧i=.int .i64 j∧ztR (∀m,m<j→sAt (zk k) m≠s)) (fun i=>(zk k).length-(intOf i).toNat)
 case atStart=>exact⟨0,ztX _,rfl,I (fun m hm=>absurd hm (Nat.not_lt_zero _))⟩
 obtain⟨j,R,rfl,p⟩:=hrel;by_cases u:j<(zk k).length
 · obtain⟨b,N,rfl,S,v⟩:=M.1.cells (by omega);have T:=v j u;clear v;cases e:((sAt (zk k) j).toList==s.toList)
   · have x:=I (show ∀m,m<j+1→sAt (zk k) m≠s from fun m hm=>by
      by_cases C:m=j
      · subst C;rw[zV]at e;simpa using e
      exact p.1 m (by omega))
     go_wp2_with fail;go_round
     case rel=>exact⟨j+1,by omega,by go_num,x⟩
     case measure=>simp[intOf];omega
   have F:sAt (zk k) j=s:=by rw[zV]at e;simpa using e
   have f:=I (show zad k s=zah s by rw[←F];exact zjI o u (by intro h;omega));clear F p;cases g:(s.toList== [108,101,103,115])
   case true=>
    have c:zah s=1:=by simp only[zah,zN,kNum,kClk,List.any_cons,List.any_nil,g,Bool.true_or,Bool.or_true,Bool.false_or,Bool.or_false,zt4,if_true,if_false]
    go_wp2_with fail;go_ret2;exact⟨by rw[f.1,c];rfl,d.1⟩
   cases l:(s.toList== [104,101,97,100,115])
   case true=>
    have c:zah s=1:=by simp only[zah,zN,kNum,kClk,List.any_cons,List.any_nil,g,l,Bool.true_or,Bool.or_true,Bool.false_or,Bool.or_false,zt4,if_true,if_false]
    go_wp2_with fail;go_ret2;exact⟨by rw[f.1,c];rfl,d.1⟩
   cases n:(s.toList== [116,121,112,101,115])
   case true=>
    have c:zah s=1:=by simp only[zah,zN,kNum,kClk,List.any_cons,List.any_nil,g,l,n,Bool.true_or,Bool.or_true,Bool.false_or,Bool.or_false,zt4,if_true,if_false]
    go_wp2_with fail;go_ret2;exact⟨by rw[f.1,c];rfl,d.1⟩
   cases q:(s.toList== [110,105,103,104,116,115])
   case true=>
    have c:zah s=1:=by simp only[zah,zN,kNum,kClk,List.any_cons,List.any_nil,g,l,n,q,Bool.true_or,Bool.or_true,Bool.false_or,Bool.or_false,zt4,if_true,if_false]
    go_wp2_with fail;go_ret2;exact⟨by rw[f.1,c];rfl,d.1⟩
   cases r:(s.toList== [100,117,116,105,101,115])
   case true=>
    have c:zah s=1:=by simp only[zah,zN,kNum,kClk,List.any_cons,List.any_nil,g,l,n,q,r,Bool.true_or,Bool.or_true,Bool.false_or,Bool.or_false,zt4,if_true,if_false]
    go_wp2_with fail;go_ret2;exact⟨by rw[f.1,c];rfl,d.1⟩
   cases y:(s.toList== [100,97,121,115])
   case true=>
    have c:zah s=1:=by simp only[zah,zN,kNum,kClk,List.any_cons,List.any_nil,g,l,n,q,r,y,Bool.true_or,Bool.or_true,Bool.false_or,Bool.or_false,zt4,if_true,if_false]
    go_wp2_with fail;go_ret2;exact⟨by rw[f.1,c];rfl,d.1⟩
   cases z:(s.toList== [115,116,97,114,116])
   case true=>
    have c:zah s=3:=by simp only[zah,zN,kNum,kClk,List.any_cons,List.any_nil,g,l,n,q,r,y,z,Bool.true_or,Bool.or_true,Bool.false_or,Bool.or_false,zt4,if_true,if_false]
    go_wp2_with fail;go_ret2;exact⟨by rw[f.1,c];rfl,d.1⟩
   cases A:(s.toList== [101,110,100])
   case true=>
    have c:zah s=3:=by simp only[zah,zN,kNum,kClk,List.any_cons,List.any_nil,g,l,n,q,r,y,z,A,Bool.true_or,Bool.or_true,Bool.false_or,Bool.or_false,zt4,if_true,if_false]
    go_wp2_with fail;go_ret2;exact⟨by rw[f.1,c];rfl,d.1⟩
   cases G:(s.toList== [104,111,109,101])
   case true=>
    have c:zah s=4:=by simp only[zah,zN,kNum,kClk,List.any_cons,List.any_nil,g,l,n,q,r,y,z,A,G,Bool.true_or,Bool.or_true,Bool.false_or,Bool.or_false,zt4,if_true,if_false]
    go_wp2_with fail;go_ret2;exact⟨by rw[f.1,c];rfl,d.1⟩
   have c:zah s=2:=by simp only[zah,zN,kNum,kClk,List.any_cons,List.any_nil,g,l,n,q,r,y,z,A,G,Bool.true_or,Bool.or_true,Bool.false_or,Bool.or_false,zt4,if_true,if_false]
   go_wp2_with fail;go_ret2;exact⟨by rw[f.1,c];rfl,d.1⟩
 obtain rfl:j=(zk k).length:=by omega
 have P:=I (zd2 o (zej.none_wi p.1));have B:=I (show zad k s=0 from P.1);go_wp2_with fail;go_ret2;exact⟨by rw[B.1];rfl,d.1⟩
theorem zmF(s:ByteArray)(w:World):Calls prog 146 #[.int .i64 0,.string s] w fun e w'=>e=.returned (.tuple #[.int .i64 (zad 0 s),.int .i64 (erK (zad 0 s))])∧Below w.heap.size w w':=by
 exact zfq 0 (by decide) (by decide) s w
theorem zeh(s:ByteArray)(w:World):Calls prog 146 #[.int .i64 1,.string s] w fun e w'=>e=.returned (.tuple #[.int .i64 (zad 1 s),.int .i64 (erK (zad 1 s))])∧Below w.heap.size w w':=by
 exact zfq 1 (by decide) (by decide) s w
theorem zmD(s:ByteArray)(w:World):Calls prog 146 #[.int .i64 3,.string s] w fun e w'=>e=.returned (.tuple #[.int .i64 (zad 3 s),.int .i64 (erK (zad 3 s))])∧Below w.heap.size w w':=by
 exact zfq 3 (by decide) (by decide) s w
theorem zmE(s:ByteArray)(w:World)(z:zgE s=false)(x:zju s=false):Calls prog 146 #[.int .i64 2,.string s] w fun e w'=>e=.returned (.tuple #[.int .i64 (zad 2 s),.int .i64 (erK (zad 2 s))])∧Below w.heap.size w w':=by
 have Q:=I z;have R:=I x;rw[zgE]at z;rw[zju]at x;by_cases X:7<s.size
 · have Z:((s.extract 0 7).toList== [98,101,102,111,114,101,46])=false:=by simpa[X] using z
   have S:6<s.size:=by omega
   have Y:((s.extract 0 6).toList== [97,102,116,101,114,46])=false:=by simpa[S] using x
   clear z x;go_enter func146,ntmps146
   go_wp2_with fail;have H:Calls prog 171 #[.int .i64 2] w (zeX 2 w):=zbT 2 (by decide) w;refine H.mono ?_;rintro e T ⟨a,K,rfl,E,q⟩;have L:=I E;have d:=I q;have F:=zdF 2;clear E q;go_wp2_with fail;go_loop [7] (fun i=>∃j:Nat,j≤(zk 2).length∧i=.int .i64 j∧ztR (∀m,m<j→sAt (zk 2) m≠s)) (fun i=>(zk 2).length-(intOf i).toNat)
   case atStart=>exact⟨0,ztX _,rfl,I (fun m hm=>absurd hm (Nat.not_lt_zero _))⟩
   obtain⟨j,U,rfl,n⟩:=hrel;by_cases r:j<(zk 2).length
   · obtain⟨b,M,rfl,V,t⟩:=L.1.cells (by omega);have W:=t j r;clear t;cases e:((sAt (zk 2) j).toList==s.toList)
     · have u:=I (show ∀m,m<j+1→sAt (zk 2) m≠s from fun m hm=>by
        by_cases N:m=j
        · subst N;rw[zV]at e;simpa using e
        exact n.1 m (by omega))
       go_wp2_with fail;go_round
       case rel=>exact⟨j+1,by omega,by go_num,u⟩
       case measure=>simp[intOf];omega
     have A:sAt (zk 2) j=s:=by rw[zV]at e;simpa using e
     have f:=I (show zad 2 s=zah s by rw[←A];exact zjI (k:=2) (by decide) r (by intro _;have B:sAt (zk ((2:Nat):Int)) j=s:=A;rw[B];exact⟨Q.1,R.1⟩));clear A n;cases g:(s.toList== [108,101,103,115])
     case true=>
      have c:zah s=1:=by simp only[zah,zN,kNum,kClk,List.any_cons,List.any_nil,g,Bool.true_or,Bool.or_true,Bool.false_or,Bool.or_false,zt4,if_true,if_false]
      go_wp2_with fail;go_ret2;exact⟨by rw[f.1,c];rfl,d.1⟩
     cases h:(s.toList== [104,101,97,100,115])
     case true=>
      have c:zah s=1:=by simp only[zah,zN,kNum,kClk,List.any_cons,List.any_nil,g,h,Bool.true_or,Bool.or_true,Bool.false_or,Bool.or_false,zt4,if_true,if_false]
      go_wp2_with fail;go_ret2;exact⟨by rw[f.1,c];rfl,d.1⟩
     cases l:(s.toList== [116,121,112,101,115])
     case true=>
      have c:zah s=1:=by simp only[zah,zN,kNum,kClk,List.any_cons,List.any_nil,g,h,l,Bool.true_or,Bool.or_true,Bool.false_or,Bool.or_false,zt4,if_true,if_false]
      go_wp2_with fail;go_ret2;exact⟨by rw[f.1,c];rfl,d.1⟩
     cases o:(s.toList== [110,105,103,104,116,115])
     case true=>
      have c:zah s=1:=by simp only[zah,zN,kNum,kClk,List.any_cons,List.any_nil,g,h,l,o,Bool.true_or,Bool.or_true,Bool.false_or,Bool.or_false,zt4,if_true,if_false]
      go_wp2_with fail;go_ret2;exact⟨by rw[f.1,c];rfl,d.1⟩
     cases p:(s.toList== [100,117,116,105,101,115])
     case true=>
      have c:zah s=1:=by simp only[zah,zN,kNum,kClk,List.any_cons,List.any_nil,g,h,l,o,p,Bool.true_or,Bool.or_true,Bool.false_or,Bool.or_false,zt4,if_true,if_false]
      go_wp2_with fail;go_ret2;exact⟨by rw[f.1,c];rfl,d.1⟩
     cases v:(s.toList== [100,97,121,115])
     case true=>
      have c:zah s=1:=by simp only[zah,zN,kNum,kClk,List.any_cons,List.any_nil,g,h,l,o,p,v,Bool.true_or,Bool.or_true,Bool.false_or,Bool.or_false,zt4,if_true,if_false]
      go_wp2_with fail;go_ret2;exact⟨by rw[f.1,c];rfl,d.1⟩
     cases y:(s.toList== [115,116,97,114,116])
     case true=>
      have c:zah s=3:=by simp only[zah,zN,kNum,kClk,List.any_cons,List.any_nil,g,h,l,o,p,v,y,Bool.true_or,Bool.or_true,Bool.false_or,Bool.or_false,zt4,if_true,if_false]
      go_wp2_with fail;go_ret2;exact⟨by rw[f.1,c];rfl,d.1⟩
     cases C:(s.toList== [101,110,100])
     case true=>
      have c:zah s=3:=by simp only[zah,zN,kNum,kClk,List.any_cons,List.any_nil,g,h,l,o,p,v,y,C,Bool.true_or,Bool.or_true,Bool.false_or,Bool.or_false,zt4,if_true,if_false]
      go_wp2_with fail;go_ret2;exact⟨by rw[f.1,c];rfl,d.1⟩
     cases G:(s.toList== [104,111,109,101])
     case true=>
      have c:zah s=4:=by simp only[zah,zN,kNum,kClk,List.any_cons,List.any_nil,g,h,l,o,p,v,y,C,G,Bool.true_or,Bool.or_true,Bool.false_or,Bool.or_false,zt4,if_true,if_false]
      go_wp2_with fail;go_ret2;exact⟨by rw[f.1,c];rfl,d.1⟩
     have c:zah s=2:=by simp only[zah,zN,kNum,kClk,List.any_cons,List.any_nil,g,h,l,o,p,v,y,C,G,Bool.true_or,Bool.or_true,Bool.false_or,Bool.or_false,zt4,if_true,if_false]
     go_wp2_with fail;go_ret2;exact⟨by rw[f.1,c];rfl,d.1⟩
   obtain rfl:j=(zk 2).length:=by omega
   have P:=I (zd2 (k:=2) (by decide) (zej.none_wi n.1));have D:=I (show zad 2 s=0 from P.1);go_wp2_with fail;go_ret2;exact⟨by rw[D.1];rfl,d.1⟩
 by_cases S:6<s.size
 · have Y:((s.extract 0 6).toList== [97,102,116,101,114,46])=false:=by simpa[S] using x
   clear z x;go_enter func146,ntmps146
   go_wp2_with fail;have H:Calls prog 171 #[.int .i64 2] w (zeX 2 w):=zbT 2 (by decide) w;refine H.mono ?_;rintro e T ⟨a,K,rfl,E,q⟩;have L:=I E;have d:=I q;have F:=zdF 2;clear E q;go_wp2_with fail;go_loop [7] (fun i=>∃j:Nat,j≤(zk 2).length∧i=.int .i64 j∧ztR (∀m,m<j→sAt (zk 2) m≠s)) (fun i=>(zk 2).length-(intOf i).toNat)
   case atStart=>exact⟨0,ztX _,rfl,I (fun m hm=>absurd hm (Nat.not_lt_zero _))⟩
   obtain⟨j,U,rfl,n⟩:=hrel;by_cases r:j<(zk 2).length
   · obtain⟨b,M,rfl,V,t⟩:=L.1.cells (by omega);have W:=t j r;clear t;cases e:((sAt (zk 2) j).toList==s.toList)
     · have u:=I (show ∀m,m<j+1→sAt (zk 2) m≠s from fun m hm=>by
        by_cases N:m=j
        · subst N;rw[zV]at e;simpa using e
        exact n.1 m (by omega))
       go_wp2_with fail;go_round
       case rel=>exact⟨j+1,by omega,by go_num,u⟩
       case measure=>simp[intOf];omega
     have A:sAt (zk 2) j=s:=by rw[zV]at e;simpa using e
     have f:=I (show zad 2 s=zah s by rw[←A];exact zjI (k:=2) (by decide) r (by intro _;have B:sAt (zk ((2:Nat):Int)) j=s:=A;rw[B];exact⟨Q.1,R.1⟩));clear A n;cases g:(s.toList== [108,101,103,115])
     case true=>
      have c:zah s=1:=by simp only[zah,zN,kNum,kClk,List.any_cons,List.any_nil,g,Bool.true_or,Bool.or_true,Bool.false_or,Bool.or_false,zt4,if_true,if_false]
      go_wp2_with fail;go_ret2;exact⟨by rw[f.1,c];rfl,d.1⟩
     cases h:(s.toList== [104,101,97,100,115])
     case true=>
      have c:zah s=1:=by simp only[zah,zN,kNum,kClk,List.any_cons,List.any_nil,g,h,Bool.true_or,Bool.or_true,Bool.false_or,Bool.or_false,zt4,if_true,if_false]
      go_wp2_with fail;go_ret2;exact⟨by rw[f.1,c];rfl,d.1⟩
     cases l:(s.toList== [116,121,112,101,115])
     case true=>
      have c:zah s=1:=by simp only[zah,zN,kNum,kClk,List.any_cons,List.any_nil,g,h,l,Bool.true_or,Bool.or_true,Bool.false_or,Bool.or_false,zt4,if_true,if_false]
      go_wp2_with fail;go_ret2;exact⟨by rw[f.1,c];rfl,d.1⟩
     cases o:(s.toList== [110,105,103,104,116,115])
     case true=>
      have c:zah s=1:=by simp only[zah,zN,kNum,kClk,List.any_cons,List.any_nil,g,h,l,o,Bool.true_or,Bool.or_true,Bool.false_or,Bool.or_false,zt4,if_true,if_false]
      go_wp2_with fail;go_ret2;exact⟨by rw[f.1,c];rfl,d.1⟩
     cases p:(s.toList== [100,117,116,105,101,115])
     case true=>
      have c:zah s=1:=by simp only[zah,zN,kNum,kClk,List.any_cons,List.any_nil,g,h,l,o,p,Bool.true_or,Bool.or_true,Bool.false_or,Bool.or_false,zt4,if_true,if_false]
      go_wp2_with fail;go_ret2;exact⟨by rw[f.1,c];rfl,d.1⟩
     cases v:(s.toList== [100,97,121,115])
     case true=>
      have c:zah s=1:=by simp only[zah,zN,kNum,kClk,List.any_cons,List.any_nil,g,h,l,o,p,v,Bool.true_or,Bool.or_true,Bool.false_or,Bool.or_false,zt4,if_true,if_false]
      go_wp2_with fail;go_ret2;exact⟨by rw[f.1,c];rfl,d.1⟩
     cases y:(s.toList== [115,116,97,114,116])
     case true=>
      have c:zah s=3:=by simp only[zah,zN,kNum,kClk,List.any_cons,List.any_nil,g,h,l,o,p,v,y,Bool.true_or,Bool.or_true,Bool.false_or,Bool.or_false,zt4,if_true,if_false]
      go_wp2_with fail;go_ret2;exact⟨by rw[f.1,c];rfl,d.1⟩
     cases C:(s.toList== [101,110,100])
     case true=>
      have c:zah s=3:=by simp only[zah,zN,kNum,kClk,List.any_cons,List.any_nil,g,h,l,o,p,v,y,C,Bool.true_or,Bool.or_true,Bool.false_or,Bool.or_false,zt4,if_true,if_false]
      go_wp2_with fail;go_ret2;exact⟨by rw[f.1,c];rfl,d.1⟩
     cases G:(s.toList== [104,111,109,101])
     case true=>
      have c:zah s=4:=by simp only[zah,zN,kNum,kClk,List.any_cons,List.any_nil,g,h,l,o,p,v,y,C,G,Bool.true_or,Bool.or_true,Bool.false_or,Bool.or_false,zt4,if_true,if_false]
      go_wp2_with fail;go_ret2;exact⟨by rw[f.1,c];rfl,d.1⟩
     have c:zah s=2:=by simp only[zah,zN,kNum,kClk,List.any_cons,List.any_nil,g,h,l,o,p,v,y,C,G,Bool.true_or,Bool.or_true,Bool.false_or,Bool.or_false,zt4,if_true,if_false]
     go_wp2_with fail;go_ret2;exact⟨by rw[f.1,c];rfl,d.1⟩
   obtain rfl:j=(zk 2).length:=by omega
   have P:=I (zd2 (k:=2) (by decide) (zej.none_wi n.1));have D:=I (show zad 2 s=0 from P.1);go_wp2_with fail;go_ret2;exact⟨by rw[D.1];rfl,d.1⟩
 clear z x;go_enter func146,ntmps146
 go_wp2_with fail;have H:Calls prog 171 #[.int .i64 2] w (zeX 2 w):=zbT 2 (by decide) w;refine H.mono ?_;rintro e T ⟨a,K,rfl,E,q⟩;have L:=I E;have d:=I q;have F:=zdF 2;clear E q;go_wp2_with fail;go_loop [7] (fun i=>∃j:Nat,j≤(zk 2).length∧i=.int .i64 j∧ztR (∀m,m<j→sAt (zk 2) m≠s)) (fun i=>(zk 2).length-(intOf i).toNat)
 case atStart=>exact⟨0,ztX _,rfl,I (fun m hm=>absurd hm (Nat.not_lt_zero _))⟩
 obtain⟨j,U,rfl,n⟩:=hrel;by_cases r:j<(zk 2).length
 · obtain⟨b,M,rfl,V,t⟩:=L.1.cells (by omega);have W:=t j r;clear t;cases e:((sAt (zk 2) j).toList==s.toList)
   · have u:=I (show ∀m,m<j+1→sAt (zk 2) m≠s from fun m hm=>by
      by_cases N:m=j
      · subst N;rw[zV]at e;simpa using e
      exact n.1 m (by omega))
     go_wp2_with fail;go_round
     case rel=>exact⟨j+1,by omega,by go_num,u⟩
     case measure=>simp[intOf];omega
   have A:sAt (zk 2) j=s:=by rw[zV]at e;simpa using e
   have f:=I (show zad 2 s=zah s by rw[←A];exact zjI (k:=2) (by decide) r (by intro _;have B:sAt (zk ((2:Nat):Int)) j=s:=A;rw[B];exact⟨Q.1,R.1⟩));clear A n;cases g:(s.toList== [108,101,103,115])
   case true=>
    have c:zah s=1:=by simp only[zah,zN,kNum,kClk,List.any_cons,List.any_nil,g,Bool.true_or,Bool.or_true,Bool.false_or,Bool.or_false,zt4,if_true,if_false]
    go_wp2_with fail;go_ret2;exact⟨by rw[f.1,c];rfl,d.1⟩
   cases h:(s.toList== [104,101,97,100,115])
   case true=>
    have c:zah s=1:=by simp only[zah,zN,kNum,kClk,List.any_cons,List.any_nil,g,h,Bool.true_or,Bool.or_true,Bool.false_or,Bool.or_false,zt4,if_true,if_false]
    go_wp2_with fail;go_ret2;exact⟨by rw[f.1,c];rfl,d.1⟩
   cases l:(s.toList== [116,121,112,101,115])
   case true=>
    have c:zah s=1:=by simp only[zah,zN,kNum,kClk,List.any_cons,List.any_nil,g,h,l,Bool.true_or,Bool.or_true,Bool.false_or,Bool.or_false,zt4,if_true,if_false]
    go_wp2_with fail;go_ret2;exact⟨by rw[f.1,c];rfl,d.1⟩
   cases o:(s.toList== [110,105,103,104,116,115])
   case true=>
    have c:zah s=1:=by simp only[zah,zN,kNum,kClk,List.any_cons,List.any_nil,g,h,l,o,Bool.true_or,Bool.or_true,Bool.false_or,Bool.or_false,zt4,if_true,if_false]
    go_wp2_with fail;go_ret2;exact⟨by rw[f.1,c];rfl,d.1⟩
   cases p:(s.toList== [100,117,116,105,101,115])
   case true=>
    have c:zah s=1:=by simp only[zah,zN,kNum,kClk,List.any_cons,List.any_nil,g,h,l,o,p,Bool.true_or,Bool.or_true,Bool.false_or,Bool.or_false,zt4,if_true,if_false]
    go_wp2_with fail;go_ret2;exact⟨by rw[f.1,c];rfl,d.1⟩
   cases v:(s.toList== [100,97,121,115])
   case true=>
    have c:zah s=1:=by simp only[zah,zN,kNum,kClk,List.any_cons,List.any_nil,g,h,l,o,p,v,Bool.true_or,Bool.or_true,Bool.false_or,Bool.or_false,zt4,if_true,if_false]
    go_wp2_with fail;go_ret2;exact⟨by rw[f.1,c];rfl,d.1⟩
   cases y:(s.toList== [115,116,97,114,116])
   case true=>
    have c:zah s=3:=by simp only[zah,zN,kNum,kClk,List.any_cons,List.any_nil,g,h,l,o,p,v,y,Bool.true_or,Bool.or_true,Bool.false_or,Bool.or_false,zt4,if_true,if_false]
    go_wp2_with fail;go_ret2;exact⟨by rw[f.1,c];rfl,d.1⟩
   cases C:(s.toList== [101,110,100])
   case true=>
    have c:zah s=3:=by simp only[zah,zN,kNum,kClk,List.any_cons,List.any_nil,g,h,l,o,p,v,y,C,Bool.true_or,Bool.or_true,Bool.false_or,Bool.or_false,zt4,if_true,if_false]
    go_wp2_with fail;go_ret2;exact⟨by rw[f.1,c];rfl,d.1⟩
   cases G:(s.toList== [104,111,109,101])
   case true=>
    have c:zah s=4:=by simp only[zah,zN,kNum,kClk,List.any_cons,List.any_nil,g,h,l,o,p,v,y,C,G,Bool.true_or,Bool.or_true,Bool.false_or,Bool.or_false,zt4,if_true,if_false]
    go_wp2_with fail;go_ret2;exact⟨by rw[f.1,c];rfl,d.1⟩
   have c:zah s=2:=by simp only[zah,zN,kNum,kClk,List.any_cons,List.any_nil,g,h,l,o,p,v,y,C,G,Bool.true_or,Bool.or_true,Bool.false_or,Bool.or_false,zt4,if_true,if_false]
   go_wp2_with fail;go_ret2;exact⟨by rw[f.1,c];rfl,d.1⟩
 obtain rfl:j=(zk 2).length:=by omega
 have P:=I (zd2 (k:=2) (by decide) (zej.none_wi n.1));have D:=I (show zad 2 s=0 from P.1);go_wp2_with fail;go_ret2;exact⟨by rw[D.1];rfl,d.1⟩
theorem zpF{s:ByteArray}(h:zgE s=true):zad 2 s=zad 1 (s.extract 7 s.size):=by
 rw[zgE,zt5]at h;have d:7<s.size:=by simpa using h.1
 have b:preB s befW=true:=by
  rw[preB,zt5];exact⟨decide_eq_true (by show 7≤s.size;omega),by rw[show befW.toList= [98,101,102,111,114,101,46] from Lib.toList_data _];exact h.2⟩
 have a:∀L:List UInt8,L.take 1≠ [98]→(s.toList==L)=false:=fun L hL=>by
  rw[beq_eq_false_iff_ne];intro e;have c:=zdU b;apply hL
  rw[←e,c,Lib.toList_data];rfl
 show zcX s=zfm _
 unfold zcX
 rw[a _ (by decide),a _ (by decide),a _ (by decide)];simp[b]
theorem zpG{s:ByteArray}(j:zgE s=false)(h:zju s=true):zad 2 s=zad 1 (s.extract 6 s.size):=by
 rw[zju,zt5]at h;have k:6<s.size:=by simpa using h.1
 have a:preB s aftW=true:=by
  rw[preB,zt5];exact⟨decide_eq_true (by show 6≤s.size;omega),by rw[show aftW.toList= [97,102,116,101,114,46] from Lib.toList_data _];exact h.2⟩
 have b:∀L:List UInt8,L.take 1≠ [97]→(s.toList==L)=false:=fun L hL=>by
  rw[beq_eq_false_iff_ne];intro e;have c:=zdU a;apply hL
  rw[←e,c,Lib.toList_data];rfl
 have d:preB s befW=false:=by
  cases f:preB s befW
  · rfl
  have i:=zdU a;have c:=zdU f;have:(s.toList).take 1= [97]:=by rw[i,Lib.toList_data];rfl
  have g:(s.toList).take 1= [98]:=by rw[c,Lib.toList_data];rfl
  rw[this]at g;exact absurd g (by decide)
 show zcX s=zfm _
 unfold zcX
 rw[b _ (by decide),b _ (by decide),b _ (by decide),d];simp[a]
theorem zgD(s:ByteArray)(w:World)(i:s.size≤140737488355328)(h:zgE s=true∨(zgE s=false∧zju s=true)):Calls prog 146 #[.int .i64 2,.string s] w fun e w'=>e=.returned (.tuple #[.int .i64 (zad 2 s),.int .i64 (erK (zad 2 s))])∧Below w.heap.size w w':=by
 rcases h with h|⟨h,b⟩
 · have c:=I (zpF h);rw[zgE,zt5]at h;have d:7<s.size:=by simpa using h.1
   have g:=h.2;clear h;go_enter func146,ntmps146
   go_wp2_with fail;refine(zeh _ _).mono ?_;rintro e f ⟨rfl,a⟩;go_wp2_with fail;go_ret2;exact⟨by rw[c.1];rfl,a⟩
 have c:=I (zpG h b);rw[zgE]at h;rw[zju,zt5]at b;have j:6<s.size:=by simpa using b.1
 have k:=b.2;clear b;by_cases d:7<s.size
 · have g:((s.extract 0 7).toList== [98,101,102,111,114,101,46])=false:=by simpa[d] using h
   clear h;go_enter func146,ntmps146
   go_wp2_with fail;refine(zeh _ _).mono ?_;rintro e f ⟨rfl,a⟩;go_wp2_with fail;go_ret2;exact⟨by rw[c.1];rfl,a⟩
 clear h;go_enter func146,ntmps146
 go_wp2_with fail;refine(zeh _ _).mono ?_;rintro e f ⟨rfl,a⟩;go_wp2_with fail;go_ret2;exact⟨by rw[c.1];rfl,a⟩
theorem zeg(k:Nat)(d:k<4)(s:ByteArray)(w:World)(b:s.size≤140737488355328):Calls prog 146 #[.int .i64 k,.string s] w fun e w'=>e=.returned (.tuple #[.int .i64 (zad k s),.int .i64 (erK (zad k s))])∧Below w.heap.size w w':=by
 obtain rfl|rfl|rfl|rfl:k=0∨k=1∨k=2∨k=3:=by omega
 · exact zmF s w
 · exact zeh s w
 · cases a:zgE s
   · cases c:zju s
     · exact zmE s w a c
     exact zgD s w b (.inr ⟨a,c⟩)
   exact zgD s w b (.inl a)
 exact zmD s w
theorem zoo(s:ByteArray)(w:World)(q:s.size≤140737488355328):Calls prog 176 #[.string s] w fun e w'=>e=.returned (.bool (zen s))∧Below w.heap.size w w':=by
 go_enter func176,ntmps176
 go_wp2_with fail;go_loopw [3] (fun i wr=>∃j:Nat,1≤j∧j≤4∧i=.int .i64 j∧ztR (∀m:Nat,1≤m→m<j→zad m s=0)∧ztR (Below w.heap.size w wr)) (fun i _=>4-(intOf i).toNat)
 case atStart=>exact⟨1,by omega,by omega,rfl,I (fun m p h2=>by omega),I (ztT _ _)⟩
 obtain⟨j,p,y,rfl,a,b⟩:=hrel;by_cases h:j≤3
 · have c:(j:Int)≤3:=by omega
   go_wp2_with fail;refine(zeg j (by omega) s wr q).mono ?_;rintro e z ⟨rfl,d⟩;have f:=I (ztS b.1 d);clear d;by_cases e:zad j s=0
   · have g:=I (show ∀m:Nat,1≤m→m<j+1→zad m s=0 from fun m g1 g2=>by
      by_cases r:m=j
      · subst r;exact e
      exact a.1 m g1 (by omega))
     have t:(erK (zad j s)==0)=false:=by rw[e];rfl
     clear e;go_wp2_with fail;go_roundw
     case rel=>exact⟨j+1,by omega,by omega,by go_num,g,f⟩
     case measure=>simp[intOf];omega
   have k:=I (zlc p h e);have t:(erK (zad j s)==0)=true:=by rw[erK,if_neg e];rfl
   clear e;go_wp2_with fail;go_ret;exact⟨zz k.1.symm,f.1⟩
 have c:¬ (j:Int)≤3:=by omega
 have k:=I (show zen s=false by
  have u:=a.1 1 (by omega) (by omega);have v:=a.1 2 (by omega) (by omega);have x:=a.1 3 (by omega) (by omega);have l:zad 1 s=0:=u;have n:zad 2 s=0:=v;have o:zad 3 s=0:=x;unfold zen;rw[l,n,o];rfl)
 go_wp2_with fail;go_ret;exact⟨zz k.1.symm,b.1⟩
end Go.Proofs.YtllakjblamfjbaaGreat
