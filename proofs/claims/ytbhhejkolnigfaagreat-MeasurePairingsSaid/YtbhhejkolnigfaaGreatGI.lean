/- a part of the proof -/
import Derived.Test.YtbhhejkolnigfaaGreatGG
import Derived.Test.YtbhhejkolnigfaaGreatGH
set_option linter.unusedVariables false
set_option linter.unusedSimpArgs false
set_option maxRecDepth 100000
set_option maxHeartbeats 51200000
namespace Go.Proofs.YtbhhejkolnigfaaGreat
open Go.RowKit Go.Sort Go.Proofs.Tryz
theorem zW.of_own{w:World}{b:Nat}{e:TypeId}{v:Value}{l:List Int}(h:w.ownsRow b e 1 v l.length (l.map (Value.int .i64))):∃a c,v=.slice a l.length c/\zW w a l:=by
 rcases h.2 with⟨f,j⟩|⟨g,c,d,rfl,f,k,m,n,o,p⟩
 . exact⟨none,0,by rw[f,j],.inl (List.length_eq_zero_iff.1 j)⟩
 refine⟨_,_,rfl,.inr ⟨g,0,rfl,ztW k,λi hi=>?_⟩⟩;have e:(d.toList.take (l.length*1))[i]?=some (.int .i64 (iAt l i)):=by
  rw[p];simp[iAt,hi]
 rw[List.getElem?_take,if_pos (by omega)]at e;have q:d[0+i]?=some (.int .i64 (iAt l i)):=by rw[Nat.zero_add];simpa using e
 exact zm k q
theorem za7{w:World}{a:Nat}{e t:TypeId}{b:Nat}{v:Value}{n:Nat}{k:List Value}{j:Nat}{c:Array Value}{f:Nat×Nat}(h:w.ownsRow a e b v n k)(l:w.heap[j]?=some (.cells c t f))(d:t≠e):some j≠v.ownBlock:=by
 rcases h.2 with⟨rfl,_⟩|⟨g,m,o,rfl,p,i,_⟩
 . simp[Value.ownBlock]
 intro e;simp[Value.ownBlock]at e
 subst e;rw[l]at i;simp at i
 exact d i.2.1
theorem zjJ:(prog.info? 3).map (λi=>(i.zero,i.size,i.bytes))=some (some (.int .i64 0),1,8):=by kernel_rfl
def zkg(w:World)(ka ea:zua)(T:List (Int×Int)):Prop:=zW w ka (T.map Prod.fst)/\zW w ea (T.map Prod.snd)
theorem zkg.below{w w':World}{a b:zua}{T:List (Int×Int)}(h:zkg w a b T)(c:Bw w w'):zkg w' a b T:=⟨h.1.below c,h.2.below c⟩
def ptAt(T:List (Int×Int))(i:Nat):Int×Int:=T.getD i (0,0)
theorem zs4(T:List (Int×Int))(i:Nat):iAt (T.map Prod.fst) i=(ptAt T i).1:=by
 unfold iAt ptAt
 rw[zt0,List.getElem?_map,zt0];cases T[i]? <;> rfl
theorem zsC(T:List (Int×Int))(i:Nat):iAt (T.map Prod.snd) i=(ptAt T i).2:=by
 unfold iAt ptAt
 rw[zt0,List.getElem?_map,zt0];cases T[i]? <;> rfl
theorem zhK(s:ByteArray):∀(l:List zB) (n:Nat),fi (l.take n) s=(fi l s).bind λi=>if i<n then some i else none
 |[],n=>by simp[fi]
 |x::l,0=>by
  rw[List.take_zero];cases fi (x::l) s <;> simp[fi]
 |x::l,n+1=>by
  have a:=zhK s l n;unfold fi at a ⊢
  rw[List.take_succ_cons,List.findIdx?_cons,List.findIdx?_cons];by_cases h:x.name=s
  . simp[h]
  simp only[h,decide_false,zt4,if_false,a];cases l.findIdx? (λx=>decide (x.name=s)) with
  |none=>rfl
  |some i=>
   by_cases g:i<n
   . simp[g]
   simp[g]
theorem zsX{l:List zB}{n:Nat}{s:ByteArray}(T:List (Int×Int))(h:ciI (l.take n) s<0):lkUp l T n s=none:=by
 unfold ciI at h
 rw[zhK]at h;unfold lkUp
 cases a:fi l s with
 |none=>rfl
 |some i=>
  rw[a]at h;by_cases g:i<n
  . simp[g]at h;omega
  simp[g]
theorem zsW{l:List zB}{n:Nat}{s:ByteArray}(T:List (Int×Int))(h:¬ ciI (l.take n) s<0):∃i:Nat,ciI (l.take n) s=i/\i<n/\lkUp l T n s=some (ptAt T i):=by
 unfold ciI at h ⊢
 rw[zhK]at h ⊢;unfold lkUp
 cases a:fi l s with
 |none=>rw[a]at h;simp at h
 |some i=>
  rw[a]at h;by_cases g:i<n
  . exact⟨i,by simp[g],g,by simp[g,ptAt]⟩
  simp[g]at h
theorem zo6(b:ByteArray->Option (Int×Int))(a c:Int)(s:ByteArray)(d:List zH):tyE b a (.mk 6 c s d)=if zad a s≠0 then(zad a s,0) else(b s).getD (0,6):=by rw[tyE,if_pos rfl]
theorem zo7(a:ByteArray->Option (Int×Int))(b o d:Int)(s:ByteArray)(c:List zH)(h:o≠6):tyE a b (.mk o d s c)=if(tyL a b c).1≠0 then(0,(tyL a b c).1) else if resK o (tyL a b c).2≠0 then(resK o (tyL a b c).2,0) else(0,9):=by rw[tyE,if_neg h]
def TypS(B:Nat)(l:List zB)(n:Nat)(la:zua)(lc:Nat)(T:List (Int×Int))(ka:zua)(kc:Nat)(ea:zua)(ec:Nat)(k:Nat)(x:zH):Prop:=∀(xa:zua) (xc:Nat) (w:World),B<=w.heap.size->za2 x->wfE x=true->cntE x<=200->zaz B w xa x.args->zkg w ka ea T->zbd B w la (l.take n)->
 Calls prog 176 #[.agg #[.slice ka n kc,.slice ea n ec],.slice la n lc,k,.agg #[x.op,x.num,.string x.name,.slice xa x.args.length xc]] w λe w'=>e=.returned (.tuple #[.int .i64 (tyE (lkUp l T n) k x).1,.int .i64 (tyE (lkUp l T n) k x).2])/\Below w.heap.size w w'
theorem znJ(B:Nat)(l:List zB)(n:Nat)(hn:n<=l.length)(la:zua)(lc:Nat)(T:List (Int×Int))(g9:T.length=n)(S:zua)(K:Nat)(U:zua)(L:Nat)(k:Nat)(f4:k<4)(o z:Int)(s:ByteArray)(c:List zH)(IH:∀j,j<c.length->TypS B l n la lc T S K U L k (eAt c j)):TypS B l n la lc T S K U L k (.mk o z s c):=by
 intro xa xc w g C a7 D ha a8 Y;obtain⟨hs,f5,_,_⟩:=C;simp only[zH.op,zH.num,zH.name,zH.args]at f5 ha hs ⊢;have a9:(l.take n).length=n:=by rw[List.length_take];omega
 have h0:n<=140737488355328:=by have:=Y.1;omega
 have g7:1+cntL c<=200:=by rw[cntE]at D;exact D
 have f6:c.length<=200:=by have:=zgZ c;omega
 obtain⟨hh,b0⟩:=ze8 a7;simp only[zcR,zt5]at hh;obtain⟨⟨⟨g1,h3⟩,_⟩,_⟩:=hh;obtain⟨h1,h2⟩:=zbz.1 g1;have b3:o=6->c= []:=λe=>by subst e;simp[zL]at h3;exact h3
 have H3:=I h3;have H6:=I b3;have HW:=I b0;have HI:=I IH;have HA:=I ha;have b4:=I a8;have b5:=I Y;obtain⟨i0,hi,f7,f8,f9⟩:=info_parts zjJ;clear IH ha a8 Y h3 b3 b0 g1 a7 D;go_enter func176,ntmps176
 go_wp2_with fail;have HB:=I (ztS (J w (Obj.cells #[.slice S n K,.slice U n L] 229)) (J _ (Obj.cells #[o,z,.string s,.slice xa c.length xc] 86)));have QK:=I (zd (o':=(Obj.cells #[o,z,.string s,.slice xa c.length xc] 86)) (zh w (Obj.cells #[.slice S n K,.slice U n L] 229)));have QX:=I (zh (w.alloc (Obj.cells #[.slice S n K,.slice U n L] 229)) (Obj.cells #[o,z,.string s,.slice xa c.length xc] 86));rw[zr]at QX;have HO:=I (show World.ownsRow ((w.alloc (Obj.cells #[.slice S n K,.slice U n L] 229)).alloc (Obj.cells #[o,z,.string s,.slice xa c.length xc] 86)) w.heap.size 3 1 (.slice none 0 0) 0 (([]:List Int).map (Value.int .i64)) from⟨rfl,.inl ⟨rfl,rfl⟩⟩);obtain⟨xb,Z⟩:∃xb,xb=w.heap.size+1:=⟨_,rfl⟩;rw[<-Z]at QX;simp only[<-Z];clear Z;generalize (w.alloc (Obj.cells #[.slice S n K,.slice U n L] 229)).alloc (Obj.cells #[o,z,.string s,.slice xa c.length xc] 86)=W at*;go_loopw [10,11] (λt i wr=>∃(j:Nat) (v:Value) (h:List Int),j<=c.length/\i=.int .i64 j/\t=v/\h.length=j/\ztR (tyL (lkUp l T n) k c=((tyL (lkUp l T n) k (c.drop j)).1,h++(tyL (lkUp l T n) k (c.drop j)).2))/\ztR (wr.ownsRow w.heap.size 3 1 v h.length (h.map (Value.int .i64)))/\ztR (wr.heap[w.heap.size]?=some (.cells #[.slice S n K,.slice U n L] 229 (0,0)))/\ztR (wr.heap[xb]?=some (.cells #[o,z,.string s,.slice xa c.length xc] 86 (0,0)))/\ztR (Bw w wr)) (λ_ i _=>c.length-(intOf i).toNat)
 case atStart=>exact⟨0,_, [],ztX _,rfl,rfl,rfl,I (by simp),HO,QK,QX,HB⟩
 clear HO QK QX HB;obtain⟨j,v,h,hj,rfl,rfl,M,p,hO,A,q,a⟩:=hrel;have y0:=zw A.1;have y1:=zu A.1;have yl:=ztW A.1;have x0:=zw q.1;have x2:=zC q.1;have x3:=zaj q.1;have b6:=ztW q.1;by_cases r:j<c.length
 . obtain⟨b,h4,b7,hb,b8⟩:=HA.1.cells (by omega);obtain⟨a2,b9,g0,⟨c0,c1,c2,c3⟩,C,E⟩:=(b8.keep (a.1.mono g)).at j r;have g2:b<wr.heap.size:=ztU g0 (ztV g a.1.size);rw[b7]at x3;have V:o≠6:=λe=>by have:=H6.1 e;rw[this]at r;simp at r
   have O6:=I V;have C1:=I (λdd os=>ztZ (HI.1 j r a2 b9 (grow (redrawn wr dd) os) (ztV (ztV g a.1.size) (below_regrown wr dd os).size) C (zkq HW.1 j r) (by have:=zhW (l:=c) j r;omega) (E.keep ((below_regrown wr dd os).mono (ztV g a.1.size))) ((b4.1.below a.1).below (below_regrown wr dd os)) (b5.1.keep ((ztS a.1 (below_regrown wr dd os)).mono g) (zbs.keep ((ztS a.1 (below_regrown wr dd os)).mono g)))));clear b8 E C b7 V;go_wp2_with fail;have r0:=λdd os=>cell_regrown y0 dd os
   have r1:=λdd os=>cell_regrown y1 dd os
   have r2:=λdd os=>cell_regrown x3 dd os
   have r3:=λdd os=>cell_regrown c0 dd os
   have r4:=λdd os=>cell_regrown c1 dd os
   have r5:=λdd os=>cell_regrown c2 dd os
   have r6:=λdd os=>cell_regrown c3 dd os
   refine wp_region_quiet_below (by kernel_rfl) (by kernel_rfl) ?_;repeat (first|go_big_quiet_step (first|(with_reducible exact C1.1 _ _))|quiet_step (first|(with_reducible exact C1.1 _ _)))
   refine wpQuiet_nil ?_;intro _ g3;obtain⟨⟨dq,F⟩,c6⟩:=g3;subst c6;have N:=I (ztS a.1 (below_regrown wr dq F));have P:=I (blkA (below_regrown wr dq F) A.1);have Q:=I (blkA (below_regrown wr dq F) q.1);have G:=I (zbQ hO.1 a.1 (below_regrown wr dq F));clear r0 r1 r2 r3 r4 r5 r6 C1 c0 c1 c2 c3 y0 y1 yl x0 x2 x3 b6 g2 hO A q a;generalize grow (redrawn wr dq) F=W2 at*;by_cases f:(tyE (lkUp l T n) k (eAt c j)).2=0
   . have R:=I (zsh r p.1 f);have g8:h.length<=200:=by omega
     have nk:=za7 G.1 P.1 (by decide);have nx:=za7 G.1 Q.1 (by decide);rw[f];go_wp2_with (at_builtin;refine wpList_append_own _ rfl _ _ 72 rfl w.heap.size 3 i0 (.int .i64 0) 1 8 underlying72 hi f7 f8 f9 rfl (by decide) _ _ _ rfl (G.1.alloc _) ⟨W2.heap.size,0,none⟩ 1 1 [.int .i64 (tyE (lkUp l T n) k (eAt c j)).1] rfl rfl ?c1 ?c2 ?c3 ?c4 ?c5 ?_)
     case c1=>exact zaa W2 [.int .i64 (tyE (lkUp l T n) k (eAt c j)).1] 3
     case c2=>intro u hu;simp at hu;subst hu;rfl
     case c3=>unfold maxLen;omega
     case c4=>omega
     case c5=>have:=N.1.size;simp;omega
     intro v' w3 H m _;have c7:=I (zaG (e':=3) N.1 rfl G.1 m);have c8:=I ((m.block _ (ztW (zd P.1)) nk).trans (zd P.1));have c9:=I ((m.block _ (ztW (zd Q.1)) nx).trans (zd Q.1))
     have d0:=I (show w3.ownsRow w.heap.size 3 1 v' (h++ [(tyE (lkUp l T n) k (eAt c j)).1]).length ((h++ [(tyE (lkUp l T n) k (eAt c j)).1]).map (Value.int .i64)) by
      rw[zt2,zt3,M];exact H)
     have X:(h++ [(tyE (lkUp l T n) k (eAt c j)).1]).length=j+1:=by simp[M]
     clear H m nk nx G P Q N p;go_wp2_with fail;go_roundw
     case rel=>first|exact⟨j+1,_,_,by omega,by go_num,rfl,X,R,d0,c8,c9,c7⟩|((repeat apply Exists.intro);exact⟨⟨j+1,_,_,by omega,by go_num,rfl,X,R,d0,c8,c9,c7⟩,rfl⟩)
     case measure=>simp[intOf];omega
   have R:=I (zo5 r p.1 f);have e2:((tyE (lkUp l T n) k (eAt c j)).2 !=0)=true:=by simpa using f
   have x:=I (show tyE (lkUp l T n) k (.mk o z s c)=(0,(tyE (lkUp l T n) k (eAt c j)).2) by rw[zo7 _ _ _ _ _ _ O6.1,R.1,if_pos f]);clear f;go_wp2_with fail;go_ret2;exact⟨zJ (by rw[x.1]) (by rw[x.1]),N.1⟩
 obtain rfl:j=c.length:=by omega
 have d3:tyL (lkUp l T n) k c=(0,h):=by rw[p.1,zt6,tyL];simp
 have g4:=I d3;clear d3 p;by_cases V:o=6
 . subst V;have g5:c= []:=H6.1 rfl;subst g5;have Hv:=I (zo6 (lkUp l T n) k z s []);go_wp2_with fail;refine ca (zeg k f4 s wr hs) λw1 y=>?_;have d:=I (ztS a.1 y);have a0:=I (blkA y A.1);have d4:=I (blkA y q.1);clear y a A q x0 x2 x3 b6 y0 y1 yl hO;by_cases f:zad k s=0
   . have a1:=I (Hv.1.trans (if_neg (by simpa using f)));have e2:(erK (zad k s)==0)=false:=by rw[f];rfl
     have z2:=zC d4.1;have zl:=ztW d4.1;clear f Hv;go_wp2_with fail;have a4:=I (zhV (l.take n) s la lc B w1 (ztV g d.1.size) (b5.1.keep (d.1.mono g) (zbs.keep (d.1.mono g))));rw[a9]at a4;refine a4.1.mono ?_;rintro e w2 ⟨rfl,rfl⟩;clear a4;by_cases e3:ciI (l.take n) s<0
     . have x:=I (show tyE (lkUp l T n) k (.mk 6 z s [])=(0,6) by rw[a1.1,zsX T e3];rfl);go_wp2_with fail;go_ret2;exact⟨zJ (by rw[x.1]) (by rw[x.1]),d.1⟩
     obtain⟨i,d5,h5,d6⟩:=zsW T e3;have x:=I (show tyE (lkUp l T n) k (.mk 6 z s [])=ptAt T i by rw[a1.1,d6];rfl);rw[d5];have a5:=b4.1.below d.1;obtain⟨b1,d7,d8,y,d9⟩:=a5.1.cells (by rw[List.length_map];omega);obtain⟨b2,f0,f1,h6,f2⟩:=a5.2.cells (by rw[List.length_map];omega);have d1:=d9 i (by rw[List.length_map];omega);have d2:=f2 i (by rw[List.length_map];omega);rw[zs4]at d1;rw[zsC]at d2;have y0:w1.cell? ⟨w.heap.size,0,none⟩=some (.slice (some ⟨b1,d7,none⟩) n K):=d8 ▸ zm (j:=0) a0.1 rfl;have y1:w1.cell? ⟨w.heap.size,1,none⟩=some (.slice (some ⟨b2,f0,none⟩) n L):=f1 ▸ zm (j:=1) a0.1 rfl;have yl:=ztW a0.1;clear d9 f2 a5 d8 f1 e3 d5 d6 a1;go_wp2_with fail;go_quiet (fail)
     go_wp2_with fail;go_ret2;exact⟨zJ (by rw[x.1]) (by rw[x.1]),ztS d.1 (dr _ _)⟩
   have x:=I (show tyE (lkUp l T n) k (.mk 6 z s [])=(zad k s,0) from Hv.1.trans (if_pos (by simpa using f)));have e2:(erK (zad k s)==0)=true:=by rw[erK,if_neg f];rfl
   clear f;go_wp2_with fail;go_ret2;exact⟨zJ (by rw[x.1]) (by rw[x.1]),d.1⟩
 have e6:(o==6)=false:=by simpa using V
 have Hv:=I (show tyE (lkUp l T n) k (.mk o z s c)=if resK o h≠0 then(resK o h,0) else(0,9) by rw[zo7 _ _ _ _ _ _ V,g4.1];rfl);obtain⟨a3,f3,rfl,hI⟩:=zW.of_own hO.1;have g6:=I hI;have ok:=I (show zsp o h.length from⟨h1,h2,V,by rw[M];exact H3.1⟩);have a6:h.length<=140737488355328:=by omega
 clear hI V M;go_wp2_with fail;refine ca (zl4 o h a3 f3 wr a6 g6.1 ok.1) λw1 y=>?_;have d:=I (ztS a.1 y);clear y;by_cases f:resK o h=0
 . have x:=I (show tyE (lkUp l T n) k (.mk o z s c)=(0,9) by rw[Hv.1,if_neg (by simpa using f)]);have e2:(resK o h==0)=true:=by simpa using f
   clear f;go_wp2_with fail;go_ret2;exact⟨zJ (by rw[x.1]) (by rw[x.1]),d.1⟩
 have x:=I (show tyE (lkUp l T n) k (.mk o z s c)=(resK o h,0) by rw[Hv.1,if_pos f]);have e2:(resK o h==0)=false:=by simpa using f
 clear f;go_wp2_with fail;go_ret2;exact⟨zJ (by rw[x.1]) (by rw[x.1]),d.1⟩
theorem zkG(B:Nat)(l:List zB)(n:Nat)(q:n<=l.length)(c:zua)(d:Nat)(T:List (Int×Int))(a:T.length=n)(e:zua)(f:Nat)(g:zua)(h:Nat)(k:Nat)(b:k<4)(x:zH):TypS B l n c d T e f g h k x:=by
 obtain⟨m,r⟩:∃m,m=SizeOf.sizeOf x:=⟨_,rfl⟩;induction m using Nat.strongRecOn generalizing x with
 |_ m ih=>
  subst r;obtain⟨o,i,s,p⟩:=x;exact znJ B l n q c d T a e f g h k b o i s p λj hj=>ih _ (zbM (x:=.mk o i s p) hj) _ rfl
theorem zb7{w w':World}{q j:Nat}{k b:TypeId}{s l:Nat}{m n:Value}{t o:Nat}{c a:List Value}(p:w.ownsRow j b l n o a)(u:w.ownsRow q k s m t c)(d:b≠k)(v:w.grownBy w' m.ownBlock):w'.ownsRow j b l n o a:=by
 refine⟨p.1,?_⟩;rcases p.2 with h|⟨g,e,f,x,y,i,r⟩
 . exact .inl h
 exact .inr ⟨g,e,f,x,y,(v.block g (ztW i) (za7 u i d)).trans i,r⟩
theorem zag{w w':World}{l:Nat}{d t:TypeId}{m:Nat}{n:Value}{o:Nat}{a:List Value}{p:Nat}{c:Array Value}{f:Nat×Nat}(q:w.ownsRow l d m n o a)(s:w.heap[p]?=some (.cells c t f))(i:t≠d)(u:w.grownBy w' (some p)):w'.ownsRow l d m n o a:=by
 refine⟨q.1,?_⟩;rcases q.2 with h|⟨g,j,k,v,x,b,r⟩
 . exact .inl h
 refine .inr ⟨g,j,k,v,x,(u.block g (ztW b) ?_).trans b,r⟩;intro e;cases e;rw[s]at b;simp at b
 exact i b.2.1
theorem zs1:(prog.info? 42).map (λi=>(i.zero,i.size,i.bytes))=some (some (.int .i64 0),1,8):=by kernel_rfl
theorem zbD{P:Program}{b:Array Oper}{Q:Exit->Act->World->Prop}{d:Nat}{a:Act}{w c:World}(S:World->Prop)(Z:List Nat)(e:P.follows .mixedOrders=true)(f:w.drew=c)(h:anyZ P .any b Q S Z b.size (Array.replicate b.size false) a c):(Code.region d b true).wp P Q a w:=zfC S Z e (f ▸ h)
theorem znK(B:Nat)(l:List zB)(n:Nat)(k:n<=l.length)(a:zua)(g:Nat)(T:List (Int×Int))(b:T.length=n)(c:zua)(h:Nat)(d:zua)(i:Nat)(x:zH)(f:zua)(j:Nat)(w:World)(m:B<=w.heap.size)(o:za2 x)(p:wfE x=true)(q:cntE x<=200)(r:zaz B w f x.args)(s:zkg w c d T)(t:zbd B w a (l.take n)):
 Calls prog 176 #[.agg #[.slice c n h,.slice d n i],.slice a n g,.int .i64 0,.agg #[x.op,x.num,.string x.name,.slice f x.args.length j]] w λe w'=>e=.returned (.tuple #[.int .i64 (tyE (lkUp l T n) 0 x).1,.int .i64 (tyE (lkUp l T n) 0 x).2])/\Bw w w':=zkG B l n k a g T b c h d i 0 (by omega) x f j w m o p q r s t
theorem zbf{w:World}{b:Nat}{u:Value}{t:TypeId}{f:Nat×Nat}(h:w.heap[b]?=some (.cells #[u] t f))(j:Nat)(a:Value)(c: [u][j]?=some a):w.cell? (Addr.add ⟨b,0,none⟩ j)=some a:=by
 cases j with
 |zero=>
  have e:u=a:=by simpa using c
  subst e;exact zm (j:=0) h rfl
 |succ j=>simp at c
theorem zc4{B:Nat}{w:World}{a:zua}{l:List zB}(h:zbd B w a l)(n:Nat):zbd B w a (l.take n):=by
 obtain⟨d,h⟩:=h;refine⟨ztV (by rw[List.length_take];omega) d,?_⟩;rcases h with rfl|⟨b,c,e,f,g⟩
 . exact .inl (by simp)
 refine .inr ⟨b,c,e,f,λi hi=>?_⟩;rw[List.length_take]at hi;have:csAt (l.take n) i=csAt l i:=by unfold csAt;rw[zt0,zt0,List.getElem?_take,if_pos (by omega)]
 rw[this];exact g i (by omega)
theorem zfz(l:List zB)(j:Nat):((tabC l j).map Prod.fst).length=j:=by rw[List.length_map,zd5]
theorem zfy(l:List zB)(j:Nat):((tabC l j).map Prod.snd).length=j:=by rw[List.length_map,zd5]
def ztF(w:World)(L:List zB)(e:Ending)(w':World):Prop:=∃ka kc ea ec,e=.returned (.agg #[.slice ka L.length kc,.slice ea L.length ec])/\zkg w' ka ea (tabC L L.length)/\Below w.heap.size w w'
theorem zkN(L:List zB)(la:zua)(lc:Nat)(B:Nat)(w:World)(m9:B<=w.heap.size)(I2:L.length<=lc/\lc<=140737488355328)(I6:L.length<=1000)(ha:zbd B w la L):Calls prog 177 #[.slice la L.length lc] w (ztF w L):=by
 have HA:=I ha;obtain⟨i0,hi,l8,l9,m0⟩:=info_parts zjJ;obtain⟨i1,hj,m1,m2,m3⟩:=info_parts zs1;clear ha;go_enter func177,ntmps177
 go_wp2_with fail;have HB:=I (ztS (J w (Obj.cells #[.slice none 0 0,.slice none 0 0] 229)) (J _ (Obj.cells #[.slice none 0 0,.slice none 0 0] 229)));have QR:=I (zd (o':=(Obj.cells #[.slice none 0 0,.slice none 0 0] 229)) (zh w (Obj.cells #[.slice none 0 0,.slice none 0 0] 229)));have QT:=I (zh (w.alloc (Obj.cells #[.slice none 0 0,.slice none 0 0] 229)) (Obj.cells #[.slice none 0 0,.slice none 0 0] 229));rw[zr]at QT;have D5:=I (show World.ownsRow ((w.alloc (Obj.cells #[.slice none 0 0,.slice none 0 0] 229)).alloc (Obj.cells #[.slice none 0 0,.slice none 0 0] 229)) w.heap.size 3 1 (.slice none 0 0) 0 ([]:List Value) from⟨rfl,.inl ⟨rfl,rfl⟩⟩);have D6:=I (show World.ownsRow ((w.alloc (Obj.cells #[.slice none 0 0,.slice none 0 0] 229)).alloc (Obj.cells #[.slice none 0 0,.slice none 0 0] 229)) w.heap.size 42 1 (.slice none 0 0) 0 ([]:List Value) from⟨rfl,.inl ⟨rfl,rfl⟩⟩);obtain⟨a,v7⟩:∃a,a=w.heap.size+1:=⟨_,rfl⟩;rw[<-v7]at QT;simp only[<-v7];have t8:=I (show w.heap.size<a by omega);clear v7;obtain⟨rb,v8⟩:∃rb,rb=w.heap.size:=⟨_,rfl⟩;rw[<-v8]at QR;generalize (w.alloc (Obj.cells #[.slice none 0 0,.slice none 0 0] 229)).alloc (Obj.cells #[.slice none 0 0,.slice none 0 0] 229)=W at*;rw[v8]at QR;clear v8 rb;go_loopw [4] (λi wr=>∃(j:Nat) (Y v2:Value),j<=L.length/\i=.int .i64 j/\ztR (wr.heap[w.heap.size]?=some (.cells #[.slice none 0 0,.slice none 0 0] 229 (0,0)))/\ztR (wr.heap[a]?=some (.cells #[Y,v2] 229 (0,0)))/\ztR (wr.ownsRow w.heap.size 3 1 Y ((tabC L j).map Prod.fst).length (((tabC L j).map Prod.fst).map (Value.int .i64)))/\ztR (wr.ownsRow w.heap.size 42 1 v2 ((tabC L j).map Prod.snd).length (((tabC L j).map Prod.snd).map (Value.int .i64)))/\ztR (Bw w wr)) (λi _=>L.length-(intOf i).toNat)
 case atStart=>exact⟨0,_,_,ztX _,rfl,QR,QT,D5,D6,HB⟩
 clear D5 D6 QR QT HB;obtain⟨j,Y,v2,I7,rfl,Z,h5,m4,m5,n⟩:=hrel;have y0:=zw h5.1;have y1:=zu h5.1;have yl:=ztW h5.1;by_cases H5:j<L.length
 . obtain⟨b,H6,D7,hb,D8⟩:=(HA.1.keep (n.1.mono m9) (zbs.keep (n.1.mono m9))).cells (by omega);obtain⟨_,_,a2,t9,⟨c1,c2,c3,c4⟩,u0,n0⟩:=D8 j H5;have m6:b<wr.heap.size:=by have:=n.1.size;omega
   have HF:=I u0;have v9:=I n0;have I8:=I D7;subst D7;clear D8 n0 u0;go_wp2_with fail;refine ca (za8 (csAt L j).ex a2 t9 wr B (by have:=n.1.size;omega) HF.1 v9.1) λw1 X=>?_;have w0:=I (blkA X Z.1);have m7:=I (blkA X h5.1);have k1:=I (zbQ m4.1 n.1 X);have k2:=I (zbQ m5.1 n.1 X);have g5:=I (ztS n.1 X);have n3:=I (v9.1.keep (X.mono (show B<=wr.heap.size by have:=n.1.size;omega)));have H7:=ztW m7.1;have z1:=zj c1 m6 X;have z2:=zj c2 m6 X;have z3:=zj c3 m6 X;have z4:=zj c4 m6 X;have zb:b<w1.heap.size:=ztU m6 X.size;clear X c1 c2 c3 c4 Z h5 m4 m5 n y0 y1 yl v9 m6;by_cases e0:valE (csAt L j).ex=0
   . obtain⟨D9,u1,_⟩:=zcA e0;have h6:=I (show(zgB L (tabC L j) j)=tyE (lkUp L (tabC L j) j) 0 (csAt L j).ex by rw[zgB,if_neg (by simpa using e0)]);obtain⟨ka,kc,rfl,h7⟩:=zW.of_own k1.1;obtain⟨ea,ec,rfl,h8⟩:=zW.of_own k2.1;have u2:=I (show zkg w1 ka ea (tabC L j) from⟨h7,h8⟩);have d6:=zfz L j;have d7:=zfy L j;have u3:B<=w1.heap.size:=ztV m9 g5.1.size;have x0:=zw m7.1;have x1:=zu m7.1;rw[d6]at x0;rw[d7]at x1;have C1:=I (λdd os=>ztZ (znK B L j (by omega) (some ⟨b,H6,none⟩) lc (tabC L j) (zd5 L j) ka kc ea ec (csAt L j).ex a2 t9 (grow (redrawn w1 dd) os) (ztV u3 (below_regrown w1 dd os).size) HF.1 D9 u1 (n3.1.keep ((below_regrown w1 dd os).mono u3)) (u2.1.below (below_regrown w1 dd os)) (zc4 (HA.1.keep ((ztS g5.1 (below_regrown w1 dd os)).mono m9) (zbs.keep ((ztS g5.1 (below_regrown w1 dd os)).mono m9))) j)));clear h7 h8 D9 u1;rw[e0];clear e0;go_wp2_with fail;have r0:=λdd os=>cell_regrown x0 dd os
     have r1:=λdd os=>cell_regrown x1 dd os
     have r2:=λdd os=>cell_regrown z1 dd os
     have r3:=λdd os=>cell_regrown z2 dd os
     have r4:=λdd os=>cell_regrown z3 dd os
     have r5:=λdd os=>cell_regrown z4 dd os
     refine wp_region_quiet_below (by kernel_rfl) (by kernel_rfl) ?_;repeat (first|go_big_quiet_step (first|(with_reducible exact C1.1 _ _))|quiet_step (first|(with_reducible exact C1.1 _ _)))
     refine wpQuiet_nil ?_;intro _ H8;obtain⟨⟨dq,m8⟩,E0⟩:=H8;subst E0;have H9:=I (blkA (below_regrown w1 dq m8) w0.1);have w2:=I (blkA (below_regrown w1 dq m8) m7.1);have u4:=I (zbQ k1.1 g5.1 (below_regrown w1 dq m8));have u5:=I (zbQ k2.1 g5.1 (below_regrown w1 dq m8));have I0:=I (ztS g5.1 (below_regrown w1 dq m8));clear r0 r1 r2 r3 r4 r5 C1 x0 x1 z1 z2 z3 z4 zb u2 w0 m7 k1 k2 g5 n3 H7;generalize grow (redrawn w1 dq) m8=W2 at*;obtain⟨Y,E1⟩:∃v,v=Value.slice ka ((tabC L j).map Prod.fst).length kc:=⟨_,rfl⟩;obtain⟨v2,E2⟩:∃v,v=Value.slice ea ((tabC L j).map Prod.snd).length ec:=⟨_,rfl⟩;rw[<-E1]at w2 u4;rw[<-E2]at w2 u5;obtain⟨kx,w3⟩:∃z,z=(tyE (lkUp L (tabC L j) j) 0 (csAt L j).ex).1:=⟨_,rfl⟩;obtain⟨V,w4⟩:∃z,z=(tyE (lkUp L (tabC L j) j) 0 (csAt L j).ex).2:=⟨_,rfl⟩;replace h6:ztR ((zgB L (tabC L j) j)=(kx,V)):=I (by rw[h6.1,w3,w4]);simp only[<-w3,<-w4];clear d6 d7 w3 w4 E1 E2;go_wp2_with fail;have E:=I (show((tabC L (j+1)).map Prod.fst)=((tabC L j).map Prod.fst)++ [kx] by rw[tabC,zt3,h6.1];rfl);have F:=I (show((tabC L (j+1)).map Prod.snd)=((tabC L j).map Prod.snd)++ [V] by rw[tabC,zt3,h6.1];rfl);have a0:ztR (W2.drew.heap[w.heap.size]?=some (.cells #[.slice none 0 0,.slice none 0 0] 229 (0,0))):=H9;have p:ztR (W2.drew.heap[a]?=some (.cells #[Y,v2] 229 (0,0))):=w2;have C:ztR (W2.drew.ownsRow w.heap.size 3 1 Y ((tabC L j).map Prod.fst).length (((tabC L j).map Prod.fst).map (Value.int .i64))):=u4;have D:ztR (W2.drew.ownsRow w.heap.size 42 1 v2 ((tabC L j).map Prod.snd).length (((tabC L j).map Prod.snd).map (Value.int .i64))):=u5;have a1:=I (I0.1.drew);obtain⟨Wd,h9⟩:∃Wd,W2.drew=Wd:=⟨_,rfl⟩;rw[h9]at a0 p C D a1;have a3:=zy (zw p.1) (zu p.1);have f:=t8.1;obtain⟨n1,d8⟩:∃m,m=((tabC L j).map Prod.fst).length:=⟨_,rfl⟩;obtain⟨n2,d9⟩:∃m,m=((tabC L j).map Prod.snd).length:=⟨_,rfl⟩;rw[<-d8]at C;rw[<-d9]at D;have d6:n1<=1000:=by rw[d8,zfz];omega
     have d7:n2<=1000:=by rw[d9,zfy];omega
     have G:=I d8;have H:=I d9;clear d8 d9;refine zbD (λw'=>w'.cell? ⟨a,0,none⟩=some Y/\w'.cell? ⟨a,1,none⟩=some v2) [11,13] (by kernel_rfl) h9 ?_;clear h9;refine zx (i:=0) (v:=.pointer (some ⟨a,0,none⟩)) rfl (λw' hS'=>?_) a3 ?_
     . obtain⟨g0,g1⟩:=hS';go_simp
     try simp only[Act.put,O]
     refine zx (i:=1) (v:=Y) rfl (λw' hS'=>?_) a3 ?_
     . obtain⟨g0,g1⟩:=hS';go_simp
     try simp only[Act.put,O]
     refine zx (i:=2) (v:=.int .i64 kx) rfl (λw' hS'=>?_) a3 ?_
     . obtain⟨g0,g1⟩:=hS';go_simp
     try simp only[Act.put,O]
     refine zx (i:=5) (v:=.pointer (some ⟨a,1,none⟩)) rfl (λw' hS'=>?_) a3 ?_
     . obtain⟨g0,g1⟩:=hS';go_simp
     try simp only[Act.put,O]
     refine zx (i:=6) (v:=v2) rfl (λw' hS'=>?_) a3 ?_
     . obtain⟨g0,g1⟩:=hS';go_simp
     try simp only[Act.put,O]
     refine zT (i:=7) (v:=.int .i64 V) rfl (λw'=>?_) ?_
     . go_simp
     try simp only[Act.put,O]
     refine zaU (i:=3) (j:=8) (oi:={dst:=some 37,op:=Op.buildSlice 72 1 #[(0,Operand.tmp 36)],type:=72,pos:= "types.go:81",after:=_,guard:=none}) (oj:={dst:=some 42,op:=Op.buildSlice 227 1 #[(0,Operand.tmp 41)],type:=227,pos:= "types.go:81",after:=_,guard:=none}) (by kernel_rfl) rfl rfl (by rfl) (by rfl) (λK hK=>?_) (λK hK=>?_)
     . skip
       have k3:=I (zd (o':=(Obj.cells #[kx] 3)) a0.1);have d1:=I (zd (o':=(Obj.cells #[kx] 3)) p.1);have d2:=I (C.1.alloc (Obj.cells #[kx] 3));have u6:=I (D.1.alloc (Obj.cells #[kx] 3));have k4:=I (ztS a1.1 (J _ (Obj.cells #[kx] 3)));have u7:=I (zh Wd (Obj.cells #[kx] 3));have E3:=zy (zw d1.1) (zu d1.1);go_simp;refine hK.1 _ _ (λ_ _=>E3) ?_;clear hK K;try simp only[Act.put,O]
       refine zaU (i:=4) (j:=8) (oi:={dst:=some 38,op:=Op.call {callee:=Callee.builtin Builtin.append,args:=#[Operand.tmp 35,Operand.tmp 37],argTypes:=#[72,72]},type:=72,pos:= "types.go:81",after:=_,guard:=none}) (oj:={dst:=some 42,op:=Op.buildSlice 227 1 #[(0,Operand.tmp 41)],type:=227,pos:= "types.go:81",after:=_,guard:=none}) (by kernel_rfl) rfl rfl (by rfl) (by rfl) (λK hK=>?_) (λK hK=>?_)
       . skip
         refine wp_append_lies _ (Operand.tmp 35) (Operand.tmp 37) 72 rfl w.heap.size 3 i0 (.int .i64 0) 1 8 underlying72 hi l8 l9 m0 rfl (by decide) Y _ _ rfl d2.1 _ 1 1 [.int .i64 kx] rfl rfl (zbf u7.1) ?p1_2 (by decide) ?p2_2 ?p3_2 k4.1.size _ rfl ?p4_2
         case p1_2=>intro u q;simp at q;subst q;rfl
         case p2_2=>unfold maxLen;omega
         case p3_2=>omega
         intro w5 i2 I1 n4 g6 w6 w7;have E4:=I ((g6.block _ (ztW k3.1) (za7 d2.1 k3.1 (by decide))).trans k3.1);have n5:=I ((g6.block _ (ztW d1.1) (za7 d2.1 d1.1 (by decide))).trans d1.1);have E5:=I n4;have E6:=I (zb7 u6.1 d2.1 (by decide) g6);have E7:=I (k4.1.grown g6 k4.1.size (λk hk=>zaM d2.1 k hk));have E8:=zy (zw n5.1) (zu n5.1);clear n4 g6 w6 w7;refine hK.1 _ _ (λ_ _=>E8) ?_;clear hK K;try simp only[Act.put,O]
         refine zT (i:=10) (v:=.pointer (some ⟨a,0,none⟩)) rfl (λw'=>?_) ?_
         . go_simp
         try simp only[Act.put,O]
         have n6:=I (zd (o':=(Obj.cells #[V] 42)) E4.1);have g7:=I (zd (o':=(Obj.cells #[V] 42)) n5.1);have E9:=I (E5.1.alloc (Obj.cells #[V] 42));have g8:=I (E6.1.alloc (Obj.cells #[V] 42));have n7:=I (ztS E7.1 (J _ (Obj.cells #[V] 42)));have F0:=I (zh I1 (Obj.cells #[V] 42));have F1:=zy (zw g7.1) (zu g7.1);refine zo (i:=8) (o:={dst:=some 42,op:=Op.buildSlice 227 1 #[(0,Operand.tmp 41)],type:=227,pos:= "types.go:81",after:=_,guard:=none}) (by kernel_rfl) rfl (by rfl) (λK hK=>?_);go_simp;refine hK.1 _ _ (λ_ _=>F1) ?_;clear hK K;try simp only[Act.put,O]
         refine zo (i:=9) (o:={dst:=some 43,op:=Op.call {callee:=Callee.builtin Builtin.append,args:=#[Operand.tmp 40,Operand.tmp 42],argTypes:=#[227,227]},type:=227,pos:= "types.go:81",after:=_,guard:=none}) (by kernel_rfl) rfl (by rfl) (λK hK=>?_);refine wp_append_lies _ (Operand.tmp 40) (Operand.tmp 42) 227 rfl w.heap.size 42 i1 (.int .i64 0) 1 8 underlying227 hj m1 m2 m3 rfl (by decide) v2 _ _ rfl g8.1 _ 1 1 [.int .i64 V] rfl rfl (zbf F0.1) ?p1_4 (by decide) ?p2_4 ?p3_4 n7.1.size _ rfl ?p4_4
         case p1_4=>intro u q;simp at q;subst q;rfl
         case p2_4=>unfold maxLen;omega
         case p3_4=>omega
         intro x2 i3 r8 n8 g9 x3 x4;have u8:=I ((g9.block _ (ztW n6.1) (za7 g8.1 n6.1 (by decide))).trans n6.1);have a4:=I ((g9.block _ (ztW g7.1) (za7 g8.1 g7.1 (by decide))).trans g7.1);have F2:=I (zb7 E9.1 g8.1 (by decide) g9);have F3:=I n8;have u9:=I (n7.1.grown g9 n7.1.size (λk hk=>zaM g8.1 k hk));have v0:=zy (zw a4.1) (zu a4.1);clear n8 g9 x3 x4;refine hK.1 _ _ (λ_ _=>v0) ?_;clear hK K;try simp only[Act.put,O]
         have a5:r8.cell? ⟨a,0,none⟩=some Y:=v0.1;have a6:r8.frozen? ⟨a,0,none⟩=false:=zQ a4.1;have a7:=ztW a4.1;have g:=Lib.grownBy_setCell r8 a 0 (.slice (some ⟨w5,0,none⟩) (n1+1) i2);have c:=I (zg (i:=0) (u:=(.slice (some ⟨w5,0,none⟩) (n1+1) i2)) a4.1);have R1:=I ((g.block _ (ztW u8.1) (by intro e;cases e;exact absurd f (by omega))).trans u8.1);have A1:=I (zag F2.1 a4.1 (by decide) g);have A2:=I (zag F3.1 a4.1 (by decide) g);have M:=I (u9.1.grown g u9.1.size (λk hk=>by cases hk;omega));refine zo (i:=11) (o:={dst:=none,op:=Op.store 72 (Operand.tmp 44) (Operand.tmp 38),type:=0,pos:= "types.go:81",after:=_,guard:=none}) (by kernel_rfl) rfl (by rfl) (λK hK=>?_);go_simp;refine hK.1 _ _ (λh _=>absurd (by decide:(11:Nat)∈ [11,13]) h) ?_;clear hK K a5 a6 a7 g;try simp only[Act.put,O]
         obtain⟨w8,d⟩:∃W,W=r8.setCell ⟨a,0,none⟩ (.slice (some ⟨w5,0,none⟩) (n1+1) i2):=⟨_,rfl⟩;rw[<-d]at c R1 A1 A2 M;simp only[<-d];clear d;refine zT (i:=12) (v:=.pointer (some ⟨a,1,none⟩)) rfl (λw'=>?_) ?_
         . go_simp
         try simp only[Act.put,O]
         have a8:=zu c.1;have a9:w8.frozen? ⟨a,1,none⟩=false:=zQ c.1;have b0:=ztW c.1;have l:=Lib.grownBy_setCell w8 a 1 (.slice (some ⟨x2,0,none⟩) (n2+1) i3);have T2:=I (zg (i:=1) (u:=(.slice (some ⟨x2,0,none⟩) (n2+1) i3)) c.1);have R2:=I ((l.block _ (ztW R1.1) (by intro e;cases e;exact absurd f (by omega))).trans R1.1);have r:=I (zag A1.1 c.1 (by decide) l);have s:=I (zag A2.1 c.1 (by decide) l);have B2:=I (M.1.grown l M.1.size (λk hk=>by cases hk;omega));refine zo (i:=13) (o:={dst:=none,op:=Op.store 227 (Operand.tmp 45) (Operand.tmp 43),type:=0,pos:= "types.go:81",after:=_,guard:=none}) (by kernel_rfl) rfl (by rfl) (λK hK=>?_);go_simp;refine hK.1 _ _ (λh _=>absurd (by decide:(13:Nat)∈ [11,13]) h) ?_;clear hK K a8 a9 b0 l;try simp only[Act.put,O]
         refine zM (by kernel_rfl) ?_;generalize w8.setCell ⟨a,1,none⟩ (.slice (some ⟨x2,0,none⟩) (n2+1) i3)=w9 at*;go_wp2_with fail;go_roundw
         case rel=>first|exact⟨j+1,_,_,by omega,by go_num,R2,T2,I (by rw[E.1,zt2,<-G.1,zt3];exact r.1),I (by rw[F.1,zt2,<-H.1,zt3];exact s.1),B2⟩|((repeat apply Exists.intro);exact⟨⟨j+1,_,_,by omega,by go_num,R2,T2,I (by rw[E.1,zt2,<-G.1,zt3];exact r.1),I (by rw[F.1,zt2,<-H.1,zt3];exact s.1),B2⟩,rfl⟩)
         case measure=>simp[intOf];omega
       skip
       have n9:=I (zd (o':=(Obj.cells #[V] 42)) k3.1);have h0:=I (zd (o':=(Obj.cells #[V] 42)) d1.1);have d3:=I (d2.1.alloc (Obj.cells #[V] 42));have F4:=I (u6.1.alloc (Obj.cells #[V] 42));have o0:=I (ztS k4.1 (J _ (Obj.cells #[V] 42)));have F5:=I (zd (o':=(Obj.cells #[V] 42)) u7.1);have k5:=I (zh (Wd.alloc (Obj.cells #[kx] 3)) (Obj.cells #[V] 42));rw[zr]at k5;have F6:=zy (zw h0.1) (zu h0.1);go_simp;refine hK.1 _ _ (λ_ _=>F6) ?_;clear hK K;try simp only[Act.put,O]
       refine zo (i:=4) (o:={dst:=some 38,op:=Op.call {callee:=Callee.builtin Builtin.append,args:=#[Operand.tmp 35,Operand.tmp 37],argTypes:=#[72,72]},type:=72,pos:= "types.go:81",after:=_,guard:=none}) (by kernel_rfl) rfl (by rfl) (λK hK=>?_);refine wp_append_lies _ (Operand.tmp 35) (Operand.tmp 37) 72 rfl w.heap.size 3 i0 (.int .i64 0) 1 8 underlying72 hi l8 l9 m0 rfl (by decide) Y _ _ rfl d3.1 _ 1 1 [.int .i64 kx] rfl rfl (zbf F5.1) ?p1_6 (by decide) ?p2_6 ?p3_6 o0.1.size _ rfl ?p4_6
       case p1_6=>intro u q;simp at q;subst q;rfl
       case p2_6=>unfold maxLen;omega
       case p3_6=>omega
       intro x5 i4 I9 o1 d4 x6 x7;have o2:=I ((d4.block _ (ztW n9.1) (za7 d3.1 n9.1 (by decide))).trans n9.1);have h1:=I ((d4.block _ (ztW h0.1) (za7 d3.1 h0.1 (by decide))).trans h0.1);have F7:=I o1;have h2:=I (zb7 F4.1 d3.1 (by decide) d4);have o3:=I (o0.1.grown d4 o0.1.size (λk hk=>zaM d3.1 k hk));have F8:=I ((d4.block _ (ztW k5.1) (za7 d3.1 k5.1 (by decide))).trans k5.1);have F9:=zy (zw h1.1) (zu h1.1);clear o1 d4 x6 x7;refine hK.1 _ _ (λ_ _=>F9) ?_;clear hK K;try simp only[Act.put,O]
       refine zT (i:=10) (v:=.pointer (some ⟨a,0,none⟩)) rfl (λw'=>?_) ?_
       . go_simp
       try simp only[Act.put,O]
       refine zo (i:=9) (o:={dst:=some 43,op:=Op.call {callee:=Callee.builtin Builtin.append,args:=#[Operand.tmp 40,Operand.tmp 42],argTypes:=#[227,227]},type:=227,pos:= "types.go:81",after:=_,guard:=none}) (by kernel_rfl) rfl (by rfl) (λK hK=>?_);refine wp_append_lies _ (Operand.tmp 40) (Operand.tmp 42) 227 rfl w.heap.size 42 i1 (.int .i64 0) 1 8 underlying227 hj m1 m2 m3 rfl (by decide) v2 _ _ rfl h2.1 _ 1 1 [.int .i64 V] rfl rfl (zbf F8.1) ?p1_7 (by decide) ?p2_7 ?p3_7 o3.1.size _ rfl ?p4_7
       case p1_7=>intro u q;simp at q;subst q;rfl
       case p2_7=>unfold maxLen;omega
       case p3_7=>omega
       intro x8 i5 r9 o4 h3 x9 y2;have v3:=I ((h3.block _ (ztW o2.1) (za7 h2.1 o2.1 (by decide))).trans o2.1);have b1:=I ((h3.block _ (ztW h1.1) (za7 h2.1 h1.1 (by decide))).trans h1.1);have G0:=I (zb7 F7.1 h2.1 (by decide) h3);have G3:=I o4;have v4:=I (o3.1.grown h3 o3.1.size (λk hk=>zaM h2.1 k hk));have v5:=zy (zw b1.1) (zu b1.1);clear o4 h3 x9 y2;refine hK.1 _ _ (λ_ _=>v5) ?_;clear hK K;try simp only[Act.put,O]
       have a5:r9.cell? ⟨a,0,none⟩=some Y:=v5.1;have a6:r9.frozen? ⟨a,0,none⟩=false:=zQ b1.1;have a7:=ztW b1.1;have g:=Lib.grownBy_setCell r9 a 0 (.slice (some ⟨x5,0,none⟩) (n1+1) i4);have c:=I (zg (i:=0) (u:=(.slice (some ⟨x5,0,none⟩) (n1+1) i4)) b1.1);have R1:=I ((g.block _ (ztW v3.1) (by intro e;cases e;exact absurd f (by omega))).trans v3.1);have A1:=I (zag G0.1 b1.1 (by decide) g);have A2:=I (zag G3.1 b1.1 (by decide) g);have M:=I (v4.1.grown g v4.1.size (λk hk=>by cases hk;omega));refine zo (i:=11) (o:={dst:=none,op:=Op.store 72 (Operand.tmp 44) (Operand.tmp 38),type:=0,pos:= "types.go:81",after:=_,guard:=none}) (by kernel_rfl) rfl (by rfl) (λK hK=>?_);go_simp;refine hK.1 _ _ (λh _=>absurd (by decide:(11:Nat)∈ [11,13]) h) ?_;clear hK K a5 a6 a7 g;try simp only[Act.put,O]
       obtain⟨w8,d⟩:∃W,W=r9.setCell ⟨a,0,none⟩ (.slice (some ⟨x5,0,none⟩) (n1+1) i4):=⟨_,rfl⟩;rw[<-d]at c R1 A1 A2 M;simp only[<-d];clear d;refine zT (i:=12) (v:=.pointer (some ⟨a,1,none⟩)) rfl (λw'=>?_) ?_
       . go_simp
       try simp only[Act.put,O]
       have a8:=zu c.1;have a9:w8.frozen? ⟨a,1,none⟩=false:=zQ c.1;have b0:=ztW c.1;have l:=Lib.grownBy_setCell w8 a 1 (.slice (some ⟨x8,0,none⟩) (n2+1) i5);have T2:=I (zg (i:=1) (u:=(.slice (some ⟨x8,0,none⟩) (n2+1) i5)) c.1);have R2:=I ((l.block _ (ztW R1.1) (by intro e;cases e;exact absurd f (by omega))).trans R1.1);have r:=I (zag A1.1 c.1 (by decide) l);have s:=I (zag A2.1 c.1 (by decide) l);have B2:=I (M.1.grown l M.1.size (λk hk=>by cases hk;omega));refine zo (i:=13) (o:={dst:=none,op:=Op.store 227 (Operand.tmp 45) (Operand.tmp 43),type:=0,pos:= "types.go:81",after:=_,guard:=none}) (by kernel_rfl) rfl (by rfl) (λK hK=>?_);go_simp;refine hK.1 _ _ (λh _=>absurd (by decide:(13:Nat)∈ [11,13]) h) ?_;clear hK K a8 a9 b0 l;try simp only[Act.put,O]
       refine zM (by kernel_rfl) ?_;generalize w8.setCell ⟨a,1,none⟩ (.slice (some ⟨x8,0,none⟩) (n2+1) i5)=w9 at*;go_wp2_with fail;go_roundw
       case rel=>first|exact⟨j+1,_,_,by omega,by go_num,R2,T2,I (by rw[E.1,zt2,<-G.1,zt3];exact r.1),I (by rw[F.1,zt2,<-H.1,zt3];exact s.1),B2⟩|((repeat apply Exists.intro);exact⟨⟨j+1,_,_,by omega,by go_num,R2,T2,I (by rw[E.1,zt2,<-G.1,zt3];exact r.1),I (by rw[F.1,zt2,<-H.1,zt3];exact s.1),B2⟩,rfl⟩)
       case measure=>simp[intOf];omega
     skip
     have G4:=I (zd (o':=(Obj.cells #[V] 42)) a0.1);have o5:=I (zd (o':=(Obj.cells #[V] 42)) p.1);have G5:=I (C.1.alloc (Obj.cells #[V] 42));have G6:=I (D.1.alloc (Obj.cells #[V] 42));have G7:=I (ztS a1.1 (J _ (Obj.cells #[V] 42)));have G8:=I (zh Wd (Obj.cells #[V] 42));have G9:=zy (zw o5.1) (zu o5.1);go_simp;refine hK.1 _ _ (λ_ _=>G9) ?_;clear hK K;try simp only[Act.put,O]
     have o6:=I (zd (o':=(Obj.cells #[kx] 3)) G4.1);have h4:=I (zd (o':=(Obj.cells #[kx] 3)) o5.1);have d5:=I (G5.1.alloc (Obj.cells #[kx] 3));have H0:=I (G6.1.alloc (Obj.cells #[kx] 3));have o7:=I (ztS G7.1 (J _ (Obj.cells #[kx] 3)));have o8:=I (zd (o':=(Obj.cells #[kx] 3)) G8.1);have v6:=I (zh (Wd.alloc (Obj.cells #[V] 42)) (Obj.cells #[kx] 3));rw[zr]at v6;have H1:=zy (zw h4.1) (zu h4.1);refine zo (i:=3) (o:={dst:=some 37,op:=Op.buildSlice 72 1 #[(0,Operand.tmp 36)],type:=72,pos:= "types.go:81",after:=_,guard:=none}) (by kernel_rfl) rfl (by rfl) (λK hK=>?_);go_simp;refine hK.1 _ _ (λ_ _=>H1) ?_;clear hK K;try simp only[Act.put,O]
     refine zo (i:=4) (o:={dst:=some 38,op:=Op.call {callee:=Callee.builtin Builtin.append,args:=#[Operand.tmp 35,Operand.tmp 37],argTypes:=#[72,72]},type:=72,pos:= "types.go:81",after:=_,guard:=none}) (by kernel_rfl) rfl (by rfl) (λK hK=>?_);refine wp_append_lies _ (Operand.tmp 35) (Operand.tmp 37) 72 rfl w.heap.size 3 i0 (.int .i64 0) 1 8 underlying72 hi l8 l9 m0 rfl (by decide) Y _ _ rfl d5.1 _ 1 1 [.int .i64 kx] rfl rfl (zbf v6.1) ?p1_10 (by decide) ?p2_10 ?p3_10 o7.1.size _ rfl ?p4_10
     case p1_10=>intro u q;simp at q;subst q;rfl
     case p2_10=>unfold maxLen;omega
     case p3_10=>omega
     intro o9 f2 I3 k6 N s2 s3;have i6:=I ((N.block _ (ztW o6.1) (za7 d5.1 o6.1 (by decide))).trans o6.1);have b2:=I ((N.block _ (ztW h4.1) (za7 d5.1 h4.1 (by decide))).trans h4.1);have y3:=I k6;have b3:=I (zb7 H0.1 d5.1 (by decide) N);have i7:=I (o7.1.grown N o7.1.size (λk hk=>zaM d5.1 k hk));have y4:=I ((N.block _ (ztW o8.1) (za7 d5.1 o8.1 (by decide))).trans o8.1);have y5:=zy (zw b2.1) (zu b2.1);clear k6 N s2 s3;refine hK.1 _ _ (λ_ _=>y5) ?_;clear hK K;try simp only[Act.put,O]
     refine zT (i:=10) (v:=.pointer (some ⟨a,0,none⟩)) rfl (λw'=>?_) ?_
     . go_simp
     try simp only[Act.put,O]
     refine zo (i:=9) (o:={dst:=some 43,op:=Op.call {callee:=Callee.builtin Builtin.append,args:=#[Operand.tmp 40,Operand.tmp 42],argTypes:=#[227,227]},type:=227,pos:= "types.go:81",after:=_,guard:=none}) (by kernel_rfl) rfl (by rfl) (λK hK=>?_);refine wp_append_lies _ (Operand.tmp 40) (Operand.tmp 42) 227 rfl w.heap.size 42 i1 (.int .i64 0) 1 8 underlying227 hj m1 m2 m3 rfl (by decide) v2 _ _ rfl b3.1 _ 1 1 [.int .i64 V] rfl rfl (zbf y4.1) ?p1_11 (by decide) ?p2_11 ?p3_11 i7.1.size _ rfl ?p4_11
     case p1_11=>intro u q;simp at q;subst q;rfl
     case p2_11=>unfold maxLen;omega
     case p3_11=>omega
     intro p0 f3 k7 k8 b4 s4 s5;have p1:=I ((b4.block _ (ztW i6.1) (za7 b3.1 i6.1 (by decide))).trans i6.1);have t:=I ((b4.block _ (ztW b2.1) (za7 b3.1 b2.1 (by decide))).trans b2.1);have y6:=I (zb7 y3.1 b3.1 (by decide) b4);have y7:=I k8;have p2:=I (i7.1.grown b4 i7.1.size (λk hk=>zaM b3.1 k hk));have p3:=zy (zw t.1) (zu t.1);clear k8 b4 s4 s5;refine hK.1 _ _ (λ_ _=>p3) ?_;clear hK K;try simp only[Act.put,O]
     have a5:k7.cell? ⟨a,0,none⟩=some Y:=p3.1;have a6:k7.frozen? ⟨a,0,none⟩=false:=zQ t.1;have a7:=ztW t.1;have g:=Lib.grownBy_setCell k7 a 0 (.slice (some ⟨o9,0,none⟩) (n1+1) f2);have c:=I (zg (i:=0) (u:=(.slice (some ⟨o9,0,none⟩) (n1+1) f2)) t.1);have R1:=I ((g.block _ (ztW p1.1) (by intro e;cases e;exact absurd f (by omega))).trans p1.1);have A1:=I (zag y6.1 t.1 (by decide) g);have A2:=I (zag y7.1 t.1 (by decide) g);have M:=I (p2.1.grown g p2.1.size (λk hk=>by cases hk;omega));refine zo (i:=11) (o:={dst:=none,op:=Op.store 72 (Operand.tmp 44) (Operand.tmp 38),type:=0,pos:= "types.go:81",after:=_,guard:=none}) (by kernel_rfl) rfl (by rfl) (λK hK=>?_);go_simp;refine hK.1 _ _ (λh _=>absurd (by decide:(11:Nat)∈ [11,13]) h) ?_;clear hK K a5 a6 a7 g;try simp only[Act.put,O]
     obtain⟨w8,d⟩:∃W,W=k7.setCell ⟨a,0,none⟩ (.slice (some ⟨o9,0,none⟩) (n1+1) f2):=⟨_,rfl⟩;rw[<-d]at c R1 A1 A2 M;simp only[<-d];clear d;refine zT (i:=12) (v:=.pointer (some ⟨a,1,none⟩)) rfl (λw'=>?_) ?_
     . go_simp
     try simp only[Act.put,O]
     have a8:=zu c.1;have a9:w8.frozen? ⟨a,1,none⟩=false:=zQ c.1;have b0:=ztW c.1;have l:=Lib.grownBy_setCell w8 a 1 (.slice (some ⟨p0,0,none⟩) (n2+1) f3);have T2:=I (zg (i:=1) (u:=(.slice (some ⟨p0,0,none⟩) (n2+1) f3)) c.1);have R2:=I ((l.block _ (ztW R1.1) (by intro e;cases e;exact absurd f (by omega))).trans R1.1);have r:=I (zag A1.1 c.1 (by decide) l);have s:=I (zag A2.1 c.1 (by decide) l);have B2:=I (M.1.grown l M.1.size (λk hk=>by cases hk;omega));refine zo (i:=13) (o:={dst:=none,op:=Op.store 227 (Operand.tmp 45) (Operand.tmp 43),type:=0,pos:= "types.go:81",after:=_,guard:=none}) (by kernel_rfl) rfl (by rfl) (λK hK=>?_);go_simp;refine hK.1 _ _ (λh _=>absurd (by decide:(13:Nat)∈ [11,13]) h) ?_;clear hK K a8 a9 b0 l;try simp only[Act.put,O]
     refine zM (by kernel_rfl) ?_;generalize w8.setCell ⟨a,1,none⟩ (.slice (some ⟨p0,0,none⟩) (n2+1) f3)=w9 at*;go_wp2_with fail;go_roundw
     case rel=>first|exact⟨j+1,_,_,by omega,by go_num,R2,T2,I (by rw[E.1,zt2,<-G.1,zt3];exact r.1),I (by rw[F.1,zt2,<-H.1,zt3];exact s.1),B2⟩|((repeat apply Exists.intro);exact⟨⟨j+1,_,_,by omega,by go_num,R2,T2,I (by rw[E.1,zt2,<-G.1,zt3];exact r.1),I (by rw[F.1,zt2,<-H.1,zt3];exact s.1),B2⟩,rfl⟩)
     case measure=>simp[intOf];omega
   have h6:=I (show(zgB L (tabC L j) j)=(0,valE (csAt L j).ex) by rw[zgB,if_pos e0]);have e1:(valE (csAt L j).ex==0)=false:=by simpa using e0
   clear e0 z1 z2 z3 z4 zb n3;go_wp2_with fail;have E:=I (show((tabC L (j+1)).map Prod.fst)=((tabC L j).map Prod.fst)++ [0] by rw[tabC,zt3,h6.1];rfl);have F:=I (show((tabC L (j+1)).map Prod.snd)=((tabC L j).map Prod.snd)++ [(valE (csAt L j).ex)] by rw[tabC,zt3,h6.1];rfl);have a0:ztR (w1.drew.heap[w.heap.size]?=some (.cells #[.slice none 0 0,.slice none 0 0] 229 (0,0))):=w0;have p:ztR (w1.drew.heap[a]?=some (.cells #[Y,v2] 229 (0,0))):=m7;have C:ztR (w1.drew.ownsRow w.heap.size 3 1 Y ((tabC L j).map Prod.fst).length (((tabC L j).map Prod.fst).map (Value.int .i64))):=k1;have D:ztR (w1.drew.ownsRow w.heap.size 42 1 v2 ((tabC L j).map Prod.snd).length (((tabC L j).map Prod.snd).map (Value.int .i64))):=k2;have a1:=I (g5.1.drew);obtain⟨Wd,h9⟩:∃Wd,w1.drew=Wd:=⟨_,rfl⟩;rw[h9]at a0 p C D a1;have a3:=zy (zw p.1) (zu p.1);have f:=t8.1;obtain⟨n1,d8⟩:∃m,m=((tabC L j).map Prod.fst).length:=⟨_,rfl⟩;obtain⟨n2,d9⟩:∃m,m=((tabC L j).map Prod.snd).length:=⟨_,rfl⟩;rw[<-d8]at C;rw[<-d9]at D;have d6:n1<=1000:=by rw[d8,zfz];omega
   have d7:n2<=1000:=by rw[d9,zfy];omega
   have G:=I d8;have H:=I d9;clear d8 d9;refine zbD (λw'=>w'.cell? ⟨a,0,none⟩=some Y/\w'.cell? ⟨a,1,none⟩=some v2) [11,13] (by kernel_rfl) h9 ?_;clear h9;refine zx (i:=0) (v:=.pointer (some ⟨a,0,none⟩)) rfl (λw' hS'=>?_) a3 ?_
   . obtain⟨g0,g1⟩:=hS';go_simp
   try simp only[Act.put,O]
   refine zx (i:=1) (v:=Y) rfl (λw' hS'=>?_) a3 ?_
   . obtain⟨g0,g1⟩:=hS';go_simp
   try simp only[Act.put,O]
   refine zx (i:=2) (v:=.int .i64 0) rfl (λw' hS'=>?_) a3 ?_
   . obtain⟨g0,g1⟩:=hS';go_simp
   try simp only[Act.put,O]
   refine zx (i:=5) (v:=.pointer (some ⟨a,1,none⟩)) rfl (λw' hS'=>?_) a3 ?_
   . obtain⟨g0,g1⟩:=hS';go_simp
   try simp only[Act.put,O]
   refine zx (i:=6) (v:=v2) rfl (λw' hS'=>?_) a3 ?_
   . obtain⟨g0,g1⟩:=hS';go_simp
   try simp only[Act.put,O]
   refine zT (i:=7) (v:=.int .i64 (valE (csAt L j).ex)) rfl (λw'=>?_) ?_
   . go_simp
   try simp only[Act.put,O]
   refine zaU (i:=3) (j:=8) (oi:={dst:=some 37,op:=Op.buildSlice 72 1 #[(0,Operand.tmp 36)],type:=72,pos:= "types.go:81",after:=_,guard:=none}) (oj:={dst:=some 42,op:=Op.buildSlice 227 1 #[(0,Operand.tmp 41)],type:=227,pos:= "types.go:81",after:=_,guard:=none}) (by kernel_rfl) rfl rfl (by rfl) (by rfl) (λK hK=>?_) (λK hK=>?_)
   . skip
     have f4:=I (zd (o':=(Obj.cells #[.int .i64 0] 3)) a0.1);have P:=I (zd (o':=(Obj.cells #[.int .i64 0] 3)) p.1);have Q:=I (C.1.alloc (Obj.cells #[.int .i64 0] 3));have p4:=I (D.1.alloc (Obj.cells #[.int .i64 0] 3));have f5:=I (ztS a1.1 (J _ (Obj.cells #[.int .i64 0] 3)));have p5:=I (zh Wd (Obj.cells #[.int .i64 0] 3));have y8:=zy (zw P.1) (zu P.1);go_simp;refine hK.1 _ _ (λ_ _=>y8) ?_;clear hK K;try simp only[Act.put,O]
     refine zaU (i:=4) (j:=8) (oi:={dst:=some 38,op:=Op.call {callee:=Callee.builtin Builtin.append,args:=#[Operand.tmp 35,Operand.tmp 37],argTypes:=#[72,72]},type:=72,pos:= "types.go:81",after:=_,guard:=none}) (oj:={dst:=some 42,op:=Op.buildSlice 227 1 #[(0,Operand.tmp 41)],type:=227,pos:= "types.go:81",after:=_,guard:=none}) (by kernel_rfl) rfl rfl (by rfl) (by rfl) (λK hK=>?_) (λK hK=>?_)
     . skip
       refine wp_append_lies _ (Operand.tmp 35) (Operand.tmp 37) 72 rfl w.heap.size 3 i0 (.int .i64 0) 1 8 underlying72 hi l8 l9 m0 rfl (by decide) Y _ _ rfl Q.1 _ 1 1 [.int .i64 0] rfl rfl (zbf p5.1) ?p1_13 (by decide) ?p2_13 ?p3_13 f5.1.size _ rfl ?p4_13
       case p1_13=>intro u q;simp at q;subst q;rfl
       case p2_13=>unfold maxLen;omega
       case p3_13=>omega
       intro p6 f6 H2 k9 b5 s6 s7;have y9:=I ((b5.block _ (ztW f4.1) (za7 Q.1 f4.1 (by decide))).trans f4.1);have i8:=I ((b5.block _ (ztW P.1) (za7 Q.1 P.1 (by decide))).trans P.1);have A0:=I k9;have A3:=I (zb7 p4.1 Q.1 (by decide) b5);have A4:=I (f5.1.grown b5 f5.1.size (λk hk=>zaM Q.1 k hk));have A5:=zy (zw i8.1) (zu i8.1);clear k9 b5 s6 s7;refine hK.1 _ _ (λ_ _=>A5) ?_;clear hK K;try simp only[Act.put,O]
       refine zT (i:=10) (v:=.pointer (some ⟨a,0,none⟩)) rfl (λw'=>?_) ?_
       . go_simp
       try simp only[Act.put,O]
       have i9:=I (zd (o':=(Obj.cells #[(valE (csAt L j).ex)] 42)) y9.1);have b6:=I (zd (o':=(Obj.cells #[(valE (csAt L j).ex)] 42)) i8.1);have A6:=I (A0.1.alloc (Obj.cells #[(valE (csAt L j).ex)] 42));have b7:=I (A3.1.alloc (Obj.cells #[(valE (csAt L j).ex)] 42));have j0:=I (ztS A4.1 (J _ (Obj.cells #[(valE (csAt L j).ex)] 42)));have A7:=I (zh H2 (Obj.cells #[(valE (csAt L j).ex)] 42));have A8:=zy (zw b6.1) (zu b6.1);refine zo (i:=8) (o:={dst:=some 42,op:=Op.buildSlice 227 1 #[(0,Operand.tmp 41)],type:=227,pos:= "types.go:81",after:=_,guard:=none}) (by kernel_rfl) rfl (by rfl) (λK hK=>?_);go_simp;refine hK.1 _ _ (λ_ _=>A8) ?_;clear hK K;try simp only[Act.put,O]
       refine zo (i:=9) (o:={dst:=some 43,op:=Op.call {callee:=Callee.builtin Builtin.append,args:=#[Operand.tmp 40,Operand.tmp 42],argTypes:=#[227,227]},type:=227,pos:= "types.go:81",after:=_,guard:=none}) (by kernel_rfl) rfl (by rfl) (λK hK=>?_);refine wp_append_lies _ (Operand.tmp 40) (Operand.tmp 42) 227 rfl w.heap.size 42 i1 (.int .i64 0) 1 8 underlying227 hj m1 m2 m3 rfl (by decide) v2 _ _ rfl b7.1 _ 1 1 [.int .i64 (valE (csAt L j).ex)] rfl rfl (zbf A7.1) ?p1_15 (by decide) ?p2_15 ?p3_15 j0.1.size _ rfl ?p4_15
       case p1_15=>intro u q;simp at q;subst q;rfl
       case p2_15=>unfold maxLen;omega
       case p3_15=>omega
       intro p7 f7 l0 l1 b8 s8 s9;have p8:=I ((b8.block _ (ztW i9.1) (za7 b7.1 i9.1 (by decide))).trans i9.1);have x:=I ((b8.block _ (ztW b6.1) (za7 b7.1 b6.1 (by decide))).trans b6.1);have A9:=I (zb7 A6.1 b7.1 (by decide) b8);have B0:=I l1;have p9:=I (j0.1.grown b8 j0.1.size (λk hk=>zaM b7.1 k hk));have q0:=zy (zw x.1) (zu x.1);clear l1 b8 s8 s9;refine hK.1 _ _ (λ_ _=>q0) ?_;clear hK K;try simp only[Act.put,O]
       have a5:l0.cell? ⟨a,0,none⟩=some Y:=q0.1;have a6:l0.frozen? ⟨a,0,none⟩=false:=zQ x.1;have a7:=ztW x.1;have g:=Lib.grownBy_setCell l0 a 0 (.slice (some ⟨p6,0,none⟩) (n1+1) f6);have c:=I (zg (i:=0) (u:=(.slice (some ⟨p6,0,none⟩) (n1+1) f6)) x.1);have R1:=I ((g.block _ (ztW p8.1) (by intro e;cases e;exact absurd f (by omega))).trans p8.1);have A1:=I (zag A9.1 x.1 (by decide) g);have A2:=I (zag B0.1 x.1 (by decide) g);have M:=I (p9.1.grown g p9.1.size (λk hk=>by cases hk;omega));refine zo (i:=11) (o:={dst:=none,op:=Op.store 72 (Operand.tmp 44) (Operand.tmp 38),type:=0,pos:= "types.go:81",after:=_,guard:=none}) (by kernel_rfl) rfl (by rfl) (λK hK=>?_);go_simp;refine hK.1 _ _ (λh _=>absurd (by decide:(11:Nat)∈ [11,13]) h) ?_;clear hK K a5 a6 a7 g;try simp only[Act.put,O]
       obtain⟨w8,d⟩:∃W,W=l0.setCell ⟨a,0,none⟩ (.slice (some ⟨p6,0,none⟩) (n1+1) f6):=⟨_,rfl⟩;rw[<-d]at c R1 A1 A2 M;simp only[<-d];clear d;refine zT (i:=12) (v:=.pointer (some ⟨a,1,none⟩)) rfl (λw'=>?_) ?_
       . go_simp
       try simp only[Act.put,O]
       have a8:=zu c.1;have a9:w8.frozen? ⟨a,1,none⟩=false:=zQ c.1;have b0:=ztW c.1;have l:=Lib.grownBy_setCell w8 a 1 (.slice (some ⟨p7,0,none⟩) (n2+1) f7);have T2:=I (zg (i:=1) (u:=(.slice (some ⟨p7,0,none⟩) (n2+1) f7)) c.1);have R2:=I ((l.block _ (ztW R1.1) (by intro e;cases e;exact absurd f (by omega))).trans R1.1);have r:=I (zag A1.1 c.1 (by decide) l);have s:=I (zag A2.1 c.1 (by decide) l);have B2:=I (M.1.grown l M.1.size (λk hk=>by cases hk;omega));refine zo (i:=13) (o:={dst:=none,op:=Op.store 227 (Operand.tmp 45) (Operand.tmp 43),type:=0,pos:= "types.go:81",after:=_,guard:=none}) (by kernel_rfl) rfl (by rfl) (λK hK=>?_);go_simp;refine hK.1 _ _ (λh _=>absurd (by decide:(13:Nat)∈ [11,13]) h) ?_;clear hK K a8 a9 b0 l;try simp only[Act.put,O]
       refine zM (by kernel_rfl) ?_;generalize w8.setCell ⟨a,1,none⟩ (.slice (some ⟨p7,0,none⟩) (n2+1) f7)=w9 at*;go_wp2_with fail;go_roundw
       case rel=>first|exact⟨j+1,_,_,by omega,by go_num,R2,T2,I (by rw[E.1,zt2,<-G.1,zt3];exact r.1),I (by rw[F.1,zt2,<-H.1,zt3];exact s.1),B2⟩|((repeat apply Exists.intro);exact⟨⟨j+1,_,_,by omega,by go_num,R2,T2,I (by rw[E.1,zt2,<-G.1,zt3];exact r.1),I (by rw[F.1,zt2,<-H.1,zt3];exact s.1),B2⟩,rfl⟩)
       case measure=>simp[intOf];omega
     skip
     have j1:=I (zd (o':=(Obj.cells #[(valE (csAt L j).ex)] 42)) f4.1);have b9:=I (zd (o':=(Obj.cells #[(valE (csAt L j).ex)] 42)) P.1);have R:=I (Q.1.alloc (Obj.cells #[(valE (csAt L j).ex)] 42));have B3:=I (p4.1.alloc (Obj.cells #[(valE (csAt L j).ex)] 42));have j2:=I (ztS f5.1 (J _ (Obj.cells #[(valE (csAt L j).ex)] 42)));have B4:=I (zd (o':=(Obj.cells #[(valE (csAt L j).ex)] 42)) p5.1);have f8:=I (zh (Wd.alloc (Obj.cells #[.int .i64 0] 3)) (Obj.cells #[(valE (csAt L j).ex)] 42));rw[zr]at f8;have B5:=zy (zw b9.1) (zu b9.1);go_simp;refine hK.1 _ _ (λ_ _=>B5) ?_;clear hK K;try simp only[Act.put,O]
     refine zo (i:=4) (o:={dst:=some 38,op:=Op.call {callee:=Callee.builtin Builtin.append,args:=#[Operand.tmp 35,Operand.tmp 37],argTypes:=#[72,72]},type:=72,pos:= "types.go:81",after:=_,guard:=none}) (by kernel_rfl) rfl (by rfl) (λK hK=>?_);refine wp_append_lies _ (Operand.tmp 35) (Operand.tmp 37) 72 rfl w.heap.size 3 i0 (.int .i64 0) 1 8 underlying72 hi l8 l9 m0 rfl (by decide) Y _ _ rfl R.1 _ 1 1 [.int .i64 0] rfl rfl (zbf B4.1) ?p1_17 (by decide) ?p2_17 ?p3_17 j2.1.size _ rfl ?p4_17
     case p1_17=>intro u q;simp at q;subst q;rfl
     case p2_17=>unfold maxLen;omega
     case p3_17=>omega
     intro q1 f9 I4 l2 S t0 t1;have j3:=I ((S.block _ (ztW j1.1) (za7 R.1 j1.1 (by decide))).trans j1.1);have c0:=I ((S.block _ (ztW b9.1) (za7 R.1 b9.1 (by decide))).trans b9.1);have B6:=I l2;have c5:=I (zb7 B3.1 R.1 (by decide) S);have j4:=I (j2.1.grown S j2.1.size (λk hk=>zaM R.1 k hk));have B7:=I ((S.block _ (ztW f8.1) (za7 R.1 f8.1 (by decide))).trans f8.1);have B8:=zy (zw c0.1) (zu c0.1);clear l2 S t0 t1;refine hK.1 _ _ (λ_ _=>B8) ?_;clear hK K;try simp only[Act.put,O]
     refine zT (i:=10) (v:=.pointer (some ⟨a,0,none⟩)) rfl (λw'=>?_) ?_
     . go_simp
     try simp only[Act.put,O]
     refine zo (i:=9) (o:={dst:=some 43,op:=Op.call {callee:=Callee.builtin Builtin.append,args:=#[Operand.tmp 40,Operand.tmp 42],argTypes:=#[227,227]},type:=227,pos:= "types.go:81",after:=_,guard:=none}) (by kernel_rfl) rfl (by rfl) (λK hK=>?_);refine wp_append_lies _ (Operand.tmp 40) (Operand.tmp 42) 227 rfl w.heap.size 42 i1 (.int .i64 0) 1 8 underlying227 hj m1 m2 m3 rfl (by decide) v2 _ _ rfl c5.1 _ 1 1 [.int .i64 (valE (csAt L j).ex)] rfl rfl (zbf B7.1) ?p1_18 (by decide) ?p2_18 ?p3_18 j4.1.size _ rfl ?p4_18
     case p1_18=>intro u q;simp at q;subst q;rfl
     case p2_18=>unfold maxLen;omega
     case p3_18=>omega
     intro q2 g2 l3 l4 c6 t2 t3;have q3:=I ((c6.block _ (ztW j3.1) (za7 c5.1 j3.1 (by decide))).trans j3.1);have y:=I ((c6.block _ (ztW c0.1) (za7 c5.1 c0.1 (by decide))).trans c0.1);have B9:=I (zb7 B6.1 c5.1 (by decide) c6);have C0:=I l4;have q4:=I (j4.1.grown c6 j4.1.size (λk hk=>zaM c5.1 k hk));have q5:=zy (zw y.1) (zu y.1);clear l4 c6 t2 t3;refine hK.1 _ _ (λ_ _=>q5) ?_;clear hK K;try simp only[Act.put,O]
     have a5:l3.cell? ⟨a,0,none⟩=some Y:=q5.1;have a6:l3.frozen? ⟨a,0,none⟩=false:=zQ y.1;have a7:=ztW y.1;have g:=Lib.grownBy_setCell l3 a 0 (.slice (some ⟨q1,0,none⟩) (n1+1) f9);have c:=I (zg (i:=0) (u:=(.slice (some ⟨q1,0,none⟩) (n1+1) f9)) y.1);have R1:=I ((g.block _ (ztW q3.1) (by intro e;cases e;exact absurd f (by omega))).trans q3.1);have A1:=I (zag B9.1 y.1 (by decide) g);have A2:=I (zag C0.1 y.1 (by decide) g);have M:=I (q4.1.grown g q4.1.size (λk hk=>by cases hk;omega));refine zo (i:=11) (o:={dst:=none,op:=Op.store 72 (Operand.tmp 44) (Operand.tmp 38),type:=0,pos:= "types.go:81",after:=_,guard:=none}) (by kernel_rfl) rfl (by rfl) (λK hK=>?_);go_simp;refine hK.1 _ _ (λh _=>absurd (by decide:(11:Nat)∈ [11,13]) h) ?_;clear hK K a5 a6 a7 g;try simp only[Act.put,O]
     obtain⟨w8,d⟩:∃W,W=l3.setCell ⟨a,0,none⟩ (.slice (some ⟨q1,0,none⟩) (n1+1) f9):=⟨_,rfl⟩;rw[<-d]at c R1 A1 A2 M;simp only[<-d];clear d;refine zT (i:=12) (v:=.pointer (some ⟨a,1,none⟩)) rfl (λw'=>?_) ?_
     . go_simp
     try simp only[Act.put,O]
     have a8:=zu c.1;have a9:w8.frozen? ⟨a,1,none⟩=false:=zQ c.1;have b0:=ztW c.1;have l:=Lib.grownBy_setCell w8 a 1 (.slice (some ⟨q2,0,none⟩) (n2+1) g2);have T2:=I (zg (i:=1) (u:=(.slice (some ⟨q2,0,none⟩) (n2+1) g2)) c.1);have R2:=I ((l.block _ (ztW R1.1) (by intro e;cases e;exact absurd f (by omega))).trans R1.1);have r:=I (zag A1.1 c.1 (by decide) l);have s:=I (zag A2.1 c.1 (by decide) l);have B2:=I (M.1.grown l M.1.size (λk hk=>by cases hk;omega));refine zo (i:=13) (o:={dst:=none,op:=Op.store 227 (Operand.tmp 45) (Operand.tmp 43),type:=0,pos:= "types.go:81",after:=_,guard:=none}) (by kernel_rfl) rfl (by rfl) (λK hK=>?_);go_simp;refine hK.1 _ _ (λh _=>absurd (by decide:(13:Nat)∈ [11,13]) h) ?_;clear hK K a8 a9 b0 l;try simp only[Act.put,O]
     refine zM (by kernel_rfl) ?_;generalize w8.setCell ⟨a,1,none⟩ (.slice (some ⟨q2,0,none⟩) (n2+1) g2)=w9 at*;go_wp2_with fail;go_roundw
     case rel=>first|exact⟨j+1,_,_,by omega,by go_num,R2,T2,I (by rw[E.1,zt2,<-G.1,zt3];exact r.1),I (by rw[F.1,zt2,<-H.1,zt3];exact s.1),B2⟩|((repeat apply Exists.intro);exact⟨⟨j+1,_,_,by omega,by go_num,R2,T2,I (by rw[E.1,zt2,<-G.1,zt3];exact r.1),I (by rw[F.1,zt2,<-H.1,zt3];exact s.1),B2⟩,rfl⟩)
     case measure=>simp[intOf];omega
   skip
   have C2:=I (zd (o':=(Obj.cells #[(valE (csAt L j).ex)] 42)) a0.1);have j5:=I (zd (o':=(Obj.cells #[(valE (csAt L j).ex)] 42)) p.1);have C3:=I (C.1.alloc (Obj.cells #[(valE (csAt L j).ex)] 42));have C4:=I (D.1.alloc (Obj.cells #[(valE (csAt L j).ex)] 42));have C5:=I (ztS a1.1 (J _ (Obj.cells #[(valE (csAt L j).ex)] 42)));have C6:=I (zh Wd (Obj.cells #[(valE (csAt L j).ex)] 42));have C7:=zy (zw j5.1) (zu j5.1);go_simp;refine hK.1 _ _ (λ_ _=>C7) ?_;clear hK K;try simp only[Act.put,O]
   have j6:=I (zd (o':=(Obj.cells #[.int .i64 0] 3)) C2.1);have c7:=I (zd (o':=(Obj.cells #[.int .i64 0] 3)) j5.1);have T:=I (C3.1.alloc (Obj.cells #[.int .i64 0] 3));have C8:=I (C4.1.alloc (Obj.cells #[.int .i64 0] 3));have j7:=I (ztS C5.1 (J _ (Obj.cells #[.int .i64 0] 3)));have j8:=I (zd (o':=(Obj.cells #[.int .i64 0] 3)) C6.1);have q6:=I (zh (Wd.alloc (Obj.cells #[(valE (csAt L j).ex)] 42)) (Obj.cells #[.int .i64 0] 3));rw[zr]at q6;have C9:=zy (zw c7.1) (zu c7.1);refine zo (i:=3) (o:={dst:=some 37,op:=Op.buildSlice 72 1 #[(0,Operand.tmp 36)],type:=72,pos:= "types.go:81",after:=_,guard:=none}) (by kernel_rfl) rfl (by rfl) (λK hK=>?_);go_simp;refine hK.1 _ _ (λ_ _=>C9) ?_;clear hK K;try simp only[Act.put,O]
   refine zo (i:=4) (o:={dst:=some 38,op:=Op.call {callee:=Callee.builtin Builtin.append,args:=#[Operand.tmp 35,Operand.tmp 37],argTypes:=#[72,72]},type:=72,pos:= "types.go:81",after:=_,guard:=none}) (by kernel_rfl) rfl (by rfl) (λK hK=>?_);refine wp_append_lies _ (Operand.tmp 35) (Operand.tmp 37) 72 rfl w.heap.size 3 i0 (.int .i64 0) 1 8 underlying72 hi l8 l9 m0 rfl (by decide) Y _ _ rfl T.1 _ 1 1 [.int .i64 0] rfl rfl (zbf q6.1) ?p1_21 (by decide) ?p2_21 ?p3_21 j7.1.size _ rfl ?p4_21
   case p1_21=>intro u q;simp at q;subst q;rfl
   case p2_21=>unfold maxLen;omega
   case p3_21=>omega
   intro q7 g3 I5 l5 U t4 t5;have j9:=I ((U.block _ (ztW j6.1) (za7 T.1 j6.1 (by decide))).trans j6.1);have c8:=I ((U.block _ (ztW c7.1) (za7 T.1 c7.1 (by decide))).trans c7.1);have D0:=I l5;have c9:=I (zb7 C8.1 T.1 (by decide) U);have k0:=I (j7.1.grown U j7.1.size (λk hk=>zaM T.1 k hk));have D1:=I ((U.block _ (ztW j8.1) (za7 T.1 j8.1 (by decide))).trans j8.1);have D2:=zy (zw c8.1) (zu c8.1);clear l5 U t4 t5;refine hK.1 _ _ (λ_ _=>D2) ?_;clear hK K;try simp only[Act.put,O]
   refine zT (i:=10) (v:=.pointer (some ⟨a,0,none⟩)) rfl (λw'=>?_) ?_
   . go_simp
   try simp only[Act.put,O]
   refine zo (i:=9) (o:={dst:=some 43,op:=Op.call {callee:=Callee.builtin Builtin.append,args:=#[Operand.tmp 40,Operand.tmp 42],argTypes:=#[227,227]},type:=227,pos:= "types.go:81",after:=_,guard:=none}) (by kernel_rfl) rfl (by rfl) (λK hK=>?_);refine wp_append_lies _ (Operand.tmp 40) (Operand.tmp 42) 227 rfl w.heap.size 42 i1 (.int .i64 0) 1 8 underlying227 hj m1 m2 m3 rfl (by decide) v2 _ _ rfl c9.1 _ 1 1 [.int .i64 (valE (csAt L j).ex)] rfl rfl (zbf D1.1) ?p1_22 (by decide) ?p2_22 ?p3_22 k0.1.size _ rfl ?p4_22
   case p1_22=>intro u q;simp at q;subst q;rfl
   case p2_22=>unfold maxLen;omega
   case p3_22=>omega
   intro q8 g4 l6 l7 d0 t6 t7;have q9:=I ((d0.block _ (ztW j9.1) (za7 c9.1 j9.1 (by decide))).trans j9.1);have A:=I ((d0.block _ (ztW c8.1) (za7 c9.1 c8.1 (by decide))).trans c8.1);have D3:=I (zb7 D0.1 c9.1 (by decide) d0);have D4:=I l7;have r6:=I (k0.1.grown d0 k0.1.size (λk hk=>zaM c9.1 k hk));have r7:=zy (zw A.1) (zu A.1);clear l7 d0 t6 t7;refine hK.1 _ _ (λ_ _=>r7) ?_;clear hK K;try simp only[Act.put,O]
   have a5:l6.cell? ⟨a,0,none⟩=some Y:=r7.1;have a6:l6.frozen? ⟨a,0,none⟩=false:=zQ A.1;have a7:=ztW A.1;have g:=Lib.grownBy_setCell l6 a 0 (.slice (some ⟨q7,0,none⟩) (n1+1) g3);have c:=I (zg (i:=0) (u:=(.slice (some ⟨q7,0,none⟩) (n1+1) g3)) A.1);have R1:=I ((g.block _ (ztW q9.1) (by intro e;cases e;exact absurd f (by omega))).trans q9.1);have A1:=I (zag D3.1 A.1 (by decide) g);have A2:=I (zag D4.1 A.1 (by decide) g);have M:=I (r6.1.grown g r6.1.size (λk hk=>by cases hk;omega));refine zo (i:=11) (o:={dst:=none,op:=Op.store 72 (Operand.tmp 44) (Operand.tmp 38),type:=0,pos:= "types.go:81",after:=_,guard:=none}) (by kernel_rfl) rfl (by rfl) (λK hK=>?_);go_simp;refine hK.1 _ _ (λh _=>absurd (by decide:(11:Nat)∈ [11,13]) h) ?_;clear hK K a5 a6 a7 g;try simp only[Act.put,O]
   obtain⟨w8,d⟩:∃W,W=l6.setCell ⟨a,0,none⟩ (.slice (some ⟨q7,0,none⟩) (n1+1) g3):=⟨_,rfl⟩;rw[<-d]at c R1 A1 A2 M;simp only[<-d];clear d;refine zT (i:=12) (v:=.pointer (some ⟨a,1,none⟩)) rfl (λw'=>?_) ?_
   . go_simp
   try simp only[Act.put,O]
   have a8:=zu c.1;have a9:w8.frozen? ⟨a,1,none⟩=false:=zQ c.1;have b0:=ztW c.1;have l:=Lib.grownBy_setCell w8 a 1 (.slice (some ⟨q8,0,none⟩) (n2+1) g4);have T2:=I (zg (i:=1) (u:=(.slice (some ⟨q8,0,none⟩) (n2+1) g4)) c.1);have R2:=I ((l.block _ (ztW R1.1) (by intro e;cases e;exact absurd f (by omega))).trans R1.1);have r:=I (zag A1.1 c.1 (by decide) l);have s:=I (zag A2.1 c.1 (by decide) l);have B2:=I (M.1.grown l M.1.size (λk hk=>by cases hk;omega));refine zo (i:=13) (o:={dst:=none,op:=Op.store 227 (Operand.tmp 45) (Operand.tmp 43),type:=0,pos:= "types.go:81",after:=_,guard:=none}) (by kernel_rfl) rfl (by rfl) (λK hK=>?_);go_simp;refine hK.1 _ _ (λh _=>absurd (by decide:(13:Nat)∈ [11,13]) h) ?_;clear hK K a8 a9 b0 l;try simp only[Act.put,O]
   refine zM (by kernel_rfl) ?_;generalize w8.setCell ⟨a,1,none⟩ (.slice (some ⟨q8,0,none⟩) (n2+1) g4)=w9 at*;go_wp2_with fail;go_roundw
   case rel=>first|exact⟨j+1,_,_,by omega,by go_num,R2,T2,I (by rw[E.1,zt2,<-G.1,zt3];exact r.1),I (by rw[F.1,zt2,<-H.1,zt3];exact s.1),B2⟩|((repeat apply Exists.intro);exact⟨⟨j+1,_,_,by omega,by go_num,R2,T2,I (by rw[E.1,zt2,<-G.1,zt3];exact r.1),I (by rw[F.1,zt2,<-H.1,zt3];exact s.1),B2⟩,rfl⟩)
   case measure=>simp[intOf];omega
 obtain rfl:j=L.length:=by omega
 obtain⟨ka,kc,rfl,h7⟩:=zW.of_own m4.1;obtain⟨ea,ec,rfl,h8⟩:=zW.of_own m5.1;have HT:=I (show zkg wr ka ea (tabC L L.length) from⟨h7,h8⟩);have d6:=zfz L L.length;have d7:=zfy L L.length;rw[d6]at y0 m4;rw[d7]at y1 m5;rw[d6,d7]at h5;have s0:=zw Z.1;have s1:=zu Z.1;have f0:wr.frozen? ⟨w.heap.size,0,none⟩=false:=zQ Z.1;have f1:wr.frozen? ⟨w.heap.size,1,none⟩=false:=zQ Z.1;have sl:=ztW Z.1;have g:=Lib.grownBy_setCell wr w.heap.size 0 (.slice ka L.length kc);have l:=Lib.grownBy_setCell (wr.setCell ⟨w.heap.size,0,none⟩ (.slice ka L.length kc)) w.heap.size 1 (.slice ea L.length ec);have Q1:=zg (i:=0) (u:=(.slice ka L.length kc)) Z.1;have Q2:=zg (i:=1) (u:=(.slice ea L.length ec)) Q1;have M:=n.1.grown g n.1.size (λk hk=>by cases hk;omega);have B2:=I (M.grown l M.size (λk hk=>by cases hk;omega));have A1:=zag (zag m4.1 Z.1 (by decide) g) Q1 (by decide) l;have A2:=zag (zag m5.1 Z.1 (by decide) g) Q1 (by decide) l;have r0:=zw Q2;have r1:=zu Q2;have rl:=ztW Q2;have X1:=I (show((wr.setCell ⟨w.heap.size,0,none⟩ (.slice ka L.length kc)).setCell ⟨w.heap.size,1,none⟩ (.slice ea L.length ec)).ownsRow w.heap.size 3 1 (.slice ka L.length kc) ((tabC L L.length).map Prod.fst).length (((tabC L L.length).map Prod.fst).map (Value.int .i64)) by rw[d6];exact A1);have X2:=I (show((wr.setCell ⟨w.heap.size,0,none⟩ (.slice ka L.length kc)).setCell ⟨w.heap.size,1,none⟩ (.slice ea L.length ec)).ownsRow w.heap.size 42 1 (.slice ea L.length ec) ((tabC L L.length).map Prod.snd).length (((tabC L L.length).map Prod.snd).map (Value.int .i64)) by rw[d7];exact A2);clear g l Q1 Q2 M A1 A2 h7 h8 HT m4 m5 d6 d7 h5 Z n;go_wp2_with fail;generalize ((wr.setCell ⟨w.heap.size,0,none⟩ (.slice ka L.length kc)).setCell ⟨w.heap.size,1,none⟩ (.slice ea L.length ec))=Wf at*;obtain⟨J0,J1,H3,h7⟩:=zW.of_own X1.1;obtain⟨J2,J3,H4,h8⟩:=zW.of_own X2.1;rw[zfz]at H3;cases H3;rw[zfy]at H4;cases H4;refine bodyPost_ret (v:=.agg #[.slice ka L.length kc,.slice ea L.length ec]) (by simp[results,results177,go_sem,r0,r1]) rfl ?_;exact⟨ka,kc,ea,ec,rfl,⟨h7,h8⟩,B2.1⟩
theorem zrj(B:Nat)(l:List zB)(n:Nat)(o:n<=l.length)(b:zua)(h:Nat)(T:List (Int×Int))(c:T.length=n)(d:zua)(i:Nat)(f:zua)(j:Nat)(a:Int)(p:0<=a/\a<4)(x:zH)(g:zua)(m:Nat)(w:World)(q:B<=w.heap.size)(r:za2 x)(s:wfE x=true)(t:cntE x<=200)(u:zaz B w g x.args)(v:zkg w d f T)(y:zbd B w b (l.take n)):
 Calls prog 176 #[.agg #[.slice d n i,.slice f n j],.slice b n h,a,.agg #[x.op,x.num,.string x.name,.slice g x.args.length m]] w λe w'=>e=.returned (.tuple #[.int .i64 (tyE (lkUp l T n) a x).1,.int .i64 (tyE (lkUp l T n) a x).2])/\Bw w w':=by
 obtain⟨k,rfl⟩:=Int.eq_ofNat_of_zero_le p.1;exact zkG B l n o b h T c d i f j k (by omega) x g m w q r s t u v y
theorem zfd(L:List zB)(D:zua)(u:Nat)(B:Nat)(k:Int)(T:0<=k/\k<4)(x:zH)(m:zua)(q:Nat)(w:World)(c:B<=w.heap.size)(F:L.length<=u/\u<=140737488355328)(U:L.length<=1000)(hl:zbd B w D L)(hf:za2 x)(ha:zaz B w m x.args):
 Calls prog 127 #[.slice D L.length u,k,.agg #[x.op,x.num,.string x.name,.slice m x.args.length q]] w λe w'=>e=.returned (.tuple #[.int .i64 (typX L L.length k x).1,.int .i64 (typX L L.length k x).2])/\Bw w w':=by
 have HL:=I hl;have HA:=I ha;have HF:=I hf;clear hl ha hf;go_enter func127,ntmps127
 go_wp2_with fail;have R:=I (J w (Obj.cells #[x.op,x.num,.string x.name,.slice m x.args.length q] 86));have V:=I (zh w (Obj.cells #[x.op,x.num,.string x.name,.slice m x.args.length q] 86));obtain⟨l,y⟩:∃l,l=w.heap.size:=⟨_,rfl⟩;rw[<-y]at V;simp only[<-y];clear y;generalize w.alloc (Obj.cells #[x.op,x.num,.string x.name,.slice m x.args.length q] 86)=W at*;refine ca (za8 x m q W B (ztV c R.1.size) HF.1 (HA.1.keep (R.1.mono c))) λE z=>?_;have G:=I (ztS R.1 z);have n:=I (blkA z V.1);clear z R V;by_cases A:valE x=0
 . obtain⟨X,H,_⟩:=zcA A;have M:=I (show typX L L.length k x=(tyE (lkUp L (tabC L L.length) L.length) k x) by rw[typX,if_neg (by simpa using A),zqi]);have b:E.drew.cell? ⟨l,0,none⟩=some (.int .i64 x.op)/\E.drew.cell? ⟨l,1,none⟩=some (.int .i64 x.num)/\E.drew.cell? ⟨l,2,none⟩=some (.string x.name)/\E.drew.cell? ⟨l,3,none⟩=some (.slice m x.args.length q):=⟨zm (j:=0) n.1 rfl,zm (j:=1) n.1 rfl,zm (j:=2) n.1 rfl,zm (j:=3) n.1 rfl⟩;have r:=I (G.1.drew);have N:ztR (E.drew.heap[l]?=some (.cells #[x.op,x.num,.string x.name,.slice m x.args.length q] 86 (0,0))):=n;obtain⟨S,C⟩:∃S,E.drew=S:=⟨_,rfl⟩;rw[C]at b r N;have p:=ztW N.1;have HT:=I (zkN L D u B S (ztV c r.1.size) F U (HL.1.keep (r.1.mono c) (zbs.keep (r.1.mono c))));have Y:=I (HL.1.keep (r.1.mono c) (zbs.keep (r.1.mono c)));have Z:=I (HA.1.keep (r.1.mono c));have s:B<=S.heap.size:=ztV c r.1.size;rw[A];clear A;go_wp2_with fail;refine zbD (λw'=>w'.cell? ⟨l,0,none⟩=some (.int .i64 x.op)/\w'.cell? ⟨l,1,none⟩=some (.int .i64 x.num)/\w'.cell? ⟨l,2,none⟩=some (.string x.name)/\w'.cell? ⟨l,3,none⟩=some (.slice m x.args.length q)) [] (by kernel_rfl) C ?_;clear C;refine zx (i:=0) (v:=.slice D L.length u) rfl (λw' hS'=>?_) b ?_
   . obtain⟨g0,g1,g2,g3⟩:=hS';go_simp
   try simp only[Act.put,O]
   refine zx (i:=2) (v:=.slice D L.length u) rfl (λw' hS'=>?_) b ?_
   . obtain⟨g0,g1,g2,g3⟩:=hS';go_simp
   try simp only[Act.put,O]
   refine zx (i:=3) (v:=.int .i64 k) rfl (λw' hS'=>?_) b ?_
   . obtain⟨g0,g1,g2,g3⟩:=hS';go_simp
   try simp only[Act.put,O]
   refine zx (i:=4) (v:=.agg #[x.op,x.num,.string x.name,.slice m x.args.length q]) rfl (λw' hS'=>?_) b ?_
   . obtain⟨g0,g1,g2,g3⟩:=hS';go_simp
   try simp only[Act.put,O]
   refine zo (i:=1) (o:={dst:=some 15,op:=Op.call {callee:=Callee.value (Operand.func 177),args:=#[Operand.tmp 14],argTypes:=#[27]},type:=229,pos:= "types.go:91",after:=_,guard:=none}) (by kernel_rfl) rfl (by rfl) (λK hK=>?_);go_simp;refine HT.1.mono ?_;rintro e w2 ⟨ka,kc,ea,ec,rfl,t,a⟩;have P:=I t;have a0:=I (ztS r.1 a);have a1:B<=w2.heap.size:=ztV s a.size;have a2:=I (Y.1.keep (a.mono s) (zbs.keep (a.mono s)));have a3:=I (Z.1.keep (a.mono s));have f:=zy (zj b.1 p a) (zy (zj b.2.1 p a) (zy (zj b.2.2.1 p a) (zj b.2.2.2 p a)));have d:l<w2.heap.size:=ztU p a.size;clear t a HT;refine hK.1 _ _ (λ_ _=>f) ?_;clear hK K;try simp only[Act.put,O]
   refine zo (i:=5) (o:={dst:=some 19,op:=Op.call {callee:=Callee.value (Operand.func 176),args:=#[Operand.tmp 15,Operand.tmp 16,Operand.tmp 17,Operand.tmp 18],argTypes:=#[229,27,3,86]},type:=_,pos:= "types.go:91",after:=_,guard:=none}) (by kernel_rfl) rfl (by rfl) (λK hK=>?_);go_simp;refine ca (zrj B L L.length (ztY _) D u (tabC L L.length) (zd5 L L.length) ka kc ea ec k T x m q w2 a1 HF.1 X H a3.1 P.1 (by rw[List.take_length];exact a2.1)) λw3 g=>?_;have a4:=I (ztS a0.1 g);have Q:=zy (zj f.1 d g) (zy (zj f.2.1 d g) (zy (zj f.2.2.1 d g) (zj f.2.2.2 d g)));clear g;refine hK.1 _ _ (λ_ _=>Q) ?_;clear hK K;try simp only[Act.put,O]
   refine zT (i:=6) (v:=.int .i64 (tyE (lkUp L (tabC L L.length) L.length) k x).1) rfl (λw'=>?_) ?_
   . go_simp
   try simp only[Act.put,O]
   refine zT (i:=7) (v:=.int .i64 (tyE (lkUp L (tabC L L.length) L.length) k x).2) rfl (λw'=>?_) ?_
   . go_simp
   try simp only[Act.put,O]
   refine zo (i:=8) (o:={dst:=some 6,op:=Op.assign (Operand.tmp 20),type:=3,pos:= "types.go:91",after:=_,guard:=none}) (by kernel_rfl) rfl (by rfl) (λK hK=>?_);go_simp;refine hK.1 _ _ (λ_ h=>h) ?_;clear hK K;try simp only[Act.put,O]
   refine zo (i:=9) (o:={dst:=some 7,op:=Op.assign (Operand.tmp 21),type:=42,pos:= "types.go:91",after:=_,guard:=none}) (by kernel_rfl) rfl (by rfl) (λK hK=>?_);go_simp;refine hK.1 _ _ (λ_ h=>h) ?_;clear hK K;try simp only[Act.put,O]
   refine zM (by kernel_rfl) ?_;clear b f Q;go_wp2_with fail;go_ret2;exact⟨zJ (by rw[M.1]) (by rw[M.1]),a4.1⟩
 have M:=I (show typX L L.length k x=(0,valE x) by rw[typX,if_pos A]);have e1:(valE x !=0)=true:=by simpa using A
 clear A;go_wp2_with fail;go_ret2;exact⟨zJ (by rw[M.1]) (by rw[M.1]),G.1⟩
theorem zfl(c:ConM)(p:ConP)(B:Nat)(b:Int)(q:0<=b/\b<4)(x:zH)(i:zua)(o:Nat)(d:Int)(w:World)(f:B<=w.heap.size)(j:c.consts.length<=p.cc/\p.cc<=140737488355328)(s:c.consts.length<=1000)(y:zdr B w c p)(A:za2 x)(z:zaz B w i x.args):
 Calls prog 128 #[aggC c p,b,.agg #[x.op,x.num,.string x.name,.slice i x.args.length o],d] w λe w'=>e=.returned (expE (typX c.consts c.consts.length b x) d)/\Bw w w':=by
 try delta aggC aggT
 have C:=I y;have D:=I z;clear y z;go_enter func128,ntmps128
 go_wp2_with fail;have k:=I (ztS (J w (objC c p)) (J _ (Obj.cells #[x.op,x.num,.string x.name,.slice i x.args.length o] 86)));generalize (w.alloc (objC c p)).alloc (Obj.cells #[x.op,x.num,.string x.name,.slice i x.args.length o] 86)=W at*;refine ca (zfd c.consts p.ca p.cc B b q x i o W (ztV f k.1.size) j s (C.1.keep (k.1.mono f)).consts A (D.1.keep (k.1.mono f))) λF l=>?_;have g:=I (ztS k.1 l);clear l k;obtain⟨r,t⟩:∃r,r=typX c.consts c.consts.length b x:=⟨_,rfl⟩;simp only[<-t];have u:=I t;clear t;by_cases a:r.2=0
 . by_cases h:r.1=d
   . have m:=I (show expE (typX c.consts c.consts.length b x) d=0 by rw[<-u.1,expE,if_pos a,if_pos h]);have n:(r.2==0)=true:=by simpa using a
     have v:(r.1 !=d)=false:=by simpa using h
     have E:=I a;clear a h;go_wp2_with fail;go_ret;exact⟨ze (by rw[m.1,E.1]),g.1⟩
   have m:=I (show expE (typX c.consts c.consts.length b x) d=9 by rw[<-u.1,expE,if_pos a,if_neg h]);have n:(r.2==0)=true:=by simpa using a
   have v:(r.1 !=d)=true:=by simpa using h
   clear a h;go_wp2_with fail;go_ret;exact⟨ze (by rw[m.1]),g.1⟩
 have n:(r.2==0)=false:=by simpa using a
 have m:=I (show expE (typX c.consts c.consts.length b x) d=r.2 by rw[<-u.1,expE,if_neg a]);clear a;go_wp2_with fail;go_ret;exact⟨ze (by rw[m.1]),g.1⟩
end Go.Proofs.YtbhhejkolnigfaaGreat
