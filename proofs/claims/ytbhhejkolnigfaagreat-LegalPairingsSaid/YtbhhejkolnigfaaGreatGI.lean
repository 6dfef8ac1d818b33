/- a part of the proof -/
import Derived.Deep.DeepCutAuto
import Derived.Test.YtbhhejkolnigfaaGreatGG
import Derived.Test.YtbhhejkolnigfaaGreatGH
set_option linter.unusedVariables false
set_option linter.unusedSimpArgs false
set_option maxRecDepth 100000
set_option maxHeartbeats 51200000
namespace Go.Proofs.YtbhhejkolnigfaaGreat
open Go.RowKit Go.Sort Go.Proofs.Tryz
theorem zW.of_own{w:World}{b:Nat}{e:TypeId}{v:Value}{l:List Int}(h:w.ownsRow b e 1 v l.length (l.map (Value.int .i64))):∃a c,v=.slice a l.length c/\zW w a l:=by
 rcases h.2 with⟨f,j⟩|⟨g,c,d,rfl,f,k,m,n,o,p⟩
 . exact⟨none,0,by rw[f,j],.inl (List.length_eq_zero_iff.1 j)⟩
 refine⟨_,_,rfl,.inr ⟨g,0,rfl,ztW k,λi hi=>?_⟩⟩;have e:(d.toList.take (l.length*1))[i]?=some (.int .i64 (iAt l i)):=by
  rw[p];simp[iAt,hi]
 rw[List.getElem?_take,if_pos (by omega)]at e;have q:d[0+i]?=some (.int .i64 (iAt l i)):=by rw[Nat.zero_add];simpa using e
 exact zm k q
theorem za7{w:World}{a:Nat}{e t:TypeId}{b:Nat}{v:Value}{n:Nat}{k:List Value}{j:Nat}{c:Array Value}{f:Nat×Nat}(h:w.ownsRow a e b v n k)(l:w.heap[j]?=some (.cells c t f))(d:t≠e):some j≠v.ownBlock:=by
 rcases h.2 with⟨rfl,_⟩|⟨g,m,o,rfl,p,i,_⟩
 . simp[Value.ownBlock]
 intro e;simp[Value.ownBlock]at e
 subst e;rw[l]at i;simp at i
 exact d i.2.1
theorem zjJ:(prog.info? 3).map (λi=>(i.zero,i.size,i.bytes))=some (some (.int .i64 0),1,8):=by kernel_rfl
def zkg(w:World)(ka ea:zua)(T:List (Int×Int)):Prop:=zW w ka (T.map Prod.fst)/\zW w ea (T.map Prod.snd)
theorem zkg.below{w w':World}{a b:zua}{T:List (Int×Int)}(h:zkg w a b T)(c:Bw w w'):zkg w' a b T:=⟨h.1.below c,h.2.below c⟩
def ptAt(T:List (Int×Int))(i:Nat):Int×Int:=T.getD i (0,0)
theorem zs4(T:List (Int×Int))(i:Nat):iAt (T.map Prod.fst) i=(ptAt T i).1:=by
 unfold iAt ptAt
 rw[zt0,List.getElem?_map,zt0];cases T[i]? <;> rfl
theorem zsC(T:List (Int×Int))(i:Nat):iAt (T.map Prod.snd) i=(ptAt T i).2:=by
 unfold iAt ptAt
 rw[zt0,List.getElem?_map,zt0];cases T[i]? <;> rfl
theorem zhK(s:ByteArray):∀(l:List zB) (n:Nat),fi (l.take n) s=(fi l s).bind λi=>if i<n then some i else none
 |[],n=>by simp[fi]
 |x::l,0=>by
  rw[List.take_zero];cases fi (x::l) s <;> simp[fi]
 |x::l,n+1=>by
  have a:=zhK s l n;unfold fi at a ⊢
  rw[List.take_succ_cons,List.findIdx?_cons,List.findIdx?_cons];by_cases h:x.name=s
  . simp[h]
  simp only[h,decide_false,zt4,if_false,a];cases l.findIdx? (λx=>decide (x.name=s)) with
  |none=>rfl
  |some i=>
   by_cases g:i<n
   . simp[g]
   simp[g]
theorem zsX{l:List zB}{n:Nat}{s:ByteArray}(T:List (Int×Int))(h:ciI (l.take n) s<0):lkUp l T n s=none:=by
 unfold ciI at h
 rw[zhK]at h;unfold lkUp
 cases a:fi l s with
 |none=>rfl
 |some i=>
  rw[a]at h;by_cases g:i<n
  . simp[g]at h;omega
  simp[g]
theorem zsW{l:List zB}{n:Nat}{s:ByteArray}(T:List (Int×Int))(h:¬ ciI (l.take n) s<0):∃i:Nat,ciI (l.take n) s=i/\i<n/\lkUp l T n s=some (ptAt T i):=by
 unfold ciI at h ⊢
 rw[zhK]at h ⊢;unfold lkUp
 cases a:fi l s with
 |none=>rw[a]at h;simp at h
 |some i=>
  rw[a]at h;by_cases g:i<n
  . exact⟨i,by simp[g],g,by simp[g,ptAt]⟩
  simp[g]at h
theorem zo6(b:ByteArray->Option (Int×Int))(a c:Int)(s:ByteArray)(d:List zH):tyE b a (.mk 6 c s d)=if zad a s≠0 then(zad a s,0) else(b s).getD (0,6):=by rw[tyE,if_pos rfl]
theorem zo7(a:ByteArray->Option (Int×Int))(b o d:Int)(s:ByteArray)(c:List zH)(h:o≠6):tyE a b (.mk o d s c)=if(tyL a b c).1≠0 then(0,(tyL a b c).1) else if resK o (tyL a b c).2≠0 then(resK o (tyL a b c).2,0) else(0,9):=by rw[tyE,if_neg h]
def TypS(B:Nat)(l:List zB)(n:Nat)(la:zua)(lc:Nat)(T:List (Int×Int))(ka:zua)(kc:Nat)(ea:zua)(ec:Nat)(k:Nat)(x:zH):Prop:=∀(xa:zua) (xc:Nat) (w:World),B<=w.heap.size->za2 x->wfE x=true->cntE x<=200->zaz B w xa x.args->zkg w ka ea T->zbd B w la (l.take n)->
 Calls prog 176 #[.agg #[.slice ka n kc,.slice ea n ec],.slice la n lc,k,.agg #[x.op,x.num,.string x.name,.slice xa x.args.length xc]] w λe w'=>e=.returned (.tuple #[.int .i64 (tyE (lkUp l T n) k x).1,.int .i64 (tyE (lkUp l T n) k x).2])/\Below w.heap.size w w'
theorem znJ(B:Nat)(l:List zB)(n:Nat)(hn:n<=l.length)(la:zua)(lc:Nat)(T:List (Int×Int))(g9:T.length=n)(S:zua)(K:Nat)(U:zua)(L:Nat)(k:Nat)(f4:k<4)(o z:Int)(s:ByteArray)(c:List zH)(IH:∀j,j<c.length->TypS B l n la lc T S K U L k (eAt c j)):TypS B l n la lc T S K U L k (.mk o z s c):=by
 intro xa xc w g C a7 D ha a8 Y;obtain⟨hs,f5,_,_⟩:=C;simp only[zH.op,zH.num,zH.name,zH.args]at f5 ha hs ⊢;have a9:(l.take n).length=n:=by rw[List.length_take];omega
 have h0:n<=140737488355328:=by have:=Y.1;omega
 have g7:1+cntL c<=200:=by rw[cntE]at D;exact D
 have f6:c.length<=200:=by have:=zgZ c;omega
 obtain⟨hh,b0⟩:=ze8 a7;simp only[zcR,zt5]at hh;obtain⟨⟨⟨g1,h3⟩,_⟩,_⟩:=hh;obtain⟨h1,h2⟩:=zbz.1 g1;have b3:o=6->c= []:=λe=>by subst e;simp[zL]at h3;exact h3
 have H3:=I h3;have H6:=I b3;have HW:=I b0;have HI:=I IH;have HA:=I ha;have b4:=I a8;have b5:=I Y;obtain⟨i0,hi,f7,f8,f9⟩:=info_parts zjJ;clear IH ha a8 Y h3 b3 b0 g1 a7 D;go_enter func176,ntmps176
 go_wp2_with fail;have HB:=I (ztS (J w (oJ S n K U n L)) (J _ (oEg o z s xa c.length xc)));have QK:=I (zd (o':=(oEg o z s xa c.length xc)) (zh w (oJ S n K U n L)));have QX:=I (zh (w.alloc (oJ S n K U n L)) (oEg o z s xa c.length xc));rw[zr]at QX;have HO:=I (show World.ownsRow ((w.alloc (oJ S n K U n L)).alloc (oEg o z s xa c.length xc)) w.heap.size 3 1 (.slice none 0 0) 0 (([]:List Int).map (Value.int .i64)) from⟨rfl,.inl ⟨rfl,rfl⟩⟩);obtain⟨xb,Z⟩:∃xb,xb=w.heap.size+1:=⟨_,rfl⟩;rw[<-Z]at QX;simp only[<-Z];clear Z;generalize (w.alloc (oJ S n K U n L)).alloc (oEg o z s xa c.length xc)=W at*;go_loopw [10,11] (λt i wr=>∃(j:Nat) (v:Value) (h:List Int),j<=c.length/\i=.int .i64 j/\t=v/\h.length=j/\ztR (tyL (lkUp l T n) k c=((tyL (lkUp l T n) k (c.drop j)).1,h++(tyL (lkUp l T n) k (c.drop j)).2))/\ztR (wr.ownsRow w.heap.size 3 1 v h.length (h.map (Value.int .i64)))/\ztR (wr.heap[w.heap.size]?=some (oJ S n K U n L))/\ztR (wr.heap[xb]?=some (oEg o z s xa c.length xc))/\ztR (Bw w wr)) (λ_ i _=>c.length-(intOf i).toNat)
 case atStart=>exact⟨0,_, [],ztX _,rfl,rfl,rfl,I (by simp),HO,QK,QX,HB⟩
 clear HO QK QX HB;obtain⟨j,v,h,hj,rfl,rfl,M,p,hO,A,q,a⟩:=hrel;have y0:=zw A.1;have y1:=zu A.1;have yl:=ztW A.1;have x0:=zw q.1;have x2:=zC q.1;have x3:=zaj q.1;have b6:=ztW q.1;by_cases r:j<c.length
 . obtain⟨b,h4,b7,hb,b8⟩:=HA.1.cells (by omega);obtain⟨a2,b9,g0,⟨c0,c1,c2,c3⟩,C,E⟩:=(b8.keep (a.1.mono g)).at j r;have g2:b<wr.heap.size:=ztU g0 (ztV g a.1.size);rw[b7]at x3;have V:o≠6:=λe=>by have:=H6.1 e;rw[this]at r;simp at r
   have O6:=I V;have C1:=I (λdd os=>ztZ (HI.1 j r a2 b9 (grow (redrawn wr dd) os) (ztV (ztV g a.1.size) (below_regrown wr dd os).size) C (zkq HW.1 j r) (by have:=zhW (l:=c) j r;omega) (E.keep ((below_regrown wr dd os).mono (ztV g a.1.size))) ((b4.1.below a.1).below (below_regrown wr dd os)) (b5.1.keep ((ztS a.1 (below_regrown wr dd os)).mono g) (zbs.keep ((ztS a.1 (below_regrown wr dd os)).mono g)))));clear b8 E C b7 V;go_wp2_with fail;have r0:=λdd os=>cell_regrown y0 dd os
   have r1:=λdd os=>cell_regrown y1 dd os
   have r2:=λdd os=>cell_regrown x3 dd os
   have r3:=λdd os=>cell_regrown c0 dd os
   have r4:=λdd os=>cell_regrown c1 dd os
   have r5:=λdd os=>cell_regrown c2 dd os
   have r6:=λdd os=>cell_regrown c3 dd os
   refine wp_region_quiet_below (by kernel_rfl) (by kernel_rfl) ?_;repeat (first|go_big_quiet_step (first|(with_reducible exact C1.1 _ _))|quiet_step (first|(with_reducible exact C1.1 _ _)))
   refine wpQuiet_nil ?_;intro _ g3;obtain⟨⟨dq,F⟩,c6⟩:=g3;subst c6;have N:=I (ztS a.1 (below_regrown wr dq F));have P:=I (blkA (below_regrown wr dq F) A.1);have Q:=I (blkA (below_regrown wr dq F) q.1);have G:=I (zbQ hO.1 a.1 (below_regrown wr dq F));clear r0 r1 r2 r3 r4 r5 r6 C1 c0 c1 c2 c3 y0 y1 yl x0 x2 x3 b6 g2 hO A q a;generalize grow (redrawn wr dq) F=W2 at*;by_cases f:(tyE (lkUp l T n) k (eAt c j)).2=0
   . have R:=I (zsh r p.1 f);have g8:h.length<=200:=by omega
     have nk:=za7 G.1 P.1 (by decide);have nx:=za7 G.1 Q.1 (by decide);rw[f];go_wp2_with (at_builtin;refine wpList_append_own _ rfl _ _ 72 rfl w.heap.size 3 i0 (.int .i64 0) 1 8 underlying72 hi f7 f8 f9 rfl (by decide) _ _ _ rfl (G.1.alloc _) ⟨W2.heap.size,0,none⟩ 1 1 [.int .i64 (tyE (lkUp l T n) k (eAt c j)).1] rfl rfl ?c1 ?c2 ?c3 ?c4 ?c5 ?_)
     case c1=>exact zaa W2 [.int .i64 (tyE (lkUp l T n) k (eAt c j)).1] 3
     case c2=>intro u hu;simp at hu;subst hu;rfl
     case c3=>unfold maxLen;omega
     case c4=>omega
     case c5=>have:=N.1.size;simp;omega
     intro v' w3 H m _;have c7:=I (zaG (e':=3) N.1 rfl G.1 m);have c8:=I ((m.block _ (ztW (zd P.1)) nk).trans (zd P.1));have c9:=I ((m.block _ (ztW (zd Q.1)) nx).trans (zd Q.1))
     have d0:=I (show w3.ownsRow w.heap.size 3 1 v' (h++ [(tyE (lkUp l T n) k (eAt c j)).1]).length ((h++ [(tyE (lkUp l T n) k (eAt c j)).1]).map (Value.int .i64)) by
      rw[zt2,zt3,M];exact H)
     have X:(h++ [(tyE (lkUp l T n) k (eAt c j)).1]).length=j+1:=by simp[M]
     clear H m nk nx G P Q N p;go_wp2_with fail;go_roundw
     case rel=>first|exact⟨j+1,_,_,by omega,by go_num,rfl,X,R,d0,c8,c9,c7⟩|((repeat apply Exists.intro);exact⟨⟨j+1,_,_,by omega,by go_num,rfl,X,R,d0,c8,c9,c7⟩,rfl⟩)
     case measure=>simp[intOf];omega
   have R:=I (zo5 r p.1 f);have e2:((tyE (lkUp l T n) k (eAt c j)).2 !=0)=true:=by simpa using f
   have x:=I (show tyE (lkUp l T n) k (.mk o z s c)=(0,(tyE (lkUp l T n) k (eAt c j)).2) by rw[zo7 _ _ _ _ _ _ O6.1,R.1,if_pos f]);clear f;go_wp2_with fail;go_ret2;exact⟨zJ (by rw[x.1]) (by rw[x.1]),N.1⟩
 obtain rfl:j=c.length:=by omega
 have d3:tyL (lkUp l T n) k c=(0,h):=by rw[p.1,zt6,tyL];simp
 have g4:=I d3;clear d3 p;by_cases V:o=6
 . subst V;have g5:c= []:=H6.1 rfl;subst g5;have Hv:=I (zo6 (lkUp l T n) k z s []);go_wp2_with fail;refine ca (zeg k f4 s wr hs) λw1 y=>?_;have d:=I (ztS a.1 y);have a0:=I (blkA y A.1);have d4:=I (blkA y q.1);clear y a A q x0 x2 x3 b6 y0 y1 yl hO;by_cases f:zad k s=0
   . have a1:=I (Hv.1.trans (if_neg (by simpa using f)));have e2:(erK (zad k s)==0)=false:=by rw[f];rfl
     have z2:=zC d4.1;have zl:=ztW d4.1;clear f Hv;go_wp2_with fail;have a4:=I (zhV (l.take n) s la lc B w1 (ztV g d.1.size) (b5.1.keep (d.1.mono g) (zbs.keep (d.1.mono g))));rw[a9]at a4;refine a4.1.mono ?_;rintro e w2 ⟨rfl,rfl⟩;clear a4;by_cases e3:ciI (l.take n) s<0
     . have x:=I (show tyE (lkUp l T n) k (.mk 6 z s [])=(0,6) by rw[a1.1,zsX T e3];rfl);go_wp2_with fail;go_ret2;exact⟨zJ (by rw[x.1]) (by rw[x.1]),d.1⟩
     obtain⟨i,d5,h5,d6⟩:=zsW T e3;have x:=I (show tyE (lkUp l T n) k (.mk 6 z s [])=ptAt T i by rw[a1.1,d6];rfl);rw[d5];have a5:=b4.1.below d.1;obtain⟨b1,d7,d8,y,d9⟩:=a5.1.cells (by rw[List.length_map];omega);obtain⟨b2,f0,f1,h6,f2⟩:=a5.2.cells (by rw[List.length_map];omega);have d1:=d9 i (by rw[List.length_map];omega);have d2:=f2 i (by rw[List.length_map];omega);rw[zs4]at d1;rw[zsC]at d2;have y0:w1.cell? ⟨w.heap.size,0,none⟩=some (.slice (some ⟨b1,d7,none⟩) n K):=d8 ▸ zm (j:=0) a0.1 rfl;have y1:w1.cell? ⟨w.heap.size,1,none⟩=some (.slice (some ⟨b2,f0,none⟩) n L):=f1 ▸ zm (j:=1) a0.1 rfl;have yl:=ztW a0.1;clear d9 f2 a5 d8 f1 e3 d5 d6 a1;go_wp2_with fail;go_quiet (fail)
     go_wp2_with fail;go_ret2;exact⟨zJ (by rw[x.1]) (by rw[x.1]),ztS d.1 (dr _ _)⟩
   have x:=I (show tyE (lkUp l T n) k (.mk 6 z s [])=(zad k s,0) from Hv.1.trans (if_pos (by simpa using f)));have e2:(erK (zad k s)==0)=true:=by rw[erK,if_neg f];rfl
   clear f;go_wp2_with fail;go_ret2;exact⟨zJ (by rw[x.1]) (by rw[x.1]),d.1⟩
 have e6:(o==6)=false:=by simpa using V
 have Hv:=I (show tyE (lkUp l T n) k (.mk o z s c)=if resK o h≠0 then(resK o h,0) else(0,9) by rw[zo7 _ _ _ _ _ _ V,g4.1];rfl);obtain⟨a3,f3,rfl,hI⟩:=zW.of_own hO.1;have g6:=I hI;have ok:=I (show zsp o h.length from⟨h1,h2,V,by rw[M];exact H3.1⟩);have a6:h.length<=140737488355328:=by omega
 clear hI V M;go_wp2_with fail;refine ca (zl4 o h a3 f3 wr a6 g6.1 ok.1) λw1 y=>?_;have d:=I (ztS a.1 y);clear y;by_cases f:resK o h=0
 . have x:=I (show tyE (lkUp l T n) k (.mk o z s c)=(0,9) by rw[Hv.1,if_neg (by simpa using f)]);have e2:(resK o h==0)=true:=by simpa using f
   clear f;go_wp2_with fail;go_ret2;exact⟨zJ (by rw[x.1]) (by rw[x.1]),d.1⟩
 have x:=I (show tyE (lkUp l T n) k (.mk o z s c)=(resK o h,0) by rw[Hv.1,if_pos f]);have e2:(resK o h==0)=false:=by simpa using f
 clear f;go_wp2_with fail;go_ret2;exact⟨zJ (by rw[x.1]) (by rw[x.1]),d.1⟩
theorem zkG(B:Nat)(l:List zB)(n:Nat)(q:n<=l.length)(c:zua)(d:Nat)(T:List (Int×Int))(a:T.length=n)(e:zua)(f:Nat)(g:zua)(h:Nat)(k:Nat)(b:k<4)(x:zH):TypS B l n c d T e f g h k x:=by
 obtain⟨m,r⟩:∃m,m=SizeOf.sizeOf x:=⟨_,rfl⟩;induction m using Nat.strongRecOn generalizing x with
 |_ m ih=>
  subst r;obtain⟨o,i,s,p⟩:=x;exact znJ B l n q c d T a e f g h k b o i s p λj hj=>ih _ (zbM (x:=.mk o i s p) hj) _ rfl
theorem zb7{w w':World}{q j:Nat}{k b:TypeId}{s l:Nat}{m n:Value}{t o:Nat}{c a:List Value}(p:w.ownsRow j b l n o a)(u:w.ownsRow q k s m t c)(d:b≠k)(v:w.grownBy w' m.ownBlock):w'.ownsRow j b l n o a:=by
 refine⟨p.1,?_⟩;rcases p.2 with h|⟨g,e,f,x,y,i,r⟩
 . exact .inl h
 exact .inr ⟨g,e,f,x,y,(v.block g (ztW i) (za7 u i d)).trans i,r⟩
theorem zag{w w':World}{l:Nat}{d t:TypeId}{m:Nat}{n:Value}{o:Nat}{a:List Value}{p:Nat}{c:Array Value}{f:Nat×Nat}(q:w.ownsRow l d m n o a)(s:w.heap[p]?=some (.cells c t f))(i:t≠d)(u:w.grownBy w' (some p)):w'.ownsRow l d m n o a:=by
 refine⟨q.1,?_⟩;rcases q.2 with h|⟨g,j,k,v,x,b,r⟩
 . exact .inl h
 refine .inr ⟨g,j,k,v,x,(u.block g (ztW b) ?_).trans b,r⟩;intro e;cases e;rw[s]at b;simp at b
 exact i b.2.1
theorem zs1:(prog.info? 42).map (λi=>(i.zero,i.size,i.bytes))=some (some (.int .i64 0),1,8):=by kernel_rfl
theorem zbD{P:Program}{b:Array Oper}{Q:Exit->Act->World->Prop}{d:Nat}{a:Act}{w c:World}(S:World->Prop)(Z:List Nat)(e:P.follows .mixedOrders=true)(f:w.drew=c)(h:anyZ P .any b Q S Z b.size (Array.replicate b.size false) a c):(Code.region d b true).wp P Q a w:=zfC S Z e (f ▸ h)
theorem znK(B:Nat)(l:List zB)(n:Nat)(k:n<=l.length)(a:zua)(g:Nat)(T:List (Int×Int))(b:T.length=n)(c:zua)(h:Nat)(d:zua)(i:Nat)(x:zH)(f:zua)(j:Nat)(w:World)(m:B<=w.heap.size)(o:za2 x)(p:wfE x=true)(q:cntE x<=200)(r:zaz B w f x.args)(s:zkg w c d T)(t:zbd B w a (l.take n)):
 Calls prog 176 #[.agg #[.slice c n h,.slice d n i],.slice a n g,.int .i64 0,.agg #[x.op,x.num,.string x.name,.slice f x.args.length j]] w λe w'=>e=.returned (.tuple #[.int .i64 (tyE (lkUp l T n) 0 x).1,.int .i64 (tyE (lkUp l T n) 0 x).2])/\Bw w w':=zkG B l n k a g T b c h d i 0 (by omega) x f j w m o p q r s t
theorem zbf{w:World}{b:Nat}{u:Value}{t:TypeId}{f:Nat×Nat}(h:w.heap[b]?=some (.cells #[u] t f))(j:Nat)(a:Value)(c: [u][j]?=some a):w.cell? (Addr.add ⟨b,0,none⟩ j)=some a:=by
 cases j with
 |zero=>
  have e:u=a:=by simpa using c
  subst e;exact zm (j:=0) h rfl
 |succ j=>simp at c
theorem zc4{B:Nat}{w:World}{a:zua}{l:List zB}(h:zbd B w a l)(n:Nat):zbd B w a (l.take n):=by
 obtain⟨d,h⟩:=h;refine⟨ztV (by rw[List.length_take];omega) d,?_⟩;rcases h with rfl|⟨b,c,e,f,g⟩
 . exact .inl (by simp)
 refine .inr ⟨b,c,e,f,λi hi=>?_⟩;rw[List.length_take]at hi;have:csAt (l.take n) i=csAt l i:=by unfold csAt;rw[zt0,zt0,List.getElem?_take,if_pos (by omega)]
 rw[this];exact g i (by omega)
theorem zfz(l:List zB)(j:Nat):((tabC l j).map Prod.fst).length=j:=by rw[List.length_map,zd5]
theorem zfy(l:List zB)(j:Nat):((tabC l j).map Prod.snd).length=j:=by rw[List.length_map,zd5]
def ztF(w:World)(L:List zB)(e:Ending)(w':World):Prop:=∃ka kc ea ec,e=.returned (.agg #[.slice ka L.length kc,.slice ea L.length ec])/\zkg w' ka ea (tabC L L.length)/\Below w.heap.size w w'
theorem zkN(L:List zB)(la:zua)(lc:Nat)(B:Nat)(w:World)(f6:B<=w.heap.size)(t7:L.length<=lc/\lc<=140737488355328)(t9:L.length<=1000)(ha:zbd B w la L):Calls prog 177 #[.slice la L.length lc] w (ztF w L):=by
 have HA:=I ha;obtain⟨i0,hi,l7,l8,l9⟩:=info_parts zjJ;obtain⟨i1,hj,m0,m1,m2⟩:=info_parts zs1;clear ha;go_enter func177,ntmps177
 go_wp2_with fail;have HB:=I (ztS (J w jF) (J _ jF));have QR:=I (zd (o':=jF) (zh w jF));have QT:=I (zh (w.alloc jF) jF);rw[zr]at QT;have o8:=I (show World.ownsRow ((w.alloc jF).alloc jF) w.heap.size 3 1 (.slice none 0 0) 0 ([]:List Value) from⟨rfl,.inl ⟨rfl,rfl⟩⟩);have o9:=I (show World.ownsRow ((w.alloc jF).alloc jF) w.heap.size 42 1 (.slice none 0 0) 0 ([]:List Value) from⟨rfl,.inl ⟨rfl,rfl⟩⟩);obtain⟨c,m3⟩:∃c,c=w.heap.size+1:=⟨_,rfl⟩;rw[<-m3]at QT;simp only[<-m3];have p0:=I (show w.heap.size<c by omega);clear m3;obtain⟨rb,m4⟩:∃rb,rb=w.heap.size:=⟨_,rfl⟩;rw[<-m4]at QR;generalize (w.alloc jF).alloc jF=W at*;rw[m4]at QR;clear m4 rb;go_loopw [4] (λi wr=>∃(j:Nat) (v1 v2:Value),j<=L.length/\i=.int .i64 j/\ztR (wr.heap[w.heap.size]?=some jF)/\ztR (wr.heap[c]?=some (.cells #[v1,v2] 229 (0,0)))/\ztR (wr.ownsRow w.heap.size 3 1 v1 ((tabC L j).map Prod.fst).length (((tabC L j).map Prod.fst).map (Value.int .i64)))/\ztR (wr.ownsRow w.heap.size 42 1 v2 ((tabC L j).map Prod.snd).length (((tabC L j).map Prod.snd).map (Value.int .i64)))/\ztR (Bw w wr)) (λi _=>L.length-(intOf i).toNat)
 case atStart=>exact⟨0,_,_,ztX _,rfl,QR,QT,o8,o9,HB⟩
 clear o8 o9 QR QT HB;obtain⟨j,v1,v2,u0,rfl,p,b2,d6,d7,a⟩:=hrel;have y0:=zw b2.1;have y1:=zu b2.1;have yl:=ztW b2.1;by_cases t2:j<L.length
 . obtain⟨b,t3,p1,hb,p2⟩:=(HA.1.keep (a.1.mono f6) (zbs.keep (a.1.mono f6))).cells (by omega);obtain⟨_,_,a2,k3,⟨c1,c2,c3,c4⟩,k4,f7⟩:=p2 j t2;have d8:b<wr.heap.size:=by have:=a.1.size;omega
   have HF:=I k4;have m5:=I f7;have u1:=I p1;subst p1;clear p2 f7 k4;go_wp2_with fail;refine ca (za8 (csAt L j).ex a2 k3 wr B (by have:=a.1.size;omega) HF.1 m5.1) λw1 n=>?_;have f8:=I (blkA n p.1);have V:=I (blkA n b2.1);have G:=I (zbQ d6.1 a.1 n);have H:=I (zbQ d7.1 a.1 n);have E:=I (ztS a.1 n);have c5:=I (m5.1.keep (n.mono (show B<=wr.heap.size by have:=a.1.size;omega)));have t4:=ztW V.1;have z1:=zj c1 d8 n;have z2:=zj c2 d8 n;have z3:=zj c3 d8 n;have z4:=zj c4 d8 n;have zb:b<w1.heap.size:=ztU d8 n.size;clear n c1 c2 c3 c4 p b2 d6 d7 a y0 y1 yl m5 d8;go_upto_if 20 with(fail)
   go_cut [5,6] (λk e wx=>∃l d:Int,k=.int .i64 l/\e=.int .i64 d/\ztR ((zgB L (tabC L j) j)=(l,d))/\ztR (wx.heap[w.heap.size]?=some jF)/\ztR (wx.heap[c]?=some (.cells #[v1,v2] 229 (0,0)))/\ztR (wx.ownsRow w.heap.size 3 1 v1 ((tabC L j).map Prod.fst).length (((tabC L j).map Prod.fst).map (Value.int .i64)))/\ztR (wx.ownsRow w.heap.size 42 1 v2 ((tabC L j).map Prod.snd).length (((tabC L j).map Prod.snd).map (Value.int .i64)))/\ztR (Bw w wx))
   case first=>
    by_cases e0:valE (csAt L j).ex=0
    . obtain⟨p3,k5,_⟩:=zcA e0;have F:=I (show(zgB L (tabC L j) j)=tyE (lkUp L (tabC L j) j) 0 (csAt L j).ex by rw[zgB,if_neg (by simpa using e0)]);obtain⟨ka,kc,rfl,b3⟩:=zW.of_own G.1;obtain⟨ea,ec,rfl,b4⟩:=zW.of_own H.1;have k6:=I (show zkg w1 ka ea (tabC L j) from⟨b3,b4⟩);have X:=zfz L j;have Y:=zfy L j;have k7:B<=w1.heap.size:=ztV f6 E.1.size;have x0:=zw V.1;have x1:=zu V.1;rw[X]at x0;rw[Y]at x1;have C1:=I (λdd os=>ztZ (znK B L j (by omega) (some ⟨b,t3,none⟩) lc (tabC L j) (zd5 L j) ka kc ea ec (csAt L j).ex a2 k3 (grow (redrawn w1 dd) os) (ztV k7 (below_regrown w1 dd os).size) HF.1 p3 k5 (c5.1.keep ((below_regrown w1 dd os).mono k7)) (k6.1.below (below_regrown w1 dd os)) (zc4 (HA.1.keep ((ztS E.1 (below_regrown w1 dd os)).mono f6) (zbs.keep ((ztS E.1 (below_regrown w1 dd os)).mono f6))) j)));clear b3 b4 p3 k5;rw[e0];clear e0;go_wp2_with fail;have r0:=λdd os=>cell_regrown x0 dd os
      have r1:=λdd os=>cell_regrown x1 dd os
      have r2:=λdd os=>cell_regrown z1 dd os
      have r3:=λdd os=>cell_regrown z2 dd os
      have r4:=λdd os=>cell_regrown z3 dd os
      have r5:=λdd os=>cell_regrown z4 dd os
      refine wp_region_quiet_below (by kernel_rfl) (by kernel_rfl) ?_;repeat (first|go_big_quiet_step (first|(with_reducible exact C1.1 _ _))|quiet_step (first|(with_reducible exact C1.1 _ _)))
      refine wpQuiet_nil ?_;intro _ t5;obtain⟨⟨dq,d9⟩,p4⟩:=t5;subst p4;have j2:=I (blkA (below_regrown w1 dq d9) f8.1);have j3:=I (blkA (below_regrown w1 dq d9) V.1);have c6:=I (zbQ G.1 E.1 (below_regrown w1 dq d9));have c7:=I (zbQ H.1 E.1 (below_regrown w1 dq d9));have j4:=I (ztS E.1 (below_regrown w1 dq d9));clear r0 r1 r2 r3 r4 r5 C1 x0 x1 z1 z2 z3 z4 zb k6 f8 V G H E c5 t4;generalize grow (redrawn w1 dq) d9=W2 at*;obtain⟨l,m6⟩:∃z,z=(tyE (lkUp L (tabC L j) j) 0 (csAt L j).ex).1:=⟨_,rfl⟩;obtain⟨d,m7⟩:∃z,z=(tyE (lkUp L (tabC L j) j) 0 (csAt L j).ex).2:=⟨_,rfl⟩;replace F:ztR ((zgB L (tabC L j) j)=(l,d)):=I (by rw[F.1,m6,m7]);simp only[<-m6,<-m7];clear X Y m6 m7;go_wp2_with fail;go_meet
      case rel=>first|exact⟨l,d,rfl,rfl,F,j2,j3,c6,c7,j4⟩|((repeat apply Exists.intro);exact⟨⟨l,d,rfl,rfl,F,j2,j3,c6,c7,j4⟩,rfl⟩)
    have F:=I (show(zgB L (tabC L j) j)=(0,valE (csAt L j).ex) by rw[zgB,if_pos e0]);have e1:(valE (csAt L j).ex==0)=false:=by simpa using e0
    clear e0 z1 z2 z3 z4 zb c5;go_wp2_with fail;go_meet
    case rel=>first|exact⟨0,valE (csAt L j).ex,rfl,rfl,F,f8,V,G,H,E⟩|((repeat apply Exists.intro);exact⟨⟨0,valE (csAt L j).ex,rfl,rfl,F,f8,V,G,H,E⟩,rfl⟩)
   clear z1 z2 z3 z4 zb c5 f8 V G H E;obtain⟨l,d,rfl,rfl,F,j2,j3,c6,c7,j4⟩:=hcut;go_wp2_with fail;have f2:=I (show((tabC L (j+1)).map Prod.fst)=((tabC L j).map Prod.fst)++ [l] by rw[tabC,zt3,F.1];rfl);have f3:=I (show((tabC L (j+1)).map Prod.snd)=((tabC L j).map Prod.snd)++ [d] by rw[tabC,zt3,F.1];rfl);have f9:ztR (wc.drew.heap[w.heap.size]?=some jF):=j2;have Z:ztR (wc.drew.heap[c]?=some (.cells #[v1,v2] 229 (0,0))):=j3;have c8:ztR (wc.drew.ownsRow w.heap.size 3 1 v1 ((tabC L j).map Prod.fst).length (((tabC L j).map Prod.fst).map (Value.int .i64))):=c6;have c9:ztR (wc.drew.ownsRow w.heap.size 42 1 v2 ((tabC L j).map Prod.snd).length (((tabC L j).map Prod.snd).map (Value.int .i64))):=c7;have g2:=I (j4.1.drew);obtain⟨Wd,m8⟩:∃Wd,wc.drew=Wd:=⟨_,rfl⟩;rw[m8]at f9 Z c8 c9 g2;have g3:=zy (zw Z.1) (zu Z.1);have M:=p0.1;obtain⟨n1,j5⟩:∃m,m=((tabC L j).map Prod.fst).length:=⟨_,rfl⟩;obtain⟨n2,j6⟩:∃m,m=((tabC L j).map Prod.snd).length:=⟨_,rfl⟩;rw[<-j5]at c8;rw[<-j6]at c9;have X:n1<=1000:=by rw[j5,zfz];omega
   have Y:n2<=1000:=by rw[j6,zfy];omega
   have f4:=I j5;have f5:=I j6;clear j5 j6;refine zbD (λw'=>w'.cell? ⟨c,0,none⟩=some v1/\w'.cell? ⟨c,1,none⟩=some v2) [11,13] (by kernel_rfl) m8 ?_;clear m8;refine zx (i:=0) (v:=.pointer (some ⟨c,0,none⟩)) rfl (λw' hS'=>?_) g3 ?_
   . obtain⟨g0,g1⟩:=hS';go_simp
   try simp only[Act.put,O]
   refine zx (i:=1) (v:=v1) rfl (λw' hS'=>?_) g3 ?_
   . obtain⟨g0,g1⟩:=hS';go_simp
   try simp only[Act.put,O]
   refine zx (i:=2) (v:=.int .i64 l) rfl (λw' hS'=>?_) g3 ?_
   . obtain⟨g0,g1⟩:=hS';go_simp
   try simp only[Act.put,O]
   refine zx (i:=5) (v:=.pointer (some ⟨c,1,none⟩)) rfl (λw' hS'=>?_) g3 ?_
   . obtain⟨g0,g1⟩:=hS';go_simp
   try simp only[Act.put,O]
   refine zx (i:=6) (v:=v2) rfl (λw' hS'=>?_) g3 ?_
   . obtain⟨g0,g1⟩:=hS';go_simp
   try simp only[Act.put,O]
   refine zT (i:=7) (v:=.int .i64 d) rfl (λw'=>?_) ?_
   . go_simp
   try simp only[Act.put,O]
   refine zaU (i:=3) (j:=8) (oi:={dst:=some 37,op:=Op.buildSlice 72 1 #[(0,Operand.tmp 36)],type:=72,pos:= "types.go:81",after:=_,guard:=none}) (oj:={dst:=some 42,op:=Op.buildSlice 227 1 #[(0,Operand.tmp 41)],type:=227,pos:= "types.go:81",after:=_,guard:=none}) (by kernel_rfl) rfl rfl (by rfl) (by rfl) (λK hK=>?_) (λK hK=>?_)
   . skip
     have d0:=I (zd (o':=(oI l)) f9.1);have N:=I (zd (o':=(oI l)) Z.1);have P:=I (c8.1.alloc (oI l));have k8:=I (c9.1.alloc (oI l));have d1:=I (ztS g2.1 (J _ (oI l)));have k9:=I (zh Wd (oI l));have p5:=zy (zw N.1) (zu N.1);go_simp;refine hK.1 _ _ (λ_ _=>p5) ?_;clear hK K;try simp only[Act.put,O]
     refine zaU (i:=4) (j:=8) (oi:={dst:=some 38,op:=Op.call {callee:=Callee.builtin Builtin.append,args:=#[Operand.tmp 35,Operand.tmp 37],argTypes:=#[72,72]},type:=72,pos:= "types.go:81",after:=_,guard:=none}) (oj:={dst:=some 42,op:=Op.buildSlice 227 1 #[(0,Operand.tmp 41)],type:=227,pos:= "types.go:81",after:=_,guard:=none}) (by kernel_rfl) rfl rfl (by rfl) (by rfl) (λK hK=>?_) (λK hK=>?_)
     . skip
       refine wp_append_lies _ (Operand.tmp 35) (Operand.tmp 37) 72 rfl w.heap.size 3 i0 (.int .i64 0) 1 8 underlying72 hi l7 l8 l9 rfl (by decide) v1 _ _ rfl P.1 _ 1 1 [.int .i64 l] rfl rfl (zbf k9.1) ?p1_2 (by decide) ?p2_2 ?p3_2 d1.1.size _ rfl ?p4_2
       case p1_2=>intro u hu;simp at hu;subst hu;rfl
       case p2_2=>unfold maxLen;omega
       case p3_2=>omega
       intro m9 b5 t6 g4 a0 n0 n3;have p6:=I ((a0.block _ (ztW d0.1) (za7 P.1 d0.1 (by decide))).trans d0.1);have g5:=I ((a0.block _ (ztW N.1) (za7 P.1 N.1 (by decide))).trans N.1);have p7:=I g4;have p8:=I (zb7 k8.1 P.1 (by decide) a0);have p9:=I (d1.1.grown a0 d1.1.size (λk hk=>zaM P.1 k hk));have q0:=zy (zw g5.1) (zu g5.1);clear g4 a0 n0 n3;refine hK.1 _ _ (λ_ _=>q0) ?_;clear hK K;try simp only[Act.put,O]
       refine zT (i:=10) (v:=.pointer (some ⟨c,0,none⟩)) rfl (λw'=>?_) ?_
       . go_simp
       try simp only[Act.put,O]
       have g6:=I (zd (o':=(oI1 d)) p6.1);have a1:=I (zd (o':=(oI1 d)) g5.1);have q1:=I (p7.1.alloc (oI1 d));have a3:=I (p8.1.alloc (oI1 d));have g7:=I (ztS p9.1 (J _ (oI1 d)));have q2:=I (zh t6 (oI1 d));have q3:=zy (zw a1.1) (zu a1.1);refine zo (i:=8) (o:={dst:=some 42,op:=Op.buildSlice 227 1 #[(0,Operand.tmp 41)],type:=227,pos:= "types.go:81",after:=_,guard:=none}) (by kernel_rfl) rfl (by rfl) (λK hK=>?_);go_simp;refine hK.1 _ _ (λ_ _=>q3) ?_;clear hK K;try simp only[Act.put,O]
       refine zo (i:=9) (o:={dst:=some 43,op:=Op.call {callee:=Callee.builtin Builtin.append,args:=#[Operand.tmp 40,Operand.tmp 42],argTypes:=#[227,227]},type:=227,pos:= "types.go:81",after:=_,guard:=none}) (by kernel_rfl) rfl (by rfl) (λK hK=>?_);refine wp_append_lies _ (Operand.tmp 40) (Operand.tmp 42) 227 rfl w.heap.size 42 i1 (.int .i64 0) 1 8 underlying227 hj m0 m1 m2 rfl (by decide) v2 _ _ rfl a3.1 _ 1 1 [.int .i64 d] rfl rfl (zbf q2.1) ?p1_4 (by decide) ?p2_4 ?p3_4 g7.1.size _ rfl ?p4_4
       case p1_4=>intro u hu;simp at hu;subst hu;rfl
       case p2_4=>unfold maxLen;omega
       case p3_4=>omega
       intro n4 b6 j7 g8 a4 n5 n6;have l0:=I ((a4.block _ (ztW g6.1) (za7 a3.1 g6.1 (by decide))).trans g6.1);have q:=I ((a4.block _ (ztW a1.1) (za7 a3.1 a1.1 (by decide))).trans a1.1);have q4:=I (zb7 q1.1 a3.1 (by decide) a4);have q5:=I g8;have l1:=I (g7.1.grown a4 g7.1.size (λk hk=>zaM a3.1 k hk));have l2:=zy (zw q.1) (zu q.1);clear g8 a4 n5 n6;refine hK.1 _ _ (λ_ _=>l2) ?_;clear hK K;try simp only[Act.put,O]
       have g9:j7.cell? ⟨c,0,none⟩=some v1:=l2.1;have h0:j7.frozen? ⟨c,0,none⟩=false:=zQ q.1;have h1:=ztW q.1;have C:=Lib.grownBy_setCell j7 c 0 (.slice (some ⟨m9,0,none⟩) (n1+1) b5);have r:=I (zg (i:=0) (u:=(.slice (some ⟨m9,0,none⟩) (n1+1) b5)) q.1);have R1:=I ((C.block _ (ztW l0.1) (by intro e;cases e;exact absurd M (by omega))).trans l0.1);have A1:=I (zag q4.1 q.1 (by decide) C);have A2:=I (zag q5.1 q.1 (by decide) C);have B1:=I (l1.1.grown C l1.1.size (λk hk=>by cases hk;omega));refine zo (i:=11) (o:={dst:=none,op:=Op.store 72 (Operand.tmp 44) (Operand.tmp 38),type:=0,pos:= "types.go:81",after:=_,guard:=none}) (by kernel_rfl) rfl (by rfl) (λK hK=>?_);go_simp;refine hK.1 _ _ (λh _=>absurd (by decide:(11:Nat)∈ [11,13]) h) ?_;clear hK K g9 h0 h1 C;try simp only[Act.put,O]
       obtain⟨w8,s⟩:∃W,W=j7.setCell ⟨c,0,none⟩ (.slice (some ⟨m9,0,none⟩) (n1+1) b5):=⟨_,rfl⟩;rw[<-s]at r R1 A1 A2 B1;simp only[<-s];clear s;refine zT (i:=12) (v:=.pointer (some ⟨c,1,none⟩)) rfl (λw'=>?_) ?_
       . go_simp
       try simp only[Act.put,O]
       have h2:=zu r.1;have h3:w8.frozen? ⟨c,1,none⟩=false:=zQ r.1;have h4:=ztW r.1;have D:=Lib.grownBy_setCell w8 c 1 (.slice (some ⟨n4,0,none⟩) (n2+1) b6);have T2:=I (zg (i:=1) (u:=(.slice (some ⟨n4,0,none⟩) (n2+1) b6)) r.1);have R2:=I ((D.block _ (ztW R1.1) (by intro e;cases e;exact absurd M (by omega))).trans R1.1);have a5:=I (zag A1.1 r.1 (by decide) D);have a6:=I (zag A2.1 r.1 (by decide) D);have B2:=I (B1.1.grown D B1.1.size (λk hk=>by cases hk;omega));refine zo (i:=13) (o:={dst:=none,op:=Op.store 227 (Operand.tmp 45) (Operand.tmp 43),type:=0,pos:= "types.go:81",after:=_,guard:=none}) (by kernel_rfl) rfl (by rfl) (λK hK=>?_);go_simp;refine hK.1 _ _ (λh _=>absurd (by decide:(13:Nat)∈ [11,13]) h) ?_;clear hK K h2 h3 h4 D;try simp only[Act.put,O]
       refine zM (by kernel_rfl) ?_;generalize w8.setCell ⟨c,1,none⟩ (.slice (some ⟨n4,0,none⟩) (n2+1) b6)=w9 at*;go_wp2_with fail;go_roundw
       case rel=>first|exact⟨j+1,_,_,by omega,by go_num,R2,T2,I (by rw[f2.1,zt2,<-f4.1,zt3];exact a5.1),I (by rw[f3.1,zt2,<-f5.1,zt3];exact a6.1),B2⟩|((repeat apply Exists.intro);exact⟨⟨j+1,_,_,by omega,by go_num,R2,T2,I (by rw[f2.1,zt2,<-f4.1,zt3];exact a5.1),I (by rw[f3.1,zt2,<-f5.1,zt3];exact a6.1),B2⟩,rfl⟩)
       case measure=>simp[intOf];omega
     skip
     have h5:=I (zd (o':=(oI1 d)) d0.1);have a7:=I (zd (o':=(oI1 d)) N.1);have Q:=I (P.1.alloc (oI1 d));have q6:=I (k8.1.alloc (oI1 d));have h6:=I (ztS d1.1 (J _ (oI1 d)));have q7:=I (zd (o':=(oI1 d)) k9.1);have d2:=I (zh (Wd.alloc (oI l)) (oI1 d));rw[zr]at d2;have q8:=zy (zw a7.1) (zu a7.1);go_simp;refine hK.1 _ _ (λ_ _=>q8) ?_;clear hK K;try simp only[Act.put,O]
     refine zo (i:=4) (o:={dst:=some 38,op:=Op.call {callee:=Callee.builtin Builtin.append,args:=#[Operand.tmp 35,Operand.tmp 37],argTypes:=#[72,72]},type:=72,pos:= "types.go:81",after:=_,guard:=none}) (by kernel_rfl) rfl (by rfl) (λK hK=>?_);refine wp_append_lies _ (Operand.tmp 35) (Operand.tmp 37) 72 rfl w.heap.size 3 i0 (.int .i64 0) 1 8 underlying72 hi l7 l8 l9 rfl (by decide) v1 _ _ rfl Q.1 _ 1 1 [.int .i64 l] rfl rfl (zbf q7.1) ?p1_6 (by decide) ?p2_6 ?p3_6 h6.1.size _ rfl ?p4_6
     case p1_6=>intro u hu;simp at hu;subst hu;rfl
     case p2_6=>unfold maxLen;omega
     case p3_6=>omega
     intro n7 b7 u2 h7 R n8 n9;have h8:=I ((R.block _ (ztW h5.1) (za7 Q.1 h5.1 (by decide))).trans h5.1);have a8:=I ((R.block _ (ztW a7.1) (za7 Q.1 a7.1 (by decide))).trans a7.1);have q9:=I h7;have a9:=I (zb7 q6.1 Q.1 (by decide) R);have h9:=I (h6.1.grown R h6.1.size (λk hk=>zaM Q.1 k hk));have r6:=I ((R.block _ (ztW d2.1) (za7 Q.1 d2.1 (by decide))).trans d2.1);have r7:=zy (zw a8.1) (zu a8.1);clear h7 R n8 n9;refine hK.1 _ _ (λ_ _=>r7) ?_;clear hK K;try simp only[Act.put,O]
     refine zT (i:=10) (v:=.pointer (some ⟨c,0,none⟩)) rfl (λw'=>?_) ?_
     . go_simp
     try simp only[Act.put,O]
     refine zo (i:=9) (o:={dst:=some 43,op:=Op.call {callee:=Callee.builtin Builtin.append,args:=#[Operand.tmp 40,Operand.tmp 42],argTypes:=#[227,227]},type:=227,pos:= "types.go:81",after:=_,guard:=none}) (by kernel_rfl) rfl (by rfl) (λK hK=>?_);refine wp_append_lies _ (Operand.tmp 40) (Operand.tmp 42) 227 rfl w.heap.size 42 i1 (.int .i64 0) 1 8 underlying227 hj m0 m1 m2 rfl (by decide) v2 _ _ rfl a9.1 _ 1 1 [.int .i64 d] rfl rfl (zbf r6.1) ?p1_7 (by decide) ?p2_7 ?p3_7 h9.1.size _ rfl ?p4_7
     case p1_7=>intro u hu;simp at hu;subst hu;rfl
     case p2_7=>unfold maxLen;omega
     case p3_7=>omega
     intro o0 b8 j8 i2 b0 o1 o2;have l3:=I ((b0.block _ (ztW h8.1) (za7 a9.1 h8.1 (by decide))).trans h8.1);have t:=I ((b0.block _ (ztW a8.1) (za7 a9.1 a8.1 (by decide))).trans a8.1);have r8:=I (zb7 q9.1 a9.1 (by decide) b0);have r9:=I i2;have l4:=I (h9.1.grown b0 h9.1.size (λk hk=>zaM a9.1 k hk));have l5:=zy (zw t.1) (zu t.1);clear i2 b0 o1 o2;refine hK.1 _ _ (λ_ _=>l5) ?_;clear hK K;try simp only[Act.put,O]
     have g9:j8.cell? ⟨c,0,none⟩=some v1:=l5.1;have h0:j8.frozen? ⟨c,0,none⟩=false:=zQ t.1;have h1:=ztW t.1;have C:=Lib.grownBy_setCell j8 c 0 (.slice (some ⟨n7,0,none⟩) (n1+1) b7);have r:=I (zg (i:=0) (u:=(.slice (some ⟨n7,0,none⟩) (n1+1) b7)) t.1);have R1:=I ((C.block _ (ztW l3.1) (by intro e;cases e;exact absurd M (by omega))).trans l3.1);have A1:=I (zag r8.1 t.1 (by decide) C);have A2:=I (zag r9.1 t.1 (by decide) C);have B1:=I (l4.1.grown C l4.1.size (λk hk=>by cases hk;omega));refine zo (i:=11) (o:={dst:=none,op:=Op.store 72 (Operand.tmp 44) (Operand.tmp 38),type:=0,pos:= "types.go:81",after:=_,guard:=none}) (by kernel_rfl) rfl (by rfl) (λK hK=>?_);go_simp;refine hK.1 _ _ (λh _=>absurd (by decide:(11:Nat)∈ [11,13]) h) ?_;clear hK K g9 h0 h1 C;try simp only[Act.put,O]
     obtain⟨w8,s⟩:∃W,W=j8.setCell ⟨c,0,none⟩ (.slice (some ⟨n7,0,none⟩) (n1+1) b7):=⟨_,rfl⟩;rw[<-s]at r R1 A1 A2 B1;simp only[<-s];clear s;refine zT (i:=12) (v:=.pointer (some ⟨c,1,none⟩)) rfl (λw'=>?_) ?_
     . go_simp
     try simp only[Act.put,O]
     have h2:=zu r.1;have h3:w8.frozen? ⟨c,1,none⟩=false:=zQ r.1;have h4:=ztW r.1;have D:=Lib.grownBy_setCell w8 c 1 (.slice (some ⟨o0,0,none⟩) (n2+1) b8);have T2:=I (zg (i:=1) (u:=(.slice (some ⟨o0,0,none⟩) (n2+1) b8)) r.1);have R2:=I ((D.block _ (ztW R1.1) (by intro e;cases e;exact absurd M (by omega))).trans R1.1);have a5:=I (zag A1.1 r.1 (by decide) D);have a6:=I (zag A2.1 r.1 (by decide) D);have B2:=I (B1.1.grown D B1.1.size (λk hk=>by cases hk;omega));refine zo (i:=13) (o:={dst:=none,op:=Op.store 227 (Operand.tmp 45) (Operand.tmp 43),type:=0,pos:= "types.go:81",after:=_,guard:=none}) (by kernel_rfl) rfl (by rfl) (λK hK=>?_);go_simp;refine hK.1 _ _ (λh _=>absurd (by decide:(13:Nat)∈ [11,13]) h) ?_;clear hK K h2 h3 h4 D;try simp only[Act.put,O]
     refine zM (by kernel_rfl) ?_;generalize w8.setCell ⟨c,1,none⟩ (.slice (some ⟨o0,0,none⟩) (n2+1) b8)=w9 at*;go_wp2_with fail;go_roundw
     case rel=>first|exact⟨j+1,_,_,by omega,by go_num,R2,T2,I (by rw[f2.1,zt2,<-f4.1,zt3];exact a5.1),I (by rw[f3.1,zt2,<-f5.1,zt3];exact a6.1),B2⟩|((repeat apply Exists.intro);exact⟨⟨j+1,_,_,by omega,by go_num,R2,T2,I (by rw[f2.1,zt2,<-f4.1,zt3];exact a5.1),I (by rw[f3.1,zt2,<-f5.1,zt3];exact a6.1),B2⟩,rfl⟩)
     case measure=>simp[intOf];omega
   skip
   have s2:=I (zd (o':=(oI1 d)) f9.1);have i3:=I (zd (o':=(oI1 d)) Z.1);have s3:=I (c8.1.alloc (oI1 d));have s4:=I (c9.1.alloc (oI1 d));have s5:=I (ztS g2.1 (J _ (oI1 d)));have s6:=I (zh Wd (oI1 d));have s7:=zy (zw i3.1) (zu i3.1);go_simp;refine hK.1 _ _ (λ_ _=>s7) ?_;clear hK K;try simp only[Act.put,O]
   have i4:=I (zd (o':=(oI l)) s2.1);have b1:=I (zd (o':=(oI l)) i3.1);have S:=I (s3.1.alloc (oI l));have s8:=I (s4.1.alloc (oI l));have i5:=I (ztS s5.1 (J _ (oI l)));have i6:=I (zd (o':=(oI l)) s6.1);have l6:=I (zh (Wd.alloc (oI1 d)) (oI l));rw[zr]at l6;have s9:=zy (zw b1.1) (zu b1.1);refine zo (i:=3) (o:={dst:=some 37,op:=Op.buildSlice 72 1 #[(0,Operand.tmp 36)],type:=72,pos:= "types.go:81",after:=_,guard:=none}) (by kernel_rfl) rfl (by rfl) (λK hK=>?_);go_simp;refine hK.1 _ _ (λ_ _=>s9) ?_;clear hK K;try simp only[Act.put,O]
   refine zo (i:=4) (o:={dst:=some 38,op:=Op.call {callee:=Callee.builtin Builtin.append,args:=#[Operand.tmp 35,Operand.tmp 37],argTypes:=#[72,72]},type:=72,pos:= "types.go:81",after:=_,guard:=none}) (by kernel_rfl) rfl (by rfl) (λK hK=>?_);refine wp_append_lies _ (Operand.tmp 35) (Operand.tmp 37) 72 rfl w.heap.size 3 i0 (.int .i64 0) 1 8 underlying72 hi l7 l8 l9 rfl (by decide) v1 _ _ rfl S.1 _ 1 1 [.int .i64 l] rfl rfl (zbf l6.1) ?p1_10 (by decide) ?p2_10 ?p3_10 i5.1.size _ rfl ?p4_10
   case p1_10=>intro u hu;simp at hu;subst hu;rfl
   case p2_10=>unfold maxLen;omega
   case p3_10=>omega
   intro i7 T t8 d3 g j9 k0;have b9:=I ((g.block _ (ztW i4.1) (za7 S.1 i4.1 (by decide))).trans i4.1);have x:=I ((g.block _ (ztW b1.1) (za7 S.1 b1.1 (by decide))).trans b1.1);have o3:=I d3;have y:=I (zb7 s8.1 S.1 (by decide) g);have c0:=I (i5.1.grown g i5.1.size (λk hk=>zaM S.1 k hk));have o4:=I ((g.block _ (ztW i6.1) (za7 S.1 i6.1 (by decide))).trans i6.1);have o5:=zy (zw x.1) (zu x.1);clear d3 g j9 k0;refine hK.1 _ _ (λ_ _=>o5) ?_;clear hK K;try simp only[Act.put,O]
   refine zT (i:=10) (v:=.pointer (some ⟨c,0,none⟩)) rfl (λw'=>?_) ?_
   . go_simp
   try simp only[Act.put,O]
   refine zo (i:=9) (o:={dst:=some 43,op:=Op.call {callee:=Callee.builtin Builtin.append,args:=#[Operand.tmp 40,Operand.tmp 42],argTypes:=#[227,227]},type:=227,pos:= "types.go:81",after:=_,guard:=none}) (by kernel_rfl) rfl (by rfl) (λK hK=>?_);refine wp_append_lies _ (Operand.tmp 40) (Operand.tmp 42) 227 rfl w.heap.size 42 i1 (.int .i64 0) 1 8 underlying227 hj m0 m1 m2 rfl (by decide) v2 _ _ rfl y.1 _ 1 1 [.int .i64 d] rfl rfl (zbf o4.1) ?p1_11 (by decide) ?p2_11 ?p3_11 c0.1.size _ rfl ?p4_11
   case p1_11=>intro u hu;simp at hu;subst hu;rfl
   case p2_11=>unfold maxLen;omega
   case p3_11=>omega
   intro i8 U d4 d5 A k1 k2;have i9:=I ((A.block _ (ztW b9.1) (za7 y.1 b9.1 (by decide))).trans b9.1);have f:=I ((A.block _ (ztW x.1) (za7 y.1 x.1 (by decide))).trans x.1);have o6:=I (zb7 o3.1 y.1 (by decide) A);have o7:=I d5;have j0:=I (c0.1.grown A c0.1.size (λk hk=>zaM y.1 k hk));have j1:=zy (zw f.1) (zu f.1);clear d5 A k1 k2;refine hK.1 _ _ (λ_ _=>j1) ?_;clear hK K;try simp only[Act.put,O]
   have g9:d4.cell? ⟨c,0,none⟩=some v1:=j1.1;have h0:d4.frozen? ⟨c,0,none⟩=false:=zQ f.1;have h1:=ztW f.1;have C:=Lib.grownBy_setCell d4 c 0 (.slice (some ⟨i7,0,none⟩) (n1+1) T);have r:=I (zg (i:=0) (u:=(.slice (some ⟨i7,0,none⟩) (n1+1) T)) f.1);have R1:=I ((C.block _ (ztW i9.1) (by intro e;cases e;exact absurd M (by omega))).trans i9.1);have A1:=I (zag o6.1 f.1 (by decide) C);have A2:=I (zag o7.1 f.1 (by decide) C);have B1:=I (j0.1.grown C j0.1.size (λk hk=>by cases hk;omega));refine zo (i:=11) (o:={dst:=none,op:=Op.store 72 (Operand.tmp 44) (Operand.tmp 38),type:=0,pos:= "types.go:81",after:=_,guard:=none}) (by kernel_rfl) rfl (by rfl) (λK hK=>?_);go_simp;refine hK.1 _ _ (λh _=>absurd (by decide:(11:Nat)∈ [11,13]) h) ?_;clear hK K g9 h0 h1 C;try simp only[Act.put,O]
   obtain⟨w8,s⟩:∃W,W=d4.setCell ⟨c,0,none⟩ (.slice (some ⟨i7,0,none⟩) (n1+1) T):=⟨_,rfl⟩;rw[<-s]at r R1 A1 A2 B1;simp only[<-s];clear s;refine zT (i:=12) (v:=.pointer (some ⟨c,1,none⟩)) rfl (λw'=>?_) ?_
   . go_simp
   try simp only[Act.put,O]
   have h2:=zu r.1;have h3:w8.frozen? ⟨c,1,none⟩=false:=zQ r.1;have h4:=ztW r.1;have D:=Lib.grownBy_setCell w8 c 1 (.slice (some ⟨i8,0,none⟩) (n2+1) U);have T2:=I (zg (i:=1) (u:=(.slice (some ⟨i8,0,none⟩) (n2+1) U)) r.1);have R2:=I ((D.block _ (ztW R1.1) (by intro e;cases e;exact absurd M (by omega))).trans R1.1);have a5:=I (zag A1.1 r.1 (by decide) D);have a6:=I (zag A2.1 r.1 (by decide) D);have B2:=I (B1.1.grown D B1.1.size (λk hk=>by cases hk;omega));refine zo (i:=13) (o:={dst:=none,op:=Op.store 227 (Operand.tmp 45) (Operand.tmp 43),type:=0,pos:= "types.go:81",after:=_,guard:=none}) (by kernel_rfl) rfl (by rfl) (λK hK=>?_);go_simp;refine hK.1 _ _ (λh _=>absurd (by decide:(13:Nat)∈ [11,13]) h) ?_;clear hK K h2 h3 h4 D;try simp only[Act.put,O]
   refine zM (by kernel_rfl) ?_;generalize w8.setCell ⟨c,1,none⟩ (.slice (some ⟨i8,0,none⟩) (n2+1) U)=w9 at*;go_wp2_with fail;go_roundw
   case rel=>first|exact⟨j+1,_,_,by omega,by go_num,R2,T2,I (by rw[f2.1,zt2,<-f4.1,zt3];exact a5.1),I (by rw[f3.1,zt2,<-f5.1,zt3];exact a6.1),B2⟩|((repeat apply Exists.intro);exact⟨⟨j+1,_,_,by omega,by go_num,R2,T2,I (by rw[f2.1,zt2,<-f4.1,zt3];exact a5.1),I (by rw[f3.1,zt2,<-f5.1,zt3];exact a6.1),B2⟩,rfl⟩)
   case measure=>simp[intOf];omega
 obtain rfl:j=L.length:=by omega
 obtain⟨ka,kc,rfl,b3⟩:=zW.of_own d6.1;obtain⟨ea,ec,rfl,b4⟩:=zW.of_own d7.1;have HT:=I (show zkg wr ka ea (tabC L L.length) from⟨b3,b4⟩);have X:=zfz L L.length;have Y:=zfy L L.length;rw[X]at y0 d6;rw[Y]at y1 d7;rw[X,Y]at b2;have s0:=zw p.1;have s1:=zu p.1;have f0:wr.frozen? ⟨w.heap.size,0,none⟩=false:=zQ p.1;have f1:wr.frozen? ⟨w.heap.size,1,none⟩=false:=zQ p.1;have sl:=ztW p.1;have C:=Lib.grownBy_setCell wr w.heap.size 0 (.slice ka L.length kc);have D:=Lib.grownBy_setCell (wr.setCell ⟨w.heap.size,0,none⟩ (.slice ka L.length kc)) w.heap.size 1 (.slice ea L.length ec);have Q1:=zg (i:=0) (u:=(.slice ka L.length kc)) p.1;have Q2:=zg (i:=1) (u:=(.slice ea L.length ec)) Q1;have B1:=a.1.grown C a.1.size (λk hk=>by cases hk;omega);have B2:=I (B1.grown D B1.size (λk hk=>by cases hk;omega));have A1:=zag (zag d6.1 p.1 (by decide) C) Q1 (by decide) D;have A2:=zag (zag d7.1 p.1 (by decide) C) Q1 (by decide) D;have r0:=zw Q2;have r1:=zu Q2;have rl:=ztW Q2;have X1:=I (show((wr.setCell ⟨w.heap.size,0,none⟩ (.slice ka L.length kc)).setCell ⟨w.heap.size,1,none⟩ (.slice ea L.length ec)).ownsRow w.heap.size 3 1 (.slice ka L.length kc) ((tabC L L.length).map Prod.fst).length (((tabC L L.length).map Prod.fst).map (Value.int .i64)) by rw[X];exact A1);have X2:=I (show((wr.setCell ⟨w.heap.size,0,none⟩ (.slice ka L.length kc)).setCell ⟨w.heap.size,1,none⟩ (.slice ea L.length ec)).ownsRow w.heap.size 42 1 (.slice ea L.length ec) ((tabC L L.length).map Prod.snd).length (((tabC L L.length).map Prod.snd).map (Value.int .i64)) by rw[Y];exact A2);clear C D Q1 Q2 B1 A1 A2 b3 b4 HT d6 d7 X Y b2 p a;go_wp2_with fail;generalize ((wr.setCell ⟨w.heap.size,0,none⟩ (.slice ka L.length kc)).setCell ⟨w.heap.size,1,none⟩ (.slice ea L.length ec))=Wf at*;obtain⟨u3,u4,t0,b3⟩:=zW.of_own X1.1;obtain⟨u5,u6,t1,b4⟩:=zW.of_own X2.1;rw[zfz]at t0;cases t0;rw[zfy]at t1;cases t1;refine bodyPost_ret (v:=.agg #[.slice ka L.length kc,.slice ea L.length ec]) (by simp[results,results177,go_sem,r0,r1]) rfl ?_;exact⟨ka,kc,ea,ec,rfl,⟨b3,b4⟩,B2.1⟩
theorem zrj(B:Nat)(l:List zB)(n:Nat)(o:n<=l.length)(b:zua)(h:Nat)(T:List (Int×Int))(c:T.length=n)(d:zua)(i:Nat)(f:zua)(j:Nat)(a:Int)(p:0<=a/\a<4)(x:zH)(g:zua)(m:Nat)(w:World)(q:B<=w.heap.size)(r:za2 x)(s:wfE x=true)(t:cntE x<=200)(u:zaz B w g x.args)(v:zkg w d f T)(y:zbd B w b (l.take n)):
 Calls prog 176 #[.agg #[.slice d n i,.slice f n j],.slice b n h,a,.agg #[x.op,x.num,.string x.name,.slice g x.args.length m]] w λe w'=>e=.returned (.tuple #[.int .i64 (tyE (lkUp l T n) a x).1,.int .i64 (tyE (lkUp l T n) a x).2])/\Bw w w':=by
 obtain⟨k,rfl⟩:=Int.eq_ofNat_of_zero_le p.1;exact zkG B l n o b h T c d i f j k (by omega) x g m w q r s t u v y
theorem zfd(L:List zB)(D:zua)(u:Nat)(B:Nat)(k:Int)(T:0<=k/\k<4)(x:zH)(m:zua)(q:Nat)(w:World)(c:B<=w.heap.size)(F:L.length<=u/\u<=140737488355328)(U:L.length<=1000)(hl:zbd B w D L)(hf:za2 x)(ha:zaz B w m x.args):
 Calls prog 127 #[.slice D L.length u,k,.agg #[x.op,x.num,.string x.name,.slice m x.args.length q]] w λe w'=>e=.returned (.tuple #[.int .i64 (typX L L.length k x).1,.int .i64 (typX L L.length k x).2])/\Bw w w':=by
 have HL:=I hl;have HA:=I ha;have HF:=I hf;clear hl ha hf;go_enter func127,ntmps127
 go_wp2_with fail;have R:=I (J w (oE x m q));have V:=I (zh w (oE x m q));obtain⟨l,y⟩:∃l,l=w.heap.size:=⟨_,rfl⟩;rw[<-y]at V;simp only[<-y];clear y;generalize w.alloc (oE x m q)=W at*;refine ca (za8 x m q W B (ztV c R.1.size) HF.1 (HA.1.keep (R.1.mono c))) λE z=>?_;have G:=I (ztS R.1 z);have n:=I (blkA z V.1);clear z R V;by_cases A:valE x=0
 . obtain⟨X,H,_⟩:=zcA A;have M:=I (show typX L L.length k x=(tyE (lkUp L (tabC L L.length) L.length) k x) by rw[typX,if_neg (by simpa using A),zqi]);have b:E.drew.cell? ⟨l,0,none⟩=some (.int .i64 x.op)/\E.drew.cell? ⟨l,1,none⟩=some (.int .i64 x.num)/\E.drew.cell? ⟨l,2,none⟩=some (.string x.name)/\E.drew.cell? ⟨l,3,none⟩=some (.slice m x.args.length q):=⟨zm (j:=0) n.1 rfl,zm (j:=1) n.1 rfl,zm (j:=2) n.1 rfl,zm (j:=3) n.1 rfl⟩;have r:=I (G.1.drew);have N:ztR (E.drew.heap[l]?=some (oE x m q)):=n;obtain⟨S,C⟩:∃S,E.drew=S:=⟨_,rfl⟩;rw[C]at b r N;have p:=ztW N.1;have HT:=I (zkN L D u B S (ztV c r.1.size) F U (HL.1.keep (r.1.mono c) (zbs.keep (r.1.mono c))));have Y:=I (HL.1.keep (r.1.mono c) (zbs.keep (r.1.mono c)));have Z:=I (HA.1.keep (r.1.mono c));have s:B<=S.heap.size:=ztV c r.1.size;rw[A];clear A;go_wp2_with fail;refine zbD (λw'=>w'.cell? ⟨l,0,none⟩=some (.int .i64 x.op)/\w'.cell? ⟨l,1,none⟩=some (.int .i64 x.num)/\w'.cell? ⟨l,2,none⟩=some (.string x.name)/\w'.cell? ⟨l,3,none⟩=some (.slice m x.args.length q)) [] (by kernel_rfl) C ?_;clear C;refine zx (i:=0) (v:=.slice D L.length u) rfl (λw' hS'=>?_) b ?_
   . obtain⟨g0,g1,g2,g3⟩:=hS';go_simp
   try simp only[Act.put,O]
   refine zx (i:=2) (v:=.slice D L.length u) rfl (λw' hS'=>?_) b ?_
   . obtain⟨g0,g1,g2,g3⟩:=hS';go_simp
   try simp only[Act.put,O]
   refine zx (i:=3) (v:=.int .i64 k) rfl (λw' hS'=>?_) b ?_
   . obtain⟨g0,g1,g2,g3⟩:=hS';go_simp
   try simp only[Act.put,O]
   refine zx (i:=4) (v:=.agg #[x.op,x.num,.string x.name,.slice m x.args.length q]) rfl (λw' hS'=>?_) b ?_
   . obtain⟨g0,g1,g2,g3⟩:=hS';go_simp
   try simp only[Act.put,O]
   refine zo (i:=1) (o:={dst:=some 15,op:=Op.call {callee:=Callee.value (Operand.func 177),args:=#[Operand.tmp 14],argTypes:=#[27]},type:=229,pos:= "types.go:91",after:=_,guard:=none}) (by kernel_rfl) rfl (by rfl) (λK hK=>?_);go_simp;refine HT.1.mono ?_;rintro e w2 ⟨ka,kc,ea,ec,rfl,t,a⟩;have P:=I t;have a0:=I (ztS r.1 a);have a1:B<=w2.heap.size:=ztV s a.size;have a2:=I (Y.1.keep (a.mono s) (zbs.keep (a.mono s)));have a3:=I (Z.1.keep (a.mono s));have f:=zy (zj b.1 p a) (zy (zj b.2.1 p a) (zy (zj b.2.2.1 p a) (zj b.2.2.2 p a)));have d:l<w2.heap.size:=ztU p a.size;clear t a HT;refine hK.1 _ _ (λ_ _=>f) ?_;clear hK K;try simp only[Act.put,O]
   refine zo (i:=5) (o:={dst:=some 19,op:=Op.call {callee:=Callee.value (Operand.func 176),args:=#[Operand.tmp 15,Operand.tmp 16,Operand.tmp 17,Operand.tmp 18],argTypes:=#[229,27,3,86]},type:=_,pos:= "types.go:91",after:=_,guard:=none}) (by kernel_rfl) rfl (by rfl) (λK hK=>?_);go_simp;refine ca (zrj B L L.length (ztY _) D u (tabC L L.length) (zd5 L L.length) ka kc ea ec k T x m q w2 a1 HF.1 X H a3.1 P.1 (by rw[List.take_length];exact a2.1)) λw3 g=>?_;have a4:=I (ztS a0.1 g);have Q:=zy (zj f.1 d g) (zy (zj f.2.1 d g) (zy (zj f.2.2.1 d g) (zj f.2.2.2 d g)));clear g;refine hK.1 _ _ (λ_ _=>Q) ?_;clear hK K;try simp only[Act.put,O]
   refine zT (i:=6) (v:=.int .i64 (tyE (lkUp L (tabC L L.length) L.length) k x).1) rfl (λw'=>?_) ?_
   . go_simp
   try simp only[Act.put,O]
   refine zT (i:=7) (v:=.int .i64 (tyE (lkUp L (tabC L L.length) L.length) k x).2) rfl (λw'=>?_) ?_
   . go_simp
   try simp only[Act.put,O]
   refine zo (i:=8) (o:={dst:=some 6,op:=Op.assign (Operand.tmp 20),type:=3,pos:= "types.go:91",after:=_,guard:=none}) (by kernel_rfl) rfl (by rfl) (λK hK=>?_);go_simp;refine hK.1 _ _ (λ_ h=>h) ?_;clear hK K;try simp only[Act.put,O]
   refine zo (i:=9) (o:={dst:=some 7,op:=Op.assign (Operand.tmp 21),type:=42,pos:= "types.go:91",after:=_,guard:=none}) (by kernel_rfl) rfl (by rfl) (λK hK=>?_);go_simp;refine hK.1 _ _ (λ_ h=>h) ?_;clear hK K;try simp only[Act.put,O]
   refine zM (by kernel_rfl) ?_;clear b f Q;go_wp2_with fail;go_ret2;exact⟨zJ (by rw[M.1]) (by rw[M.1]),a4.1⟩
 have M:=I (show typX L L.length k x=(0,valE x) by rw[typX,if_pos A]);have e1:(valE x !=0)=true:=by simpa using A
 clear A;go_wp2_with fail;go_ret2;exact⟨zJ (by rw[M.1]) (by rw[M.1]),G.1⟩
theorem zfl(c:ConM)(p:ConP)(B:Nat)(b:Int)(q:0<=b/\b<4)(x:zH)(i:zua)(o:Nat)(d:Int)(w:World)(f:B<=w.heap.size)(j:c.consts.length<=p.cc/\p.cc<=140737488355328)(s:c.consts.length<=1000)(y:zdr B w c p)(A:za2 x)(z:zaz B w i x.args):
 Calls prog 128 #[aggC c p,b,.agg #[x.op,x.num,.string x.name,.slice i x.args.length o],d] w λe w'=>e=.returned (expE (typX c.consts c.consts.length b x) d)/\Bw w w':=by
 try delta aggC aggT
 have C:=I y;have D:=I z;clear y z;go_enter func128,ntmps128
 go_wp2_with fail;have k:=I (ztS (J w (objC c p)) (J _ (oE x i o)));generalize (w.alloc (objC c p)).alloc (oE x i o)=W at*;refine ca (zfd c.consts p.ca p.cc B b q x i o W (ztV f k.1.size) j s (C.1.keep (k.1.mono f)).consts A (D.1.keep (k.1.mono f))) λF l=>?_;have g:=I (ztS k.1 l);clear l k;obtain⟨r,t⟩:∃r,r=typX c.consts c.consts.length b x:=⟨_,rfl⟩;simp only[<-t];have u:=I t;clear t;by_cases a:r.2=0
 . by_cases h:r.1=d
   . have m:=I (show expE (typX c.consts c.consts.length b x) d=0 by rw[<-u.1,expE,if_pos a,if_pos h]);have n:(r.2==0)=true:=by simpa using a
     have v:(r.1 !=d)=false:=by simpa using h
     have E:=I a;clear a h;go_wp2_with fail;go_ret;exact⟨ze (by rw[m.1,E.1]),g.1⟩
   have m:=I (show expE (typX c.consts c.consts.length b x) d=9 by rw[<-u.1,expE,if_pos a,if_neg h]);have n:(r.2==0)=true:=by simpa using a
   have v:(r.1 !=d)=true:=by simpa using h
   clear a h;go_wp2_with fail;go_ret;exact⟨ze (by rw[m.1]),g.1⟩
 have n:(r.2==0)=false:=by simpa using a
 have m:=I (show expE (typX c.consts c.consts.length b x) d=r.2 by rw[<-u.1,expE,if_neg a]);clear a;go_wp2_with fail;go_ret;exact⟨ze (by rw[m.1]),g.1⟩
end Go.Proofs.YtbhhejkolnigfaaGreat
