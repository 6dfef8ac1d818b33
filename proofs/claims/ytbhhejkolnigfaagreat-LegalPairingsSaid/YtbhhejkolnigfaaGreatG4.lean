/- a part of the proof -/
import Derived.RegionTactic
import Derived.Deep.RegionHeld3
import Derived.Deep.AppendLies
import Derived.Test.YtbhhejkolnigfaaGreatG3
set_option linter.unusedVariables false
set_option linter.unusedSimpArgs false
set_option maxRecDepth 100000
set_option maxHeartbeats 51200000
namespace Go.Proofs.YtbhhejkolnigfaaGreat
open Go.RowKit Go.Sort Go.Proofs.Tryz
theorem zsj:(prog.info? 255).map (λi=>(i.zero,i.size,i.bytes))=some (some (.agg #[.int .i64 0,.int .i64 0,.int .i64 0]),3,24):=by kernel_rfl
def zar(L:List (Int×Int×Int)):List Value:=L.flatMap λg=> [.int .i64 g.1,.int .i64 g.2.1,.int .i64 g.2.2]
theorem zd6(L:List (Int×Int×Int))(g:Int×Int×Int):zar (L++ [g])=zar L++ [.int .i64 g.1,.int .i64 g.2.1,.int .i64 g.2.2]:=by simp[zar]
theorem zaa(w:World)(a:List Value)(e:TypeId)(j:Nat)(u:Value)(h:a[j]?=some u):(w.alloc (.cells a.toArray e)).cell? (Addr.add ⟨w.heap.size,0,none⟩ j)=some u:=by
 have b:(Addr.add ⟨w.heap.size,0,none⟩ j)=⟨w.heap.size,j,none⟩:=by
  unfold Addr.add;split
  . next h=>rw[h]
  simp
 rw[b];rw[World.cell?_alloc_at _ _ _ _ rfl];simpa using h
theorem zaM{w:World}{a:Nat}{e:TypeId}{b:Nat}{v:Value}{n:Nat}{d:List Value}(h:w.ownsRow a e b v n d)(k:Nat)(c:v.ownBlock=some k):a<=k:=by
 rcases h.2 with⟨rfl,_⟩|⟨g,f,i,rfl,j,_⟩
 . simp[Value.ownBlock]at c
 simp[Value.ownBlock]at c;omega
theorem zjx{w:World}{b a:Nat}{e:TypeId}{c:Nat}{v:Value}{n:Nat}{i:List Value}(h:w.ownsRow b e c v n i)(j:a<=b):w.ownsRow a e c v n i:=by
 refine⟨h.1,?_⟩;rcases h.2 with h|⟨g,d,f,k,l,h⟩
 . exact .inl h
 exact .inr ⟨g,d,f,k,ztV j l,h⟩
theorem zaG{B:Nat}{W c d:World}{e e':TypeId}{a:Nat}{v:Value}{n:Nat}{g:List Value}{o:Obj}(f:Bw W c)(h:B=W.heap.size)(b:c.ownsRow B e a v n g)(i:(c.alloc o).grownBy d v.ownBlock):Bw W d:=by
 subst h;have j:=f.size;exact(f.alloc j o).grown i (by simp;omega) (λk hk=>zaM b k hk)
theorem zjl(s:ByteArray)(o x y:Int)(l:List (Int×Int))(b m cap:Nat)(w:World)(hl:l.length<=1000000)(hb:b<w.heap.size)(hc:zdL w b m l):
 Calls prog 209 #[.agg #[.string s,o,.slice (some ⟨b,m,none⟩) l.length cap],.agg #[x,y]] w λe w'=>
  ∃v,e=.returned v/\w'.ownsRow w.heap.size 255 3 v (zbu 0 o l x y).length (zar (zbu 0 o l x y))/\Bw w w':=by
 obtain⟨i0,hi,a1,a2,a3⟩:=info_parts zsj;go_enter func209,ntmps209
 go_wp2_with fail;obtain⟨T,U,a4⟩:=zj8 w s o (some ⟨b,m,none⟩) l.length cap x y;generalize ((w.alloc (oZ s o (some ⟨b,m,none⟩) l.length cap)).alloc (oQ x y))=W at*;obtain⟨G,H,K,M⟩:=I T |>.1;obtain⟨N,P,Q⟩:=I U |>.1;go_quiet (fail)
 go_wp2_with fail;have V:Bw W (W.drewN nq):=below_drewN (ztT _ _) _;generalize W.drewN nq=R at*;replace T:=T.below V;replace U:=U.below V;have X:=ztS a4 V;clear V a4 G H K M N P Q;clear W;have a0:zdL R b m l:=hc.below hb X;have z:b<R.heap.size:=ztU hb X.size
 go_loopw [5,6,7,8] (λout fr oo i wr=>∃(k:Nat) (v:Value) (f q:Int) (L:List (Int×Int×Int)),k<=l.length+1/\L.length<=k/\i=.int .i64 k/\out=v/\fr=.int .i64 f/\oo=.int .i64 q/\
  wr.ownsRow R.heap.size 255 3 v L.length (zar L)/\ztR (zbu 0 o l x y=L++zdR f q l k x y)/\Bw R wr) (λ_ _ _ i _=>l.length+1-(intOf i).toNat)
 case atStart=>exact⟨0,_,_,_, [],ztX _,ztY _,rfl,rfl,rfl,rfl,⟨rfl,.inl ⟨rfl,rfl⟩⟩,I (ziJ o l x y),ztT _ _⟩
 obtain⟨k,v,f,q,L,hk,hL,rfl,rfl,rfl,rfl,j,E,c⟩:=hrel;obtain⟨G,H,K,M⟩:=I (T.below c) |>.1;obtain⟨N,P,Q⟩:=I (U.below c) |>.1;by_cases a6:k<=l.length
 . by_cases S:k<l.length
   . have d:=a0 k S;have Y:=(c.cell (p:=⟨b,m+k*2,none⟩) z).trans d.1;have Z:=(c.cell (p:=⟨b,m+k*2+1,none⟩) z).trans d.2;clear d;by_cases ht:mx f x<mn (shAt l k).1 y
     . have C:=I (E.1.trans (congrArg (L++·) (zm4 S)));have D:=I (zjm (o:=q) ht);go_wp2_with fail;go_quiet (fail)
       have g:(wr.drewN nq).ownsRow R.heap.size 255 3 u5 L.length (zar L):=j;have n:Bw wr (wr.drewN nq):=below_drewN (ztT _ _) _;simp only[show(if f<x then x else f)=mx f x from rfl,show(if y<(shAt l k).1 then y else(shAt l k).1)=mn (shAt l k).1 y from rfl];generalize mx f x=A at*;generalize mn (shAt l k).1 y=B at*;generalize wr.drewN nq=wd at*;have a:=c.trans (n.mono c.size);clear j G H K M N P Q n c Y Z;clear wr;obtain⟨G,H,K,M⟩:=I (T.below a) |>.1;obtain⟨N,P,Q⟩:=I (U.below a) |>.1;go_wp2_with (at_builtin;refine wpList_append_own _ rfl _ _ 252 rfl R.heap.size 255 i0 (.agg #[.int .i64 0,.int .i64 0,.int .i64 0]) 3 24 underlying252 hi a1 a2 a3 rfl (by decide) _ _ _ rfl (g.alloc _) ⟨wd.heap.size,0,none⟩ 1 1 [.int .i64 A,.int .i64 B,.int .i64 q] rfl rfl ?c1 ?c2 ?c3 ?c4 ?c5 ?_)
       case c1=>exact zaa wd [.int .i64 A,.int .i64 B,.int .i64 q] 255
       case c2=>intro u hu;simp at hu;rcases hu with rfl|rfl|rfl <;> rfl
       case c3=>unfold maxLen;omega
       case c4=>omega
       case c5=>have:=a.size;simp;omega
       intro v' w1 r t _;have h:=zaG (e':=255) a rfl g t;rw[show zar L++ [Value.int .i64 A,.int .i64 B,.int .i64 q]=zar (L++ [(A,B,q)]) from(zd6 L (A,B,q)).symm]at r;have F:=I (show zbu 0 o l x y=(L++ [(A,B,q)])++zdR (shAt l k).1 (shAt l k).2 l (k+1) x y from by rw[C.1,D.1];simp);clear g G H K M N P Q a t C D;obtain⟨G,H,K,M⟩:=I (T.below h) |>.1;obtain⟨N,P,Q⟩:=I (U.below h) |>.1;have d:=a0 k S;have Y:=(h.cell (p:=⟨b,m+k*2,none⟩) z).trans d.1;have Z:=(h.cell (p:=⟨b,m+k*2+1,none⟩) z).trans d.2;clear d;go_wp2_with fail;go_quiet (fail)
       go_wp2_with fail;go_roundw
       case rel=>exact⟨k+1,_,_,_,L++ [(A,B,q)],by omega,by rw[zt2,List.length_singleton];omega,by go_num,rfl,rfl,rfl,by simpa using(show(w1.drewN nq).ownsRow _ _ _ _ _ _ from r),F,(below_drewN h _)⟩
       case measure=>first|(simp[intOf];done)|(simp[intOf];omega)
     have C:=I (E.1.trans (congrArg (L++·) (zm4 S)));have D:=I (zlY (o:=q) ht);go_wp2_with fail;go_quiet (fail)
     have g:(wr.drewN nq).ownsRow R.heap.size 255 3 u5 L.length (zar L):=j;have n:Bw wr (wr.drewN nq):=below_drewN (ztT _ _) _;simp only[show(if f<x then x else f)=mx f x from rfl,show(if y<(shAt l k).1 then y else(shAt l k).1)=mn (shAt l k).1 y from rfl];generalize mx f x=A at*;generalize mn (shAt l k).1 y=B at*;generalize wr.drewN nq=wd at*;have a:=c.trans (n.mono c.size);clear j G H K M N P Q n c Y Z;clear wr;obtain⟨G,H,K,M⟩:=I (T.below a) |>.1;obtain⟨N,P,Q⟩:=I (U.below a) |>.1;have d:=a0 k S;have Y:=(a.cell (p:=⟨b,m+k*2,none⟩) z).trans d.1;have Z:=(a.cell (p:=⟨b,m+k*2+1,none⟩) z).trans d.2;clear d;have F:=I (show zbu 0 o l x y=L++zdR (shAt l k).1 (shAt l k).2 l (k+1) x y from by rw[C.1,D.1];simp);go_wp2_with fail;go_quiet (fail)
     go_wp2_with fail;go_roundw
     case rel=>exact⟨k+1,_,_,_,L,by omega,by omega,by go_num,rfl,rfl,rfl,(show(wd.drewN nq).ownsRow _ _ _ _ _ _ from g),F,(below_drewN a _)⟩
     case measure=>first|(simp[intOf];done)|(simp[intOf];omega)
   obtain rfl:k=l.length:=by omega
   by_cases ht:mx f x<mn 52596000 y
   . have C:=I (E.1.trans (congrArg (L++·) (zfA)));have D:=I (zjm (o:=q) ht);go_wp2_with fail;go_quiet (fail)
     have g:(wr.drewN nq).ownsRow R.heap.size 255 3 u5 L.length (zar L):=j;have n:Bw wr (wr.drewN nq):=below_drewN (ztT _ _) _;simp only[show(if f<x then x else f)=mx f x from rfl,show(if y<52596000 then y else 52596000)=mn 52596000 y from rfl];generalize mx f x=A at*;generalize mn 52596000 y=B at*;generalize wr.drewN nq=wd at*;have a:=c.trans (n.mono c.size);clear j G H K M N P Q n c;clear wr;obtain⟨G,H,K,M⟩:=I (T.below a) |>.1;obtain⟨N,P,Q⟩:=I (U.below a) |>.1;go_wp2_with (at_builtin;refine wpList_append_own _ rfl _ _ 252 rfl R.heap.size 255 i0 (.agg #[.int .i64 0,.int .i64 0,.int .i64 0]) 3 24 underlying252 hi a1 a2 a3 rfl (by decide) _ _ _ rfl (g.alloc _) ⟨wd.heap.size,0,none⟩ 1 1 [.int .i64 A,.int .i64 B,.int .i64 q] rfl rfl ?c1 ?c2 ?c3 ?c4 ?c5 ?_)
     case c1=>exact zaa wd [.int .i64 A,.int .i64 B,.int .i64 q] 255
     case c2=>intro u hu;simp at hu;rcases hu with rfl|rfl|rfl <;> rfl
     case c3=>unfold maxLen;omega
     case c4=>omega
     case c5=>have:=a.size;simp;omega
     intro v' w1 r t _;have h:=zaG (e':=255) a rfl g t;rw[show zar L++ [Value.int .i64 A,.int .i64 B,.int .i64 q]=zar (L++ [(A,B,q)]) from(zd6 L (A,B,q)).symm]at r;have F:=I (show zbu 0 o l x y=(L++ [(A,B,q)])++zdR f q l (l.length+1) x y from by rw[C.1,D.1];simp);clear g G H K M N P Q a t C D;obtain⟨G,H,K,M⟩:=I (T.below h) |>.1;obtain⟨N,P,Q⟩:=I (U.below h) |>.1;go_wp2_with fail;go_roundw
     case rel=>exact⟨l.length+1,_,_,_,L++ [(A,B,q)],by omega,by rw[zt2,List.length_singleton];omega,by go_num,rfl,rfl,rfl,by simpa using r,F,h⟩
     case measure=>first|(simp[intOf];done)|(simp[intOf];omega)
   have C:=I (E.1.trans (congrArg (L++·) (zfA)));have D:=I (zlY (o:=q) ht);go_wp2_with fail;go_quiet (fail)
   have g:(wr.drewN nq).ownsRow R.heap.size 255 3 u5 L.length (zar L):=j;have n:Bw wr (wr.drewN nq):=below_drewN (ztT _ _) _;simp only[show(if f<x then x else f)=mx f x from rfl,show(if y<52596000 then y else 52596000)=mn 52596000 y from rfl];generalize mx f x=A at*;generalize mn 52596000 y=B at*;generalize wr.drewN nq=wd at*;have a:=c.trans (n.mono c.size);clear j G H K M N P Q n c;clear wr;obtain⟨G,H,K,M⟩:=I (T.below a) |>.1;obtain⟨N,P,Q⟩:=I (U.below a) |>.1;have F:=I (show zbu 0 o l x y=L++zdR f q l (l.length+1) x y from by rw[C.1,D.1];simp);go_wp2_with fail;go_roundw
   case rel=>exact⟨l.length+1,_,_,_,L,by omega,by omega,by go_num,rfl,rfl,rfl,g,F,a⟩
   case measure=>first|(simp[intOf];done)|(simp[intOf];omega)
 have a5:=I (E.1.trans (by rw[zkR a6,List.append_nil]));go_wp2
 go_ret;refine⟨_,rfl,?_,ztS X c⟩;rw[a5.1];exact zjx j X.size
theorem zkS(s:ByteArray)(o x y:Int)(a:zua)(cap:Nat)(w:World):
 Calls prog 209 #[.agg #[.string s,o,.slice a 0 cap],.agg #[x,y]] w λe w'=>
  ∃v,e=.returned v/\w'.ownsRow w.heap.size 255 3 v (zbu 0 o [] x y).length (zar (zbu 0 o [] x y))/\Bw w w':=by
 obtain⟨i0,hi,V,X,Y⟩:=info_parts zsj;go_enter func209,ntmps209
 go_wp2_with fail;obtain⟨M,N,R⟩:=zj8 w s o a 0 cap x y;generalize ((w.alloc (oZ s o a 0 cap)).alloc (oQ x y))=W at*;obtain⟨C,D,E,F⟩:=I M |>.1;obtain⟨G,H,K⟩:=I N |>.1;go_quiet (fail)
 go_wp2_with fail;have r:Bw W (W.drewN nq):=below_drewN (ztT _ _) _;generalize W.drewN nq=Q at*;replace M:=M.below r;replace N:=N.below r;have S:=ztS R r;clear r R C D E F G H K;clear W
 go_loopw [5,6,7,8] (λout fr oo i wr=>∃(k:Nat) (v:Value) (f q:Int) (L:List (Int×Int×Int)),k<=1/\L.length<=k/\i=.int .i64 k/\out=v/\fr=.int .i64 f/\oo=.int .i64 q/\
  wr.ownsRow Q.heap.size 255 3 v L.length (zar L)/\ztR (zbu 0 o [] x y=L++zdR f q [] k x y)/\Bw Q wr) (λ_ _ _ i _=>1-(intOf i).toNat)
 case atStart=>exact⟨0,_,_,_, [],ztX _,ztY _,rfl,rfl,rfl,rfl,⟨rfl,.inl ⟨rfl,rfl⟩⟩,I (ziJ o [] x y),ztT _ _⟩
 obtain⟨k,v,f,q,L,hk,hL,rfl,rfl,rfl,rfl,g,j,c⟩:=hrel;obtain⟨C,D,E,F⟩:=I (M.below c) |>.1;obtain⟨G,H,K⟩:=I (N.below c) |>.1;by_cases T:k<=0
 . obtain rfl:k=0:=by simpa using T
   by_cases ht:mx f x<mn 52596000 y
   . have t:=I (j.1.trans (congrArg (L++·) (zfA (l:= []))));have z:=I (zjm (o:=q) ht);go_wp2_with fail;go_quiet (fail)
     have d:(wr.drewN nq).ownsRow Q.heap.size 255 3 u5 L.length (zar L):=g;have m:Bw wr (wr.drewN nq):=below_drewN (ztT _ _) _;simp only[show(if f<x then x else f)=mx f x from rfl,show(if y<52596000 then y else 52596000)=mn 52596000 y from rfl];generalize mx f x=A at*;generalize mn 52596000 y=B at*;generalize wr.drewN nq=Z at*;have b:=c.trans (m.mono c.size);clear g C D E F G H K m c;clear wr;obtain⟨C,D,E,F⟩:=I (M.below b) |>.1;obtain⟨G,H,K⟩:=I (N.below b) |>.1;go_wp2_with (at_builtin;refine wpList_append_own _ rfl _ _ 252 rfl Q.heap.size 255 i0 (.agg #[.int .i64 0,.int .i64 0,.int .i64 0]) 3 24 underlying252 hi V X Y rfl (by decide) _ _ _ rfl (d.alloc _) ⟨Z.heap.size,0,none⟩ 1 1 [.int .i64 A,.int .i64 B,.int .i64 q] rfl rfl ?c1 ?c2 ?c3 ?c4 ?c5 ?_)
     case c1=>exact zaa Z [.int .i64 A,.int .i64 B,.int .i64 q] 255
     case c2=>intro u hu;simp at hu;rcases hu with rfl|rfl|rfl <;> rfl
     case c3=>unfold maxLen;omega
     case c4=>omega
     case c5=>have:=b.size;simp;omega
     intro v' w1 n p _;have h:=zaG (e':=255) b rfl d p;rw[show zar L++ [Value.int .i64 A,.int .i64 B,.int .i64 q]=zar (L++ [(A,B,q)]) from(zd6 L (A,B,q)).symm]at n;have P:=I (show zbu 0 o [] x y=(L++ [(A,B,q)])++zdR f q [] (1) x y from by rw[t.1,z.1];simp);clear d C D E F G H K b p t z;obtain⟨C,D,E,F⟩:=I (M.below h) |>.1;obtain⟨G,H,K⟩:=I (N.below h) |>.1;go_wp2_with fail;go_roundw
     case rel=>exact⟨1,_,_,_,L++ [(A,B,q)],by omega,by rw[zt2,List.length_singleton];omega,by go_num,rfl,rfl,rfl,by simpa using n,P,h⟩
     case measure=>first|(simp[intOf];done)|(simp[intOf];omega)
   have t:=I (j.1.trans (congrArg (L++·) (zfA (l:= []))));have z:=I (zlY (o:=q) ht);go_wp2_with fail;go_quiet (fail)
   have d:(wr.drewN nq).ownsRow Q.heap.size 255 3 u5 L.length (zar L):=g;have m:Bw wr (wr.drewN nq):=below_drewN (ztT _ _) _;simp only[show(if f<x then x else f)=mx f x from rfl,show(if y<52596000 then y else 52596000)=mn 52596000 y from rfl];generalize mx f x=A at*;generalize mn 52596000 y=B at*;generalize wr.drewN nq=Z at*;have b:=c.trans (m.mono c.size);clear g C D E F G H K m c;clear wr;obtain⟨C,D,E,F⟩:=I (M.below b) |>.1;obtain⟨G,H,K⟩:=I (N.below b) |>.1;have P:=I (show zbu 0 o [] x y=L++zdR f q [] (1) x y from by rw[t.1,z.1];simp);go_wp2_with fail;go_roundw
   case rel=>exact⟨1,_,_,_,L,by omega,by omega,by go_num,rfl,rfl,rfl,d,P,b⟩
   case measure=>first|(simp[intOf];done)|(simp[intOf];omega)
 have U:=I (j.1.trans (by rw[zkR (l:= []) T,List.append_nil]));go_wp2
 go_ret;refine⟨_,rfl,?_,ztS S c⟩;rw[U.1];exact zjx g S.size
theorem zkT(s:ByteArray)(o x y:Int)(l:List (Int×Int))(a:zua)(cap:Nat)(w:World)(d:l.length<=1000000)(f:ShAt w a l):
 Calls prog 209 #[.agg #[.string s,o,.slice a l.length cap],.agg #[x,y]] w λe w'=>
  ∃v,e=.returned v/\w'.ownsRow w.heap.size 255 3 v (zbu 0 o l x y).length (zar (zbu 0 o l x y))/\Bw w w':=by
 rcases f with rfl|⟨b,c,rfl,g,h⟩
 . exact zkS s o x y a cap w
 exact zjl s o x y l b c cap w d g h
theorem zlX(L:List (Int×Int×Int)):∀k,k<L.length->(zar L)[k*3]?=some (.int .i64 (zdu L k).1)/\(zar L)[k*3+1]?=some (.int .i64 (zdu L k).2.1)/\(zar L)[k*3+2]?=some (.int .i64 (zdu L k).2.2):=by
 induction L with
 |nil=>intro k h;simp at h
 |cons g L ih=>
  intro k h;cases k with
  |zero=>simp[zar,zdu]
  |succ k=>
   have:=ih k (by simpa using h);have e:zar (g::L)= [.int .i64 g.1,.int .i64 g.2.1,.int .i64 g.2.2]++zar L:=by simp[zar]
   have a:zdu (g::L) (k+1)=zdu L k:=by simp[zdu]
   rw[e,a];refine⟨?_,?_,?_⟩
   . rw[zt9 (by simp;omega)];simpa[show(k+1)*3-3=k*3 by omega] using this.1
   . rw[zt9 (by simp;omega)];simpa[show(k+1)*3+1-3=k*3+1 by omega] using this.2.1
   rw[zt9 (by simp;omega)];simpa[show(k+1)*3+2-3=k*3+2 by omega] using this.2.2
def znw(w:World)(g:Nat)(L:List (Int×Int×Int)):Prop:=
 g<w.heap.size/\∀k,k<L.length->w.cell? ⟨g,k*3,none⟩=some (.int .i64 (zdu L k).1)/\w.cell? ⟨g,k*3+1,none⟩=some (.int .i64 (zdu L k).2.1)/\w.cell? ⟨g,k*3+2,none⟩=some (.int .i64 (zdu L k).2.2)
theorem zdG(g j:Nat):Addr.add ⟨g,0,none⟩ j=⟨g,j,none⟩:=by
 unfold Addr.add;split
 . next h=>rw[h]
 simp
theorem znw.below{w w':World}{g:Nat}{L:List (Int×Int×Int)}(h:znw w g L)(a:Bw w w'):znw w' g L:=
 ⟨ztU h.1 a.size,λk hk=>⟨(a.cell (p:=⟨g,k*3,none⟩) h.1).trans (h.2 k hk).1,(a.cell (p:=⟨g,k*3+1,none⟩) h.1).trans (h.2 k hk).2.1,(a.cell (p:=⟨g,k*3+2,none⟩) h.1).trans (h.2 k hk).2.2⟩⟩
theorem zlW{w:World}{c:Nat}{v:Value}{L:List (Int×Int×Int)}(h:w.ownsRow c 255 3 v L.length (zar L)):
 (v=.slice none 0 0/\L= [])\/∃g b,v=.slice (some ⟨g,0,none⟩) L.length b/\znw w g L:=by
 rcases h.2 with⟨d,m⟩|⟨g,b,n,d,r⟩
 . exact .inl ⟨d,List.length_eq_zero_iff.1 m⟩
 have a:v.ownBlock=some g:=by rw[d];rfl
 have e:=(h.lt g a).2;have f:=h.cells a;refine .inr ⟨g,b,d,e,λk hk=>?_⟩;obtain⟨o,p,q⟩:=zlX L k hk;have i:=f _ _ o;have j:=f _ _ p;have l:=f _ _ q;rw[zdG]at i j l;exact⟨i,j,l⟩
theorem zbQ{c b k:World}{e:TypeId}{a:Nat}{v:Value}{n:Nat}{l:List Value}(h:b.ownsRow c.heap.size e a v n l)(_hb:Bw c b)(d:Bw b k):k.ownsRow c.heap.size e a v n l:=by
 refine⟨h.1,?_⟩;rcases h.2 with o|⟨g,f,i,m,p,q,r⟩
 . exact .inl o
 have j:g<b.heap.size:=(h.lt g (by rw[m];rfl)).2;exact .inr ⟨g,f,i,m,p,(d.block g j).trans q,r⟩
theorem info35:(prog.info? 144).map (λi=>(i.zero,i.size,i.bytes))=some (some (.agg #[.int .i64 0,.int .i64 0]),2,16):=by kernel_rfl
def zav(R:List (Int×Int)):List Value:=R.flatMap λr=> [.int .i64 r.1,.int .i64 r.2]
theorem zjo(R:List (Int×Int))(a b:Int):zav (R++ [(a,b)])=zav R++ [.int .i64 a,.int .i64 b]:=by simp[zav]
theorem zhm(R:List (Int×Int)):∀k,k<R.length->(zav R)[k*2]?=some (.int .i64 (zaq R k).1)/\(zav R)[k*2+1]?=some (.int .i64 (zaq R k).2):=by
 induction R with
 |nil=>intro k h;simp at h
 |cons r R ih=>
  intro k h;cases k with
  |zero=>simp[zav,zaq]
  |succ k=>
   have:=ih k (by simpa using h);have e:zav (r::R)= [.int .i64 r.1,.int .i64 r.2]++zav R:=by simp[zav]
   have a:zaq (r::R) (k+1)=zaq R k:=by simp[zaq]
   rw[e,a];refine⟨?_,?_⟩
   . rw[zt9 (by simp;omega)];simpa[show(k+1)*2-2=k*2 by omega] using this.1
   rw[zt9 (by simp;omega)];simpa[show(k+1)*2+1-2=k*2+1 by omega] using this.2
theorem zkX(R:List (Int×Int))(b:Int):∀k,k<R.length->(zav R).set (k*2+1) (.int .i64 b)=zav (R.set k ((zaq R k).1,b)):=by
 induction R with
 |nil=>intro k h;simp at h
 |cons r R ih=>
  intro k h;cases k with
  |zero=>simp[zav,zaq]
  |succ k=>
   have:=ih k (by simpa using h);have e:∀(r:Int×Int) R,zav (r::R)=.int .i64 r.1::.int .i64 r.2::zav R:=by simp[zav]
   have a:zaq (r::R) (k+1)=zaq R k:=by simp[zaq]
   rw[a,List.set_cons_succ,e r R,e r (R.set k _),<-this,show(k+1)*2+1=(k*2+1)+1+1 by omega,List.set_cons_succ,List.set_cons_succ]
theorem zne{w:World}{a:Nat}{v:Value}{n:Nat}{f:List Value}{b:Nat}{c:Array Value}(h:w.ownsRow a 144 2 v n f)(i:w.heap[b]?=some (.cells c 255)):some b≠v.ownBlock:=by
 rcases h.2 with⟨rfl,_⟩|⟨g,j,k,rfl,l,d,_⟩
 . simp[Value.ownBlock]
 intro e;simp[Value.ownBlock]at e
 subst e;rw[i]at d;simp at d
theorem zbA{w:World}{a:Nat}{c:Array Value}(b:w.heap[a]?=some (.cells c 255))(i:Nat):w.cell? ⟨a,i,none⟩=c[i]?:=by
 simp[World.cell?,b]
theorem zsl{w:World}{a:Nat}{o:Obj}(b:w.heap[a]?=some o):a<w.heap.size:=(Array.getElem?_eq_some_iff.1 b).1
theorem zfT{w w':World}{b:Nat}{o:Obj}{a:Option Nat}(d:w.heap[b]?=some o)(e:w.grownBy w' a)(c:some b≠a):w'.heap[b]?=some o:=
 (e.block b (zsl d) c).trans d
theorem zhY{w:World}{a:Nat}{o:Obj}(b:w.heap[a]?=some o)(o':Obj):(w.alloc o').heap[a]?=some o:=(Below.heap_alloc _ _ _ (zsl b)).trans b
theorem zgC(s:ByteArray)(o x y c to:Int)(l:List (Int×Int))(a:zua)(cap:Nat)(w:World)(hl:l.length<=1000000)(ha:ShAt w a l)(hv:zG s.data.toList o l=0)(d7:0<=c/\c<1440)(d8:0<=to/\to<1440):
 Calls prog 188 #[.agg #[.string s,o,.slice a l.length cap],.agg #[x,y],c,to] w λe w'=>
  ∃v,e=.returned (.tuple #[v,(zap c to)])/\w'.ownsRow w.heap.size 144 2 v (zef o l x y c to).length (zav (zef o l x y c to))/\Bw w w':=by
 have hA:=I (λW (h:Bw w W)=>ha.below h);have c6:=I (zm3 l 0 o x y (zjy hv) (Int.le_refl _) (zbg hv).2.1);have f6:=zpq l 0 o x y;clear ha hv;obtain⟨g0,g1⟩:=d7;obtain⟨g2,g3⟩:=d8;obtain⟨i0,hi,b0,b1,b2⟩:=info_parts info35;by_cases h0:zap c to=0
 . have hz:=I (show zef o l x y c to= [] from if_pos h0);have d9:=I h0;have c7:((to-c+1440)%1440==0)=true:=by simpa[zap] using h0
   clear h0;go_enter func188,ntmps188
   go_wp2_with fail;go_ret2;exact⟨_,by rw[d9.1];rfl,by rw[hz.1];exact⟨rfl,.inl ⟨rfl,rfl⟩⟩,ztS (J _ _) (J _ _)⟩
 have hz:=I (show zef o l x y c to=zcE c (zap c to) (zbu 0 o l x y) [] from if_neg h0);have c7:((to-c+1440)%1440==0)=false:=by simpa[zap] using h0
 have f7:0<zap c to:=by unfold zap at*;omega
 have f8:zap c to<1440:=by unfold zap;omega
 clear h0;go_enter func188,ntmps188
 go_wp2_with fail;rw[show(to-c+1440)%1440=zap c to from rfl];clear c7;generalize hlne:zap c to=E at*;have c8:=I hlne;clear hlne;obtain⟨zb,sb,b3⟩:=zj8 w s o a l.length cap x y;generalize ((w.alloc (oZ s o a l.length cap)).alloc (oQ x y))=W at*;refine(zkT s o x y l a cap _ hl (hA.1 _ b3)).mono ?_;rintro e F ⟨v,rfl,H,c9⟩;have b4:=ztS b3 c9;clear c9 b3 zb sb;generalize zbu 0 o l x y=L at*;rcases zlW H with⟨rfl,rfl⟩|⟨g,f9,rfl,a8⟩
 . clear H;go_wp2_with fail;go_loop [11,34] (λm i=>m=.slice none 0 0/\i=.int .i64 0) (λ_ _=>0)
   case atStart=>exact⟨rfl,rfl⟩
   obtain⟨rfl,rfl⟩:=hrel;go_wp2
   go_ret2;exact⟨_,by rw[c8.1];rfl,by rw[hz.1];exact⟨rfl,.inl ⟨rfl,rfl⟩⟩,b4⟩
 clear H;go_wp2_with fail
 go_loopw [11,34] (λout i wr=>∃(k:Nat) (v:Value) (R:List (Int×Int)),k<=L.length/\R.length<=k*40000/\i=.int .i64 k/\out=v/\
  wr.ownsRow F.heap.size 144 2 v R.length (zav R)/\ztR (zcE c E L []=zcE c E (L.drop k) R)/\Bw F wr) (λ_ i _=>L.length-(intOf i).toNat)
 case atStart=>exact⟨0,_, [],ztX _,ztY _,rfl,rfl,⟨rfl,.inl ⟨rfl,rfl⟩⟩,I rfl,ztT _ _⟩
 obtain⟨k,v,R,hk,hR,rfl,rfl,H,a9,P⟩:=hrel;by_cases a0:k<L.length
 . obtain⟨c1,c2,c3⟩:=(a8.below P).2 k a0;have g4:=(a8.below P).1;obtain⟨s1,s2,s3,s4,s5⟩:=c6.1 _ (zkW L k a0);obtain⟨e1,e2,e3,e4,e5⟩:=zkV (c6.1 _ (zkW L k a0));have f0:=I (a9.1.trans (zlK a0));have E3:=I e3;clear e3;go_wp2_with (go_at_call 113;refine cb (zkO _ _ (by omega) (by omega)) ?_)
   generalize hwb:wr.alloc (Obj.cells #[.int IntKind.i64 (zdu L k).1,.int IntKind.i64 (zdu L k).2.1,.int IntKind.i64 (zdu L k).2.2] 255)=wb;have d0:Bw wr wb:=by rw[<-hwb];exact J _ _
   have d1:wb.heap[wr.heap.size]?=some (.cells #[.int .i64 (zdu L k).1,.int .i64 (zdu L k).2.1,.int .i64 (zdu L k).2.2] 255):=by rw[<-hwb];exact zh _ _
   have b5:=P.trans (d0.mono P.size);have b6:wb.ownsRow F.heap.size 144 2 u11 R.length (zav R):=by rw[<-hwb];exact H.alloc _
   clear hwb c1 c2 c3 H d0;generalize hg:zdu L k=G at*;rw[show(G.1+G.2.2)/1440-1=zR G from rfl];generalize hlast:(G.2.1-1+G.2.2)/1440=T at*;have Hg:=I hg;have f1:=I hlast;clear hg hlast;generalize hN:segN G=N at*;have HN:=I hN;clear hN;have f2:=I (show zfe G c E R=zdJ G c E N (zR G) R from by unfold zfe;rw[HN.1]);have e3:=E3.1;have e6:(N:Int)<=T-zR G+1:=by omega
   have e7:T-zR G+1<=(N:Int):=by omega
   clear e3;generalize wr.heap.size=bx at*
   go_loopw [11,18] (λout d wi=>∃(j:Nat) (v:Value) (Q:List (Int×Int)),j<=N/\Q.length<=k*40000+j/\d=.int .i64 (zR G+j)/\out=v/\
    wi.ownsRow F.heap.size 144 2 v Q.length (zav Q)/\ztR (zfe G c E R=zdJ G c E (N-j) (zR G+j) Q)/\wi.heap[bx]?=some (.cells #[G.1,G.2.1,G.2.2] 255)/\Bw F wi) (λ_ d _=>(T+1-intOf d).toNat)
   case atStart=>exact⟨0,_,R,ztX _,by omega,by simp,rfl,b6,I (by simpa using f2.1),d1,b5⟩
   obtain⟨j,v,Q,hj,hQ,rfl,rfl,f,a1,n,U⟩:=hrel;by_cases g5:j<N
   . have E1:=I (show N-j-1=N-(j+1)/\zR G+(j:Int)+1=zR G+((j+1:Nat):Int) from by omega);have d2:=I (a1.1.trans (zln (by omega)));by_cases d3:zdK G c (zR G+j)<zee G c E (zR G+j)
     . have a3:=I (d2.1.trans (by rw[zrM d3]));rcases f.2 with⟨rfl,d4⟩|⟨g',a2,g6,rfl,b7,b8⟩
       . obtain rfl:=List.length_eq_zero_iff.1 d4;have M:=I (a3.1.trans (by rw[zci (by simp)]));clear d4;have V:=zbA n 0;have X:=zbA n 1;have Y:=zbA n 2;simp only[List.getElem?_toArray,List.getElem?_cons_zero,List.getElem?_cons_succ]at V X Y;go_wp2_with fail;go_quiet (fail)
         have p:Bw F (wr.drewN nq):=below_drewN U _;have r:(wr.drewN nq).heap[bx]?=_:=n;have b:(wr.drewN nq).ownsRow F.heap.size 144 2 (.slice none 0 0) 0 (zav []):=f;simp only[show(if(zR G+(j:Int))*1440+c-G.2.2<G.1 then G.1 else(zR G+(j:Int))*1440+c-G.2.2)=zdK G c (zR G+j) from rfl,show(if G.2.1<(zR G+(j:Int))*1440+c-G.2.2+E then G.2.1 else(zR G+(j:Int))*1440+c-G.2.2+E)=zee G c E (zR G+j) from rfl];generalize zdK G c (zR G+j)=A at*;generalize zee G c E (zR G+j)=B at*;generalize wr.drewN nq=wd at*;clear V X Y;go_wp2_with (at_builtin;refine wpList_append_own _ rfl _ _ 232 rfl F.heap.size 144 i0 (.agg #[.int .i64 0,.int .i64 0]) 2 16 underlying232 hi b0 b1 b2 rfl (by decide) _ _ _ rfl (b.alloc _) ⟨wd.heap.size,0,none⟩ 1 1 [.int .i64 A,.int .i64 B] rfl rfl ?c1 ?c2 ?c3 ?c4 ?c5 ?_)
         case c1=>exact zaa wd [.int .i64 A,.int .i64 B] 144
         case c2=>intro u hu;simp at hu;rcases hu with rfl|rfl <;> rfl
         case c3=>unfold maxLen;omega
         case c4=>omega
         case c5=>have:=p.size;simp;omega
         intro v' w3 K t _;have z:=zaG (e':=144) p rfl b t;have C:=zfT (zhY r _) t (zne b r);go_wp2_with fail;go_roundw
         case rel=>exact⟨j+1,_, []++ [(A,B)],by omega,by simp;omega,by go_num,rfl,by simpa[zav] using K,I (by rw[M.1,E1.1.1,E1.1.2]),C,z⟩
         case measure=>simp[intOf];omega
       clear b7 b8;by_cases a4:Q.length=0
       . obtain rfl:=List.length_eq_zero_iff.1 a4;have M:=I (a3.1.trans (by rw[zci (by simp)]));clear a4;have V:=zbA n 0;have X:=zbA n 1;have Y:=zbA n 2;simp only[List.getElem?_toArray,List.getElem?_cons_zero,List.getElem?_cons_succ]at V X Y;go_wp2_with fail;go_quiet (fail)
         have p:Bw F (wr.drewN nq):=below_drewN U _;have r:(wr.drewN nq).heap[bx]?=_:=n;have b:(wr.drewN nq).ownsRow F.heap.size 144 2 (.slice (some ⟨g',0,none⟩) 0 a2) 0 (zav []):=f;simp only[show(if(zR G+(j:Int))*1440+c-G.2.2<G.1 then G.1 else(zR G+(j:Int))*1440+c-G.2.2)=zdK G c (zR G+j) from rfl,show(if G.2.1<(zR G+(j:Int))*1440+c-G.2.2+E then G.2.1 else(zR G+(j:Int))*1440+c-G.2.2+E)=zee G c E (zR G+j) from rfl];generalize zdK G c (zR G+j)=A at*;generalize zee G c E (zR G+j)=B at*;generalize wr.drewN nq=wd at*;clear V X Y;go_wp2_with (at_builtin;refine wpList_append_own _ rfl _ _ 232 rfl F.heap.size 144 i0 (.agg #[.int .i64 0,.int .i64 0]) 2 16 underlying232 hi b0 b1 b2 rfl (by decide) _ _ _ rfl (b.alloc _) ⟨wd.heap.size,0,none⟩ 1 1 [.int .i64 A,.int .i64 B] rfl rfl ?c1 ?c2 ?c3 ?c4 ?c5 ?_)
         case c1=>exact zaa wd [.int .i64 A,.int .i64 B] 144
         case c2=>intro u hu;simp at hu;rcases hu with rfl|rfl <;> rfl
         case c3=>unfold maxLen;omega
         case c4=>omega
         case c5=>have:=p.size;simp;omega
         intro v' w3 K t _;have z:=zaG (e':=144) p rfl b t;have C:=zfT (zhY r _) t (zne b r);go_wp2_with fail;go_roundw
         case rel=>exact⟨j+1,_, []++ [(A,B)],by omega,by simp;omega,by go_num,rfl,by simpa[zav] using K,I (by rw[M.1,E1.1.1,E1.1.2]),C,z⟩
         case measure=>simp[intOf];omega
       obtain⟨m,hm⟩:∃m,Q.length=m+1:=⟨Q.length-1,by omega⟩;have a5:=zhm Q m (by omega);have b9:=I (show Q.length-1=m from by omega);by_cases Z:(zaq Q m).2=zdK G c (zR G+j)
       . have M:=I (a3.1.trans (by rw[zbU (by omega) (by rw[b9.1];exact Z),b9.1]));have d5:=I (zkX Q (zee G c E (zR G+j)) m (by omega));have f3:((zaq Q m).2==zdK G c (zR G+j))=true:=by simpa using Z
         have Hm:=I hm;rw[hm]at f hQ;clear Z a4;have D:=(World.ownsRow.cells f (g:=g') rfl) (m*2+1) _ a5.2;rw[zdG]at D;have S:=World.ownsRow.frozenAt f (m*2+1);clear a5 hm;simp only[Hm.1];have V:=zbA n 0;have X:=zbA n 1;have Y:=zbA n 2;simp only[List.getElem?_toArray,List.getElem?_cons_zero,List.getElem?_cons_succ]at V X Y;go_wp2_with fail;go_quiet (fail)
         have p:Bw F (wr.drewN nq):=below_drewN U _;have r:(wr.drewN nq).heap[bx]?=_:=n;have b:(wr.drewN nq).ownsRow F.heap.size 144 2 (.slice (some ⟨g',0,none⟩) (m+1) a2) (m+1) (zav Q):=f;have a6:(wr.drewN nq).cell? ⟨g',m*2+1,none⟩=_:=D;have c0:(wr.drewN nq).frozen? ⟨g',m*2+1,none⟩=false:=S;simp only[show(if(zR G+(j:Int))*1440+c-G.2.2<G.1 then G.1 else(zR G+(j:Int))*1440+c-G.2.2)=zdK G c (zR G+j) from rfl,show(if G.2.1<(zR G+(j:Int))*1440+c-G.2.2+E then G.2.1 else(zR G+(j:Int))*1440+c-G.2.2+E)=zee G c E (zR G+j) from rfl];generalize zdK G c (zR G+j)=A at*;generalize zee G c E (zR G+j)=B at*;generalize wr.drewN nq=wd at*;clear V X Y D S f;go_wp2_with fail;have a7:=b.stored (m*2+1) (.int .i64 B);rw[d5.1]at a7;have z:=p.grown a7.2 p.size (λq hq=>zaM b q hq);have C:=zfT r a7.2 (zne b r);go_roundw
         case rel=>exact⟨j+1,_,Q.set m ((zaq Q m).1,B),by omega,by rw[List.length_set,Hm.1];omega,by go_num,rfl,by rw[List.length_set,Hm.1];exact a7.1,I (by rw[M.1,E1.1.1,E1.1.2]),C,z⟩
         case measure=>simp[intOf];omega
       have M:=I (a3.1.trans (by rw[zci (λh=>Z (by rw[<-h.2,b9.1]))]));have f3:((zaq Q m).2==zdK G c (zR G+j))=false:=by simpa using Z
       have Hm:=I hm;rw[hm]at f hQ;clear Z a4;have D:=(World.ownsRow.cells f (g:=g') rfl) (m*2+1) _ a5.2;rw[zdG]at D;have S:=World.ownsRow.frozenAt f (m*2+1);clear a5 hm;simp only[Hm.1];have V:=zbA n 0;have X:=zbA n 1;have Y:=zbA n 2;simp only[List.getElem?_toArray,List.getElem?_cons_zero,List.getElem?_cons_succ]at V X Y;go_wp2_with fail;go_quiet (fail)
       have p:Bw F (wr.drewN nq):=below_drewN U _;have r:(wr.drewN nq).heap[bx]?=_:=n;have b:(wr.drewN nq).ownsRow F.heap.size 144 2 (.slice (some ⟨g',0,none⟩) (m+1) a2) (m+1) (zav Q):=f;have a6:(wr.drewN nq).cell? ⟨g',m*2+1,none⟩=_:=D;have c0:(wr.drewN nq).frozen? ⟨g',m*2+1,none⟩=false:=S;simp only[show(if(zR G+(j:Int))*1440+c-G.2.2<G.1 then G.1 else(zR G+(j:Int))*1440+c-G.2.2)=zdK G c (zR G+j) from rfl,show(if G.2.1<(zR G+(j:Int))*1440+c-G.2.2+E then G.2.1 else(zR G+(j:Int))*1440+c-G.2.2+E)=zee G c E (zR G+j) from rfl];generalize zdK G c (zR G+j)=A at*;generalize zee G c E (zR G+j)=B at*;generalize wr.drewN nq=wd at*;clear V X Y D S f;go_wp2_with (at_builtin;refine wpList_append_own _ rfl _ _ 232 rfl F.heap.size 144 i0 (.agg #[.int .i64 0,.int .i64 0]) 2 16 underlying232 hi b0 b1 b2 rfl (by decide) _ _ _ rfl (b.alloc _) ⟨wd.heap.size,0,none⟩ 1 1 [.int .i64 A,.int .i64 B] rfl rfl ?c1 ?c2 ?c3 ?c4 ?c5 ?_)
       case c1=>exact zaa wd [.int .i64 A,.int .i64 B] 144
       case c2=>intro u hu;simp at hu;rcases hu with rfl|rfl <;> rfl
       case c3=>unfold maxLen;omega
       case c4=>omega
       case c5=>have:=p.size;simp;omega
       intro v' w3 K t _;have z:=zaG (e':=144) p rfl b t;have C:=zfT (zhY r _) t (zne b r);go_wp2_with fail;go_roundw
       case rel=>exact⟨j+1,_,Q++ [(A,B)],by omega,by rw[zt2,List.length_singleton,Hm.1];omega,by go_num,rfl,by rw[zt2,List.length_singleton,Hm.1,zjo];exact K,I (by rw[M.1,E1.1.1,E1.1.2]),C,z⟩
       case measure=>simp[intOf];omega
     have M:=I (d2.1.trans (by rw[zth d3]));have V:=zbA n 0;have X:=zbA n 1;have Y:=zbA n 2;simp only[List.getElem?_toArray,List.getElem?_cons_zero,List.getElem?_cons_succ]at V X Y;go_wp2_with fail;go_quiet (fail)
     have p:Bw F (wr.drewN nq):=below_drewN U _;have r:(wr.drewN nq).heap[bx]?=_:=n;have b:(wr.drewN nq).ownsRow F.heap.size 144 2 u11 Q.length (zav Q):=f;simp only[show(if(zR G+(j:Int))*1440+c-G.2.2<G.1 then G.1 else(zR G+(j:Int))*1440+c-G.2.2)=zdK G c (zR G+j) from rfl,show(if G.2.1<(zR G+(j:Int))*1440+c-G.2.2+E then G.2.1 else(zR G+(j:Int))*1440+c-G.2.2+E)=zee G c E (zR G+j) from rfl];generalize zdK G c (zR G+j)=A at*;generalize zee G c E (zR G+j)=B at*;go_wp2_with fail;go_roundw
     case rel=>exact⟨j+1,_,Q,by omega,by omega,by go_num,rfl,b,I (by rw[M.1,E1.1.1,E1.1.2]),r,p⟩
     case measure=>simp[intOf];omega
   have f4:=U;have f5:j=N:=by omega
   have d6:=I (a1.1.trans (by rw[f5,Nat.sub_self,zdJ]));go_wp2_with fail;go_roundw
   case rel=>exact⟨k+1,_,Q,by omega,by omega,by go_num,rfl,f,I (by rw[f0.1,d6.1]),U⟩
   case measure=>simp[intOf];omega
 have hf:=I (a9.1.trans (zmH a0));go_wp2_with fail;go_ret2;refine⟨_,by rw[c8.1];rfl,?_,ztS b4 P⟩;rw[hz.1,hf.1];exact zjx H b4.size
def za4:List ByteArray:= [⟨#[98,101,102,111,114,101,46]⟩,⟨#[97,102,116,101,114,46]⟩]
def zeo:List ByteArray:= [⟨#[114,101,115,116]⟩,⟨#[110,105,103,104,116,115]⟩,⟨#[104,111,109,101]⟩]
def rstK(k:Nat):List ByteArray:=zeo++(za4.take k).flatMap λp=>zI.map (p++·)
def rstJ(k j:Nat):List ByteArray:=rstK k++(zI.take j).map (sAt za4 k++·)
theorem zhp(k:Nat):rstJ k 0=rstK k:=by simp[rstJ]
theorem zhq(k j:Nat)(a:j<11):rstJ k (j+1)=rstJ k j++ [sAt za4 k++sAt zI j]:=by
 have:zI.take (j+1)=zI.take j++ [sAt zI j]:=by
  rw[List.take_succ_eq_append_getElem (show j<zI.length from a)];simp[sAt,show j<zI.length from a]
 simp[rstJ,this]
theorem zjq(k:Nat)(a:k<2):rstJ k 11=rstK (k+1):=by
 match k,a with
 |0,_=>rfl
 |1,_=>rfl
theorem zjp(k j:Nat)(b:k<2)(c:j<=11):(rstJ k j).length=3+11*k+j:=by
 have a:zI.length=11:=rfl;match k,b with
 |0,_=>simp[rstJ,rstK,zeo,a];omega
 |1,_=>simp[rstJ,rstK,zeo,za4,a];omega
theorem zfB(k j:Nat):((rstJ k j).map Value.string)[0]?=some (.string ⟨#[114,101,115,116]⟩):=rfl
theorem zjw{w:World}{a:Nat}{e:TypeId}{v:Value}{n:Nat}{j:List Value}(h:w.ownsRow a e 1 v n j){x y:Value}{b:Nat}(c:j[0]?=some x)(d:w.cell? ⟨b,0,none⟩=some y)(f:x≠y):v.ownBlock≠some b:=by
 rcases h.2 with⟨rfl,_⟩|⟨g,l,i,rfl,_,m,_,_,_,o⟩
 . simp[Value.ownBlock]
 intro k;simp[Value.ownBlock]at k
 subst k;have:i[0]?=some x:=by
  rw[<-o]at c;rw[List.getElem?_take]at c;split at c
  . simpa using c
  simp at c
 simp[World.cell?,m]at d
 rw[this]at d;exact f (by simpa using d)
theorem zai.grown{w w':World}{b a:Nat}{l:List ByteArray}{c:Option Nat}(h:zai w b a l)(f:b<w.heap.size)(g:w.grownBy w' c)(d:c≠some b):zai w' b a l:=by
 intro i j;have e:=g.block b f (Ne.symm d);have:=h i j;simp only[World.cell?,e]at this ⊢;exact this
theorem zrv:∀k,k<2->(sAt za4 k).size<=7:=by decide
theorem zhN:∀k,k<11->(sAt zI k).size<=8:=by decide
theorem zmh:(prog.info? 9).map (λi=>(i.zero,i.size,i.bytes))=some (some (.string ByteArray.empty),1,16):=by kernel_rfl
theorem zeH(w:World):Calls prog 67 #[.int .i64 2] w λe w'=>∃v,e=.returned v/\w'.ownsRow w.heap.size 9 1 v 25 (zbC.map Value.string)/\Bw w w':=by
 obtain⟨Z,hi,N,P,Q⟩:=info_parts zmh;go_enter func67,ntmps67
 go_wp2_with fail;obtain⟨W,R⟩:∃W,W=((w.alloc (.cells (zeo.map Value.string).toArray 9)).alloc (.cells (za4.map Value.string).toArray 9)):=⟨_,rfl⟩
 have p:=I (show World.ownsRow ((w.alloc (.cells (zeo.map Value.string).toArray 9)).alloc (.cells (za4.map Value.string).toArray 9)) w.heap.size 9 1 (.slice (some ⟨w.heap.size,0,none⟩) 3 3) 3 ((rstK 0).map Value.string) from by
  refine⟨rfl,.inr ⟨w.heap.size,3,(zeo.map Value.string).toArray,rfl,ztY _,?_,ztY _,by decide,rfl,rfl⟩⟩;show((w.heap.push _).push _)[w.heap.size]?=_
  simp[Array.getElem?_push])
 have q:=I (zai.new (w.alloc (.cells (zeo.map Value.string).toArray 9)) za4 9);have x:=I (ztS (J w (.cells (zeo.map Value.string).toArray 9)) (J _ (.cells (za4.map Value.string).toArray 9)));have y:w.heap.size+1<((w.alloc (.cells (zeo.map Value.string).toArray 9)).alloc (.cells (za4.map Value.string).toArray 9)).heap.size:=by simp
 rw[show(w.alloc (.cells (zeo.map Value.string).toArray 9)).heap.size=w.heap.size+1 from by simp]at q;rw[<-R]at p q x y;change Code.wp _ _ _ _ ((w.alloc (.cells (zeo.map Value.string).toArray 9)).alloc (.cells (za4.map Value.string).toArray 9))
 rw[<-R];clear R;go_loopw [3,17] (λout i wr=>∃(k:Nat) (v:Value),k<=2/\i=.int .i64 k/\out=v/\ztR (wr.ownsRow w.heap.size 9 1 v (rstK k).length ((rstK k).map Value.string))/\ztR (zai wr (w.heap.size+1) 0 za4)/\w.heap.size+1<wr.heap.size/\ztR (Bw w wr)) (λ_ i _=>2-(intOf i).toNat)
 case atStart=>exact⟨0,_,ztX _,rfl,rfl,p,q,y,x⟩
 clear p q x y;clear W;obtain⟨k,v,hk,rfl,rfl,d,o,y,l⟩:=hrel;by_cases m:k<2
 . have c1:=o.1 k m;rw[Nat.zero_add]at c1;have V:(k:Int)<2:=by omega
   go_wp2_with fail;refine(zdp _).mono ?_;rintro e r ⟨⟨cp,rfl⟩,c,s,n⟩;have S:=I s;have q:=I (o.1.below y n);have x:=I (ztS l.1 n);have p:=I (zbQ d.1 l.1 n);rw[<-zhp k]at p;have f:w.heap.size+1<r.heap.size:=by omega
   clear s n d o l c1;obtain⟨b,T⟩:∃b,b=wr.heap.size:=⟨_,rfl⟩;rw[<-T]at c S y;simp only[<-T];clear T;clear wr;go_wp2_with fail;go_loopw [3,23] (λout i wr=>∃(j:Nat) (v:Value),j<=11/\i=.int .i64 j/\out=v/\ztR (wr.ownsRow w.heap.size 9 1 v (rstJ k j).length ((rstJ k j).map Value.string))/\ztR (zai wr (w.heap.size+1) 0 za4)/\ztR (zai wr b 0 zI)/\(w.heap.size+1<wr.heap.size/\b<wr.heap.size)/\ztR (Bw w wr)) (λ_ i _=>11-(intOf i).toNat)
   case atStart=>exact⟨0,_,ztX _,rfl,rfl,p,q,S,⟨f,c⟩,x⟩
   clear p q S f c x;clear r;obtain⟨j,v,hj,rfl,rfl,d,o,s,⟨c,f⟩,l⟩:=hrel;by_cases t:j<11
   . have c1:=s.1 j t;rw[Nat.zero_add]at c1;have X:(j:Int)<11:=by omega
     have z:=zjw d.1 (zfB k j) (s.1 0 (by decide)) (by simp[sAt,zI]);have A:=zjw d.1 (zfB k j) (o.1 0 (by decide)) (by simp[sAt,za4]);have g:=I (zjp k j m hj);have B:(sAt za4 k).size<=7:=zrv k m;have C:(sAt zI j).size<=8:=zhN j t;have D:((sAt za4 k).size:Int)+((sAt zI j).size:Int)<=9223372036854775807:=by omega
     have E:(sAt za4 k).size+(sAt zI j).size<=9223372036854775807:=by omega
     go_wp2_with (at_builtin;refine wpList_append_own _ rfl _ _ 140 rfl w.heap.size 9 Z (.string ByteArray.empty) 1 16 underlying140 hi N P Q rfl (by decide) _ _ _ rfl (d.1.alloc _) ⟨wr.heap.size,0,none⟩ 1 1 [.string (sAt za4 k++sAt zI j)] rfl rfl ?c1 ?c2 ?c3 ?c4 ?c5 ?_)
     case c1=>exact zaa wr [.string (sAt za4 k++sAt zI j)] 9
     case c2=>intro u Y;simp at Y;subst Y;rfl
     case c3=>rw[g.1];unfold maxLen;omega
     case c4=>rw[g.1];omega
     case c5=>have:=l.1.size;simp;omega
     intro v' r h a _;have F:=I (zaG (e':=9) l.1 rfl d.1 a);have G:=I ((o.1.below c (J _ _)).grown (by simp;omega) a A);have H:=I ((s.1.below f (J _ _)).grown (by simp;omega) a z);have U:wr.heap.size<=r.heap.size:=ztV (by simp) a.size;have K:w.heap.size+1<r.heap.size:=by omega
     have L:b<r.heap.size:=by omega
     have M:=I (show r.ownsRow w.heap.size 9 1 v' (rstJ k (j+1)).length ((rstJ k (j+1)).map Value.string) by
      rw[zhq k j t,zt2,zt3];exact h)
     clear h a z A g B C D E d o s l c f U c1;go_wp2_with fail;go_roundw
     case rel=>first|exact⟨j+1,_,by omega,by go_num,rfl,M,G,H,⟨K,L⟩,F⟩|((repeat apply Exists.intro);exact⟨⟨j+1,_,by omega,by go_num,rfl,M,G,H,⟨K,L⟩,F⟩,rfl⟩)
     case measure=>simp[intOf];omega
   obtain rfl:j=11:=by omega
   rw[zjq k m]at d;go_wp2_with fail;go_roundw
   case rel=>exact⟨k+1,_,by omega,by go_num,rfl,d,o,c,l⟩
   case measure=>simp[intOf];omega
 obtain rfl:k=2:=by omega
 go_wp2_with fail;go_ret;exact⟨_,rfl,d.1,l.1⟩
def wi(l:List ByteArray)(s:ByteArray):Option Nat:=l.findIdx? λx=>decide (x=s)
def plA(k:Int)(s:ByteArray):Option Nat:=wi (zk k) s
mutual
def cmpE(cv:ByteArray->Int)(sc:Int):zH->zE
 | .mk o n s l=>if o=1\/o=2\/o=3 then .mk 1 n [] else if o=4 then .mk 1 1 [] else if o=5 then .mk 1 0 []
  else if o=6 then(match plA sc s with|some i=>.mk 6 i []|none=>.mk 1 (cv s) []) else .mk o 0 (cmpL cv sc l)
def cmpL(cv:ByteArray->Int)(sc:Int):List zH->List zE
 |[]=> []
 |x::l=>cmpE cv sc x::cmpL cv sc l
end
theorem zc5(a:ByteArray->Int)(b:Int):∀l,(cmpL a b l).length=l.length
 |[]=>rfl
 |x::l=>by rw[cmpL,List.length_cons,List.length_cons,zc5 a b l]
theorem zfQ(a:ByteArray->Int)(b:Int):∀(l:List zH) (k:Nat),k<l.length->cmpL a b (l.take (k+1))=cmpL a b (l.take k)++ [cmpE a b (eAt l k)]
 |[],k,h=>by simp at h
 |x::l,0,h=>by simp[cmpL,eAt]
 |x::l,k+1,h=>by
  have:=zfQ a b l k (by simpa using h);simp only[List.take_succ_cons,cmpL,List.cons_append]at this ⊢;rw[this];rfl
def cvU(l:List zB)(T:List Int)(s:ByteArray):Int:=match fi l s with
 |some i=>T.getD i 0
 |none=>0
def tabV(l:List zB):Nat->List Int
 |0=> []
 |i+1=>tabV l i++ [fval [] (cmpE (cvU l (tabV l i)) 0 (csAt l i).ex)]
def cval(l:List zB)(i:Nat):Int:=fval [] (cmpE (cvU l (tabV l i)) 0 (csAt l i).ex)
def cvC(l:List zB)(n:Nat)(s:ByteArray):Int:=match fi l s with
 |some i=>if i<n then cval l i else 0
 |none=>0
theorem zcV(l:List zB)(n:Nat):(tabV l n).length=n:=by
 induction n with
 |zero=>rfl
 |succ n ih=>simp[tabV,ih]
theorem zmY(l:List zB)(n i:Nat):(tabV l n).getD i 0=if i<n then cval l i else 0:=by
 by_cases h:i<n
 . rw[if_pos h];induction n with
   |zero=>omega
   |succ n ih=>
    rw[tabV,zt0];by_cases e:i=n
    . subst e;rw[zt9 (by rw[zcV];exact ztY _),zcV];simp[cval]
    rw[zt8 (by rw[zcV];omega),<-zt0];exact ih (by omega)
 rw[if_neg h,zt0,List.getElem?_eq_none (by rw[zcV];omega)];rfl
theorem cvU_eq(l:List zB)(n:Nat):cvU l (tabV l n)=cvC l n:=by
 funext s
 unfold cvU cvC
 cases fi l s with
 |none=>rfl
 |some i=>exact zmY l n i
theorem zmt(l:List zB)(i:Nat):cval l i=fval [] (cmpE (cvC l i) 0 (csAt l i).ex):=by rw[cval,cvU_eq]
def WIdx(w:World)(b:Nat)(l:List ByteArray):Prop:=∃M,zaT prog w b .string M/\∀s,mget M (.string s)=(wi l s).map λi=>Value.int .i64 i
theorem WIdx.below{w w':World}{b:Nat}{l:List ByteArray}(h:WIdx w b l)(a:Bw w w'):WIdx w' b l:=by
 obtain⟨M,c,d⟩:=h;exact⟨M,c.below a,d⟩
theorem WIdx.grown{w w':World}{b:Nat}{l:List ByteArray}{a:Option Nat}(h:WIdx w b l)(d:w.grownBy w' a)(c:some b≠a):WIdx w' b l:=by
 obtain⟨M,e,f⟩:=h;exact⟨M,e.grown d c,f⟩
theorem WIdx.lt{w:World}{b:Nat}{l:List ByteArray}(h:WIdx w b l):b<w.heap.size:=by
 obtain⟨M,a,c⟩:=h;exact a.lt
def wiN(l:List ByteArray)(s:ByteArray):Nat:=(wi l s).getD 0
def wiB(l:List ByteArray)(s:ByteArray):Bool:=(wi l s).isSome
theorem zsU{w:World}{b:Nat}{l:List ByteArray}(h:WIdx w b l)(s:ByteArray):(Instr.lookup 181 (.map (some b)) (.string s) true).run prog w=.ok (.tuple #[(wiN l s),.bool (wiB l s)]) w:=by
 obtain⟨M,a,c⟩:=h;rw[zcW underlying181 underlying9 a (key:=.string s) trivial (zi4 _),c];unfold wiN wiB
 cases wi l s <;> rfl
theorem zsu{l:List ByteArray}{k:Nat}(a:k<l.length)(s:ByteArray):wi (l.take (k+1)) s=match wi (l.take k) s with|some i=>some i|none=>if sAt l k=s then some k else none:=by
 have e:l.take (k+1)=l.take k++ [sAt l k]:=by
  rw[List.take_succ_eq_append_getElem a,sAt,zt0,zt1 a];rfl
 unfold wi
 rw[e,List.findIdx?_append];cases c:(l.take k).findIdx? (λx=>decide (x=s)) with
 |some i=>simp
 |none=>
  have:(l.take k).length=k:=by simp;omega
  by_cases b:sAt l k=s <;> simp[b,this]
def once(l:List ByteArray):Bool:=(List.range l.length).all λj=>(wi (l.take j) (sAt l j)).isNone
theorem zsJ{l:List ByteArray}(h:once l=true){k:Nat}(a:k<l.length):wi (l.take k) (sAt l k)=none:=by
 have:=List.all_eq_true.1 h k (List.mem_range.2 a);simpa using this
theorem zpY:once zI=true:=by decide+kernel
theorem zpW:once zbC=true:=by decide+kernel
theorem zpX:once zcm=true:=by decide+kernel
theorem zpZ(k:Int):once (zk k)=true:=by
 unfold zk
 split
 . exact zpY
 split
 . exact zpW
 split
 . exact zpX
 rfl
theorem put_wi{w:World}{b:Nat}{l:List ByteArray}{k:Nat}(h:WIdx w b (l.take k))(c:k<l.length)(d:once l=true):
 ∃a,(Instr.mapUpdate 181 (.map (some b)) (.string (sAt l k)) (.int .i64 k)).run prog w=.ok () a/\WIdx a b (l.take (k+1))/\w.grownBy a (some b):=by
 obtain⟨M,f,g⟩:=h;obtain⟨a,j,m,n⟩:=zc8 underlying181 underlying9 f (key:=.string (sAt l k)) (.int .i64 k) trivial;refine⟨a,j,⟨_,m,λs=>?_⟩,n⟩;rw[zb8,g,zsu c];by_cases e:sAt l k=s
 . subst e;rw[if_pos rfl,zsJ d c];simp
 rw[if_neg e];cases wi (l.take k) s with
 |none=>simp[e]
 |some i=>rfl
def zcP(w:World)(b:Nat)(l:List zB):Prop:=∃M,zaT prog w b (.int .i64) M/\∀(i:Nat) v,mget M (.int .i64 i)=some v->v=.int .i64 (cval l i)
theorem zcP.below{w w':World}{b:Nat}{l:List zB}(h:zcP w b l)(a:Bw w w'):zcP w' b l:=by
 obtain⟨M,c,d⟩:=h;exact⟨M,c.below a,d⟩
theorem zcP.grown{w w':World}{b:Nat}{l:List zB}{a:Option Nat}(h:zcP w b l)(d:w.grownBy w' a)(c:some b≠a):zcP w' b l:=by
 obtain⟨M,e,f⟩:=h;exact⟨M,e.grown d c,f⟩
theorem zcP.lt{w:World}{b:Nat}{l:List zB}(h:zcP w b l):b<w.heap.size:=by
 obtain⟨M,a,c⟩:=h;exact a.lt
theorem zrA{w:World}{b:Nat}{l:List zB}(h:zcP w b l)(i:Nat):(Instr.lookup 182 (.map (some b)) (.int .i64 i) true).run prog w=.ok (.tuple #[(cval l i),.bool true]) w\/(Instr.lookup 182 (.map (some b)) (.int .i64 i) true).run prog w=.ok (.tuple #[.int .i64 0,.bool false]) w:=by
 obtain⟨M,c,d⟩:=h;have e:=zcW underlying182 underlying3 c (key:=.int .i64 i) rfl (zi4 _);cases a:mget M (.int .i64 i) with
 |none=>rw[a]at e;exact .inr e
 |some v=>
  rw[a]at e;obtain rfl:=d i v a;exact .inl e
theorem zsG{w:World}{b:Nat}{l:List zB}(h:zcP w b l)(i:Nat):
 ∃a,(Instr.mapUpdate 182 (.map (some b)) (.int .i64 i) (.int .i64 (cval l i))).run prog w=.ok () a/\zcP a b l/\w.grownBy a (some b):=by
 obtain⟨M,c,d⟩:=h;obtain⟨a,f,g,k⟩:=zc8 underlying182 underlying3 c (key:=.int .i64 i) (.int .i64 (cval l i)) rfl;refine⟨a,f,⟨_,g,λj v hj=>?_⟩,k⟩;rw[zfJ M i j _ c.2]at hj;by_cases e:(i:Int)=j
 . rw[if_pos e]at hj;obtain rfl:i=j:=by omega
   exact(Option.some.inj hj).symm
 rw[if_neg e]at hj;exact d j v hj
def cmpA(v0 v1 v2:Value)(ps:List Nat):Array Value:=(v0::v1::v2::(ps.map (λb=>Value.map (some b))++List.replicate (4-ps.length) (Value.map none))).toArray
def pAt(ps:List Nat)(k:Nat):Nat:=ps.getD k 0
theorem zqT(b c d:Value)(a:List Nat)(h:a.length<4):(cmpA b c d a)[3+a.length]?=some (Value.map none):=by
 unfold cmpA
 rw[Nat.add_comm 3];simp only[List.getElem?_toArray,List.getElem?_cons_succ];rw[zt9 (by simp),List.length_map,Nat.sub_self,List.getElem?_replicate,if_pos (by omega)]
theorem zqU(b c d:Value)(a:List Nat)(k:Nat)(h:k<a.length):(cmpA b c d a)[3+k]?=some (Value.map (some (pAt a k))):=by
 unfold cmpA
 rw[Nat.add_comm 3];simp only[List.getElem?_toArray,List.getElem?_cons_succ];rw[zt8 (by simpa using h)];simp[pAt,h]
theorem zrT(d e f:Value)(a:List Nat)(b:Nat)(h:a.length<4):(cmpA d e f a).setIfInBounds (3+a.length) (Value.map (some b))=cmpA d e f (a++ [b]):=by
 obtain⟨m,g⟩:∃m,4-a.length=m+1:=⟨4-a.length-1,by omega⟩;have c:4-(a++ [b]).length=m:=by simp;omega
 unfold cmpA
 rw[g,c,List.replicate_succ,Nat.add_comm 3];simp
structure zbo(B:Nat)(w:World)(kp ib vb:Nat)(ps:List Nat)(l:List zB)(a:zua)(cap:Nat):Prop where
 bp:B<=kp
 bi:B<=ib
 bv:B<=vb
 pv:kp≠vb
 iv:ib≠vb
 plen:ps.length=4
 psv:∀k,k<4->pAt ps k≠vb
 box:w.heap[kp]?=some (.cells (cmpA (.slice a l.length cap) (.map (some ib)) (.map (some vb)) ps) 185 (0,0))
 idx:zdM w ib l
 vals:zcP w vb l
 places:∀k:Nat,k<4->WIdx w (pAt ps k) (zk k)
 consts:zbd B w a l
theorem zbo.lt{B:Nat}{w:World}{b c d:Nat}{e:List Nat}{l:List zB}{a:zua}{cap:Nat}(h:zbo B w b c d e l a cap):b<w.heap.size/\c<w.heap.size/\d<w.heap.size:=⟨ztW h.box,h.idx.lt,h.vals.lt⟩
theorem zbo.below{B:Nat}{w w':World}{c d e:Nat}{f:List Nat}{l:List zB}{a:zua}{cap:Nat}(h:zbo B w c d e f l a cap)(b:Bw w w'):zbo B w' c d e f l a cap where
 bp:=h.bp
 bi:=h.bi
 bv:=h.bv
 pv:=h.pv
 iv:=h.iv
 plen:=h.plen
 psv:=h.psv
 box:=(b.block _ h.lt.1).trans h.box
 idx:=h.idx.below b
 vals:=h.vals.below b
 places:=λk hk=>(h.places k hk).below b
 consts:=h.consts.keep (b.mono (ztV h.bp (Nat.le_of_lt h.lt.1))) (zbs.keep (b.mono (ztV h.bp (Nat.le_of_lt h.lt.1))))
theorem zbo.grown{B:Nat}{w w':World}{e f b:Nat}{g:List Nat}{l:List zB}{a:zua}{cap:Nat}(h:zbo B w e f b g l a cap)(c:w.grownBy w' (some b))(d:zcP w' b l):zbo B w' e f b g l a cap where
 bp:=h.bp
 bi:=h.bi
 bv:=h.bv
 pv:=h.pv
 iv:=h.iv
 plen:=h.plen
 psv:=h.psv
 box:=(c.block _ h.lt.1 (by simpa using h.pv)).trans h.box
 idx:=h.idx.grown c (by simpa using h.iv)
 vals:=d
 places:=λk d=>(h.places k d).grown c (by simpa using h.psv k d)
 consts:=by
  have:Below B w w':=(ztT B w).grown c (ztV h.bp (Nat.le_of_lt h.lt.1)) (λj hj=>by cases hj;exact h.bv);exact h.consts.keep this (zbs.keep this)
theorem zbo.other{B:Nat}{w w':World}{d e f:Nat}{g:List Nat}{l:List zB}{a:zua}{cap:Nat}{b:Option Nat}(h:zbo B w d e f g l a cap)(c:w.grownBy w' b)(i:∀j,b=some j->B<=j)(m:some d≠b)(n:some e≠b)(o:some f≠b)(p:∀k,k<4->some (pAt g k)≠b):zbo B w' d e f g l a cap where
 bp:=h.bp
 bi:=h.bi
 bv:=h.bv
 pv:=h.pv
 iv:=h.iv
 plen:=h.plen
 psv:=h.psv
 box:=(c.block _ h.lt.1 m).trans h.box
 idx:=h.idx.grown c n
 vals:=h.vals.grown c o
 places:=λk hk=>(h.places k hk).grown c (p k hk)
 consts:=by
  have:Below B w w':=(ztT B w).grown c (ztV h.bp (Nat.le_of_lt h.lt.1)) i;exact h.consts.keep this (zbs.keep this)
def zej(w:World)(a:zua)(l:List ByteArray):Prop:=l= []\/∃b off,a=some ⟨b,off,none⟩/\b<w.heap.size/\zai w b off l
theorem zej.below{w w':World}{a:zua}{l:List ByteArray}(h:zej w a l)(d:Bw w w'):zej w' a l:=by
 rcases h with h|⟨b,c,f,e,g⟩
 . exact .inl h
 exact .inr ⟨b,c,f,ztU e d.size,g.below e d⟩
theorem zej.cells{w:World}{a:zua}{l:List ByteArray}(h:zej w a l)(c:0<l.length):∃b off,a=some ⟨b,off,none⟩/\b<w.heap.size/\zai w b off l:=by
 rcases h with rfl|h
 . simp at c
 exact h
theorem zej.of_own{w:World}{c:Nat}{e:TypeId}{v:Value}{l:List ByteArray}(h:w.ownsRow c e 1 v l.length (l.map Value.string))(r:0<l.length):∃a d,v=.slice a l.length d/\zej w a l/\∃b,a=some ⟨b,0,none⟩/\c<=b:=by
 rcases h.2 with⟨_,s⟩|⟨g,d,f,rfl,k,j,m,n,o,p⟩
 . omega
 refine⟨_,_,rfl,.inr ⟨g,0,rfl,ztW j,λi hi=>?_⟩,g,rfl,k⟩;have e:(f.toList.take (l.length*1))[i]?=some (.string (sAt l i)):=by
  rw[p];simp[sAt,hi]
 rw[List.getElem?_take,if_pos (by omega)]at e;have q:f[0+i]?=some (.string (sAt l i)):=by rw[Nat.zero_add];simpa using e
 exact zm j q
def zeX(k:Int)(w:World)(e:Ending)(w':World):Prop:=∃a cap,e=.returned (.slice a (zk k).length cap)/\zej w' a (zk k)/\Below w.heap.size w w'
theorem zit(k:Nat)(h:k<4)(w:World):Calls prog 67 #[k] w (zeX k w):=by
 obtain rfl|rfl|rfl|rfl:k=0\/k=1\/k=2\/k=3:=by omega
 . refine cb (zh4 w) ?_;exact⟨none,0,rfl,.inl rfl,ztT _ _⟩
 . refine(zdp w).mono ?_;rintro e g ⟨⟨b,rfl⟩,c,d,f⟩;exact⟨_,b,rfl,.inr ⟨_,0,rfl,c,d⟩,f⟩
 . refine(zeH w).mono ?_;rintro e g ⟨v,rfl,c,d⟩;obtain⟨a,b,rfl,f,_⟩:=zej.of_own (l:=zbC) c (by decide);exact⟨a,b,rfl,f,d⟩
 refine(zeI w).mono ?_;rintro e g ⟨⟨b,rfl⟩,c,d,f⟩;exact⟨_,b,rfl,.inr ⟨_,0,rfl,c,d⟩,f⟩
theorem zdF(k:Int):(zk k).length<=25:=by
 unfold zk
 split
 . decide
 split
 . decide
 split <;> decide
theorem zai.kept{w w':World}{b a:Nat}{l:List ByteArray}{c:Nat}(h:zai w b a l)(f:b<w.heap.size)(g:w.grownBy w' (some c))(d:b≠c):zai w' b a l:=h.grown f g (by simpa using λe=>d e.symm)
def NewCmp(B:Nat)(w:World)(l:List zB)(a:zua)(cap:Nat)(e:Ending)(w':World):Prop:=∃kp ib vb ps,e=.returned (.pointer (some ⟨kp,0,none⟩))/\zbo B w' kp ib vb ps l a cap/\(w.heap.size<=kp/\w.heap.size<=ib/\w.heap.size<=vb/\∀k,k<4->w.heap.size<=pAt ps k)/\Below w.heap.size w w'
theorem znd(a:List Nat)(b:Nat)(k:Nat)(c:k<(a++ [b]).length):pAt (a++ [b]) k=if k<a.length then pAt a k else b:=by
 unfold pAt
 by_cases h:k<a.length
 . rw[if_pos h];simp only[zt0];rw[zt8 h]
 rw[if_neg h];simp only[zt0];have:k=a.length:=by simp at c;omega
 subst this;simp
def zki(w0:Nat)(w:World)(ps:List Nat):Prop:=∀k:Nat,k<ps.length->WIdx w (pAt ps k) (zk k)/\w0+2<pAt ps k
theorem zki.below{a:Nat}{w w':World}{b:List Nat}(h:zki a w b)(c:Bw w w'):zki a w' b:=λk hk=>⟨(h k hk).1.below c,(h k hk).2⟩
theorem zki.grown{d:Nat}{w w':World}{b:List Nat}{a:Nat}(h:zki d w b)(e:w.grownBy w' (some a))(c:∀k,k<b.length->pAt b k≠a):zki d w' b:=λk hk=>⟨(h k hk).1.grown e (by simpa using c k hk),(h k hk).2⟩
theorem zhy(l:List zB)(a:zua)(cap:Nat)(w:World)(B:Nat)(hB:B<=w.heap.size)(ha:zbd B w a l):
 Calls prog 58 #[.slice a l.length cap] w (NewCmp B w l a cap):=by
 have hl:=ha.1;have HA:=I ha;have c8:=zqb;have b5:=zqc;clear ha;go_enter func58,ntmps58
 go_wp2_with fail;obtain⟨W,S⟩:∃W,W=((w.alloc (.map #[] 0)).alloc (.map #[] 0)).alloc (Obj.cells #[.slice a l.length cap,Value.map (some w.heap.size),Value.map (some (w.heap.size+1)),Value.map none,Value.map none,Value.map none,Value.map none] 185):=⟨_,rfl⟩;have HB:=I (ztS (J w (.map #[] 0)) (ztS (J _ (.map #[] 0)) (J _ (Obj.cells #[.slice a l.length cap,Value.map (some w.heap.size),Value.map (some (w.heap.size+1)),Value.map none,Value.map none,Value.map none,Value.map none] 185))));have HI:=I (show zdM W w.heap.size (l.take 0) from⟨[],by rw[S];exact((zaT.made prog w .string).alloc _).alloc _,λs=>by simp[mget,fi]⟩);have HK:=I (show zcP W (w.heap.size+1) l from⟨[],by rw[S];have:=(zaT.made prog (w.alloc (.map #[] 0)) (.int .i64)).alloc (Obj.cells #[.slice a l.length cap,Value.map (some w.heap.size),Value.map (some (w.heap.size+1)),Value.map none,Value.map none,Value.map none,Value.map none] 185);rwa [zr]at this,λi v hv=>by simp[mget]at hv⟩);have HP:=I (show W.heap[w.heap.size+2]?=some (Obj.cells (cmpA (.slice a l.length cap) (.map (some w.heap.size)) (.map (some (w.heap.size+1))) []) 185 (0,0)) by rw[S];have:=zh ((w.alloc (.map #[] 0)).alloc (.map #[] 0)) (Obj.cells #[.slice a l.length cap,Value.map (some w.heap.size),Value.map (some (w.heap.size+1)),Value.map none,Value.map none,Value.map none,Value.map none] 185);rwa [zr,zr]at this);rw[<-S]at HB;simp only[<-S];clear S b5;go_loopw [18] (λi wr=>∃(k:Nat),k<=l.length/\i=.int .i64 k/\ztR (zdM wr w.heap.size (l.take k))/\ztR (zcP wr (w.heap.size+1) l)/\ztR (wr.heap[w.heap.size+2]?=some (Obj.cells (cmpA (.slice a l.length cap) (.map (some w.heap.size)) (.map (some (w.heap.size+1))) []) 185 (0,0)))/\ztR (Bw w wr)) (λi _=>l.length-(intOf i).toNat)
 case atStart=>exact⟨0,ztX _,rfl,HI,HK,HP,HB⟩
 clear HI HK HP HB W;obtain⟨k,Z,rfl,P,Q,q,d⟩:=hrel;by_cases t:k<l.length
 . have a7:=HA.1;obtain⟨b,y,rfl,hb,D⟩:=a7.cells (by omega);obtain⟨c0,s1,a2,o,⟨c1,c2,c3,c4⟩,a8,a1⟩:=(D k t).keep (d.1.mono hB) b _ _ hb;have c9:b<wr.heap.size:=by have:=d.1.size;omega
   have a3:=ztW q.1;clear a1 D a8 a7;have z:=I (P.1.below (J wr (oN (csAt l k) a2 o)));have E:=I (Q.1.below (J wr (oN (csAt l k) a2 o)));have r:=I (zd (o':=(oN (csAt l k) a2 o)) q.1);have F:=I (ztS d.1 (J wr (oN (csAt l k) a2 o)));have q0:=I (zh wr (oN (csAt l k) a2 o));go_wp2_with fail;generalize hW1:wr.alloc (oN (csAt l k) a2 o)=R at*;have z1:R.cell? ⟨w.heap.size+2,1,none⟩=some (.map (some w.heap.size)):=zm r.1 rfl;have z2:R.cell? ⟨wr.heap.size,0,none⟩=some (.string (csAt l k).name):=zm q0.1 rfl;have zs:=ztW q0.1;have L1:=λn=>zgW (w:=R.drewN n) (z.1.below (below_drewN (ztT _ _) n)) (csAt l k).name
   clear hW1 P Q q d c0 c1 c2 c3 c4;go_quiet (fail)
   have a9:=I (z.1.below (below_drewN (ztT _ _) nq));have b0:=I (E.1.below (below_drewN (ztT _ _) nq));have T:=I (((below_drewN (ztT R.heap.size R) nq).block _ (by omega)).trans r.1);have q2:=I (((below_drewN (ztT R.heap.size R) nq).block _ zs).trans q0.1);have a4:=I (ztS F.1 (below_drewN (ztT _ _) nq));clear L1 z1 z2 z E r F q0 zs;generalize R.drewN nq=W2 at*;clear R;cases e1:fiB (l.take k) (csAt l k).name
   . go_wp2_with fail;have z1:W2.drew.cell? ⟨w.heap.size+2,1,none⟩=some (.map (some w.heap.size)):=zm T.1 rfl;have z2:W2.drew.cell? ⟨wr.heap.size,0,none⟩=some (.string (csAt l k).name):=zm q2.1 rfl;have d0:W2.cell? ⟨w.heap.size+2,1,none⟩=some (.map (some w.heap.size)):=zm T.1 rfl;have d1:W2.cell? ⟨wr.heap.size,0,none⟩=some (.string (csAt l k).name):=zm q2.1 rfl;obtain⟨w3,P1,I3,G⟩:=zpL (w:=W2.drew) (a9.1.below (ztT _ _).drew) t e1;have x:=I I3;have H:=I ((b0.1.below (ztT _ _).drew).grown G (by simp));have K:=I ((G.block _ (ztW T.1) (by simp)).trans T.1);have L:=I (a4.1.drew.grown G a4.1.size (by simp));clear I3 G;go_still_tail 7,(by kernel_rfl)
     change wpList _ _ _ _ _ W2.drew
     go_wp2_with fail;go_roundw
     case rel=>exact⟨k+1,by omega,by go_num,x,H,K,L⟩
     case measure=>simp[intOf];omega
   have x:=I (znk a9.1 t e1);go_wp2_with fail;go_roundw
   case rel=>exact⟨k+1,by omega,by go_num,x,b0,T,a4⟩
   case measure=>simp[intOf];omega
 obtain rfl:k=l.length:=by omega
 have HI:=I P.1;rw[List.take_length]at HI;clear P Z t;go_wp2_with fail;obtain⟨w0,rfl⟩:∃w0:World,w0=wr:=⟨_,rfl⟩;go_loopw [43] (λi wr=>∃(k:Nat) (N:List Nat),k<=4/\i=.int .i64 k/\ztR (N.length=k)/\ztR (zdM wr w.heap.size l)/\ztR (zcP wr (w.heap.size+1) l)/\ztR (wr.heap[w.heap.size+2]?=some (Obj.cells (cmpA (.slice a l.length cap) (.map (some w.heap.size)) (.map (some (w.heap.size+1))) N) 185 (0,0)))/\ztR (zki w.heap.size wr N)/\ztR (Bw w wr)) (λi _=>4-(intOf i).toNat)
 case atStart=>exact⟨0, [],by omega,rfl,I rfl,HI,Q,q,I (λk Z=>by simp at Z),d⟩
 clear HI Q q d w0;obtain⟨k,N,Z,rfl,f,P,Q,q,g,d⟩:=hrel;by_cases t:k<4
 . have c5:(k:Int)<4:=by omega
   have d2:(0:Int)<=(k:Int):=by omega
   have a3:=ztW q.1;have z0:wr.cell? ⟨w.heap.size+2,3+k,none⟩=some (.map none):=by have:=zqT (.slice a l.length cap) (.map (some w.heap.size)) (.map (some (w.heap.size+1))) N (by rw[f.1];exact t);rw[f.1]at this;exact zm q.1 this
   have z1:wr.frozen? ⟨w.heap.size+2,3+k,none⟩=false:=zQ q.1;go_wp2_with fail;have G1:=Lib.grownBy_setCell wr (w.heap.size+2) (3+k) (.map (some wr.heap.size));have C:(wr.setCell ⟨w.heap.size+2,3+k,none⟩ (.map (some wr.heap.size))).heap.size=wr.heap.size:=by simp
   have QP:=zg (i:=3+k) (u:=.map (some wr.heap.size)) q.1;have U:=zrT (.slice a l.length cap) (.map (some w.heap.size)) (.map (some (w.heap.size+1))) N wr.heap.size (by rw[f.1];exact t);rw[f.1]at U;rw[U]at QP;obtain⟨ws,b1⟩:∃ws,ws=wr.setCell ⟨w.heap.size+2,3+k,none⟩ (.map (some wr.heap.size)):=⟨_,rfl⟩;have z:=I ((P.1.grown G1 (by simp)).below (J _ (.map #[] 0)));have E:=I ((Q.1.grown G1 (by simp)).below (J _ (.map #[] 0)));have V:=I ((g.1.grown G1 (λj hj=>by have:=(g.1 j hj).2;omega)).below (J _ (.map #[] 0)));have r:=I (zd (o':=.map #[] 0) QP);have X:=I (zaT.made prog (wr.setCell ⟨w.heap.size+2,3+k,none⟩ (.map (some wr.heap.size))) .string);have F:=I (Below.trans (d.1.grown G1 d.1.size (by simp)) ((J (wr.setCell ⟨w.heap.size+2,3+k,none⟩ (.map (some wr.heap.size))) (.map #[] 0)).mono (by rw[C];exact d.1.size)));change Calls _ _ _ ((wr.setCell ⟨w.heap.size+2,3+k,none⟩ (.map (some wr.heap.size))).alloc (.map #[] 0)) _
   rw[C]at X;rw[<-b1]at z E V r X F C ⊢;have b2:wr.heap.size<(ws.alloc (.map #[] 0)).heap.size:=by simp;omega
   have HO:=I (λj hj=>(g.1 j hj).1.lt);obtain⟨Y,a5⟩:∃Y,Y=wr.heap.size:=⟨_,rfl⟩;rw[<-a5]at r X a3 b2 HO;simp only[<-a5];clear G1 QP U P Q q g d z0 z1 b1 C a5 wr;have b3:=I (show WIdx (ws.alloc (.map #[] 0)) Y ((zk k).take 0) from⟨[],X.1,λs=>by simp[mget,wi]⟩);clear X;generalize ws.alloc (.map #[] 0)=R at*;clear ws;refine(zit k t R).mono ?_;rintro e w3 ⟨aa,ac,rfl,hS,A⟩;have x:=I (z.1.below A);have H:=I (E.1.below A);have p:=I (V.1.below A);have K:=I ((A.block _ (ztW r.1)).trans r.1);have m:=I (b3.1.below A);have L:=I (ztS F.1 A);have a0:=I hS;have b6:Y<w3.heap.size:=m.1.lt;have c6:=zdF k
   have b7:=I (show ∀b y,aa=some ⟨b,y,none⟩->0<(zk k).length->b≠Y from λb y hab hpos hbm=>by
    subst hab;subst hbm;obtain⟨b',c7,e1,_,hc⟩:=hS.cells hpos;cases e1;have b8:=hc 0 hpos;obtain⟨M,⟨⟨es,c,h1,_⟩,_⟩,_⟩:=m.1;simp[World.cell?,h1]at b8)
   clear hS A z E V r b3 F b2 R;go_wp2_with fail;go_loopw [55] (λi wr=>∃(j:Nat),j<=(zk k).length/\i=.int .i64 j/\ztR (zdM wr w.heap.size l)/\ztR (zcP wr (w.heap.size+1) l)/\ztR (wr.heap[w.heap.size+2]?=some (Obj.cells (cmpA (.slice a l.length cap) (.map (some w.heap.size)) (.map (some (w.heap.size+1))) (N++ [Y])) 185 (0,0)))/\ztR (zki w.heap.size wr N)/\ztR (WIdx wr Y ((zk k).take j))/\ztR (zej wr aa (zk k))/\ztR (Bw w wr)) (λi _=>(zk k).length-(intOf i).toNat)
   case atStart=>exact⟨0,by omega,rfl,x,H,K,p,m,a0,L⟩
   clear x H K p m a0 L b6 w3;obtain⟨j,hj,rfl,P,Q,q,g,S,hS,d⟩:=hrel;by_cases a6:j<(zk k).length
   . obtain⟨b,y,rfl,hb,D⟩:=hS.1.cells (by omega);have c0:=D j a6;have y0:wr.cell? ⟨w.heap.size+2,3+k,none⟩=some (.map (some Y)):=by
      have:=zqU (.slice a l.length cap) (.map (some w.heap.size)) (.map (some (w.heap.size+1))) (N++ [Y]) k (by simp[f.1]);rw[znd _ _ _ (by simp[f.1]),if_neg (by rw[f.1];omega)]at this;exact zm q.1 this
     have ys:=ztW q.1;have b9:=b7.1 b y rfl (by omega);obtain⟨w3,P1,W3,G⟩:=put_wi S.1 a6 (zpZ k);have x:=I (P.1.grown G (by simp;omega));have H:=I (Q.1.grown G (by simp;omega));have K:=I ((G.block _ (ztW q.1) (by simp;omega)).trans q.1);have p:=I (g.1.grown G (λj hj=>by have:=HO.1 j hj;omega));have a0:=I (show zej w3 (some ⟨b,y,none⟩) (zk k) from .inr ⟨b,y,rfl,ztU hb G.size,D.kept hb G b9⟩);have L:=I (d.1.grown G d.1.size (by simp;omega));have m:=I W3;clear W3 G P Q q g S hS d D;go_wp2_with fail;go_roundw
     case rel=>exact⟨j+1,by omega,by go_num,x,H,K,p,m,a0,L⟩
     case measure=>simp[intOf];omega
   obtain rfl:j=(zk k).length:=by omega
   have m:=I S.1;rw[List.take_length]at m;have b4:=I (show(N++ [Y]).length=k+1 by simp[f.1])
   have p:=I (show zki w.heap.size wr (N++ [Y]) from λi hi=>by
    rw[znd _ _ _ hi];by_cases h:i<N.length
    . rw[if_pos h];exact g.1 i h
    rw[if_neg h];obtain rfl:i=k:=by have:=f.1;simp at hi;omega
    exact⟨m.1,a3⟩)
   clear g S hS m hj a6;go_wp2_with fail;go_roundw
   case rel=>exact⟨k+1,_,by omega,by go_num,b4,P,Q,q,p,d⟩
   case measure=>simp[intOf];omega
 obtain rfl:k=4:=by omega
 go_wp2_with fail;go_ret;refine⟨w.heap.size+2,w.heap.size,w.heap.size+1,N,rfl,⟨by omega,hB,by omega,by omega,by omega,f.1,λk Z=>?_,q.1,P.1,Q.1,λk Z=>(g.1 k (by rw[f.1];exact Z)).1,HA.1.keep (d.1.mono hB) (zbs.keep (d.1.mono hB))⟩,⟨by omega,by omega,by omega,λk Z=>?_⟩,d.1⟩
 . have:=(g.1 k (by rw[f.1];exact Z)).2;omega
 have:=(g.1 k (by rw[f.1];exact Z)).2;omega
theorem zdj{L:List (List UInt8)}{s:ByteArray}(h:zN L s=true):s∈L.map (λx=>(⟨x.toArray⟩:ByteArray)):=by
 unfold zN at h
 obtain⟨x,a,e⟩:=List.any_eq_true.1 h;rw[beq_iff_eq,Lib.toList_data]at e;refine List.mem_map.2 ⟨x,a,?_⟩;subst e;simp
theorem zsv{l:List ByteArray}{s:ByteArray}(h:wi l s=none):s ∉ l:=by
 unfold wi at h
 rw[List.findIdx?_eq_none_iff]at h;intro a;have:=h s a;simp at this
theorem zrc{l:List ByteArray}{s:ByteArray}{i:Nat}(h:wi l s=some i):i<l.length:=by
 unfold wi at h
 exact(List.findIdx?_eq_some_iff_getElem.1 h).1
theorem zsw{l:List ByteArray}{s:ByteArray}{i:Nat}(h:wi l s=some i):sAt l i=s:=by
 unfold wi at h
 obtain⟨a,b,_⟩:=List.findIdx?_eq_some_iff_getElem.1 h;simp[sAt,a]
 simpa using b
theorem zeb{l:List ByteArray}{s:ByteArray}(h:hasB l s=true):s∈l:=by
 unfold hasB at h
 obtain⟨x,a,e⟩:=List.any_eq_true.1 h;rw[of_decide_eq_true e];exact a
theorem zhQ{s:ByteArray}(h:zfm s≠0):s∈zI:=by
 have a:((dNum++dDur++dClk).map (λx=>(⟨x.toArray⟩:ByteArray))).all (hasB zI)=true:=by decide+kernel
 have b:∀x∈(dNum++dDur++dClk).map (λx=>(⟨x.toArray⟩:ByteArray)),x∈zI:=λx hx=>zeb (List.all_eq_true.1 a x hx)
 apply b
 unfold zfm at h
 simp only[zt3,List.mem_append];by_cases c:zN dNum s=true
 . exact .inl (.inl (zdj c))
 rw[if_neg c]at h;by_cases d:zN dDur s=true
 . exact .inl (.inr (zdj d))
 rw[if_neg d]at h;by_cases e:zN dClk s=true
 . exact .inr (zdj e)
 rw[if_neg e]at h;exact absurd rfl h
theorem zpM{s:ByteArray}(h:zjv s≠0):s∈zcm:=by
 have a:((pNum++pDur).map (λx=>(⟨x.toArray⟩:ByteArray))).all (hasB zcm)=true:=by decide+kernel
 have b:∀x∈(pNum++pDur).map (λx=>(⟨x.toArray⟩:ByteArray)),x∈zcm:=λx hx=>zeb (List.all_eq_true.1 a x hx)
 apply b
 unfold zjv at h
 simp only[zt3,List.mem_append];by_cases c:zN pNum s=true
 . exact .inl (zdj c)
 rw[if_neg c]at h;by_cases d:zN pDur s=true
 . exact .inr (zdj d)
 rw[if_neg d]at h;exact absurd rfl h
theorem zdU{s p:ByteArray}(h:preB s p=true):s=p++s.extract p.size s.size:=by
 simp only[preB,zt5,decide_eq_true_eq,beq_iff_eq]at h;obtain⟨d,a⟩:=h;rw[Lib.toList_data,Lib.toList_data]at a;have b:s.data.toList.take p.data.toList.length=p.data.toList:=by
  rw[<-a];simp
 apply ByteArray.ext
 apply Array.ext'
 simp
 have c:p.size=p.data.toList.length:=by simp
 rw[c,List.take_of_length_le (by simp)];conv=>lhs;rw[<-List.take_append_drop p.data.toList.length s.data.toList]
 rw[b]
theorem zi6{s:ByteArray}{l:List UInt8}(h:(s.toList==l)=true):s=⟨l.toArray⟩:=by
 rw[beq_iff_eq,Lib.toList_data]at h;subst h;simp
theorem zpE{s:ByteArray}(h:zcX s≠0):s∈zbC:=by
 unfold zcX at h
 by_cases g:(s.toList== [114,101,115,116])=true
 . rw[zi6 g];exact zeb (by decide+kernel)
 rw[if_neg g]at h;by_cases i:(s.toList== [110,105,103,104,116,115])=true
 . rw[zi6 i];exact zeb (by decide+kernel)
 rw[if_neg i]at h;by_cases j:(s.toList== [104,111,109,101])=true
 . rw[zi6 j];exact zeb (by decide+kernel)
 rw[if_neg j]at h;by_cases c:preB s befW=true
 . rw[if_pos c]at h;have d:=zhQ h;have e:s=befW++s.extract 7 s.size:=zdU c;have a:zI.all (λx=>hasB zbC (befW++x))=true:=by decide+kernel
   have b:∀x∈zI,befW++x∈zbC:=λx hx=>zeb (List.all_eq_true.1 a x hx)
   rw[e];exact b _ d
 rw[if_neg c]at h;by_cases f:preB s aftW=true
 . rw[if_pos f]at h;have d:=zhQ h;have e:s=aftW++s.extract 6 s.size:=zdU f;have a:zI.all (λx=>hasB zbC (aftW++x))=true:=by decide+kernel
   have b:∀x∈zI,aftW++x∈zbC:=λx hx=>zeb (List.all_eq_true.1 a x hx)
   rw[e];exact b _ d
 rw[if_neg f]at h;exact absurd rfl h
theorem zd2{k:Nat}(b:k<4){s:ByteArray}(h:plA k s=none):zad k s=0:=by
 have a:=zsv h;obtain rfl|rfl|rfl|rfl:k=0\/k=1\/k=2\/k=3:=by omega
 . rfl
 . exact Classical.byContradiction λh'=>a (zhQ h')
 . exact Classical.byContradiction λh'=>a (zpE h')
 exact Classical.byContradiction λh'=>a (zpM h')
theorem zqX{k:Nat}(b:k<4){s:ByteArray}{i:Nat}(h:plA k s=some i):zad k s≠0:=by
 have c:=zrc h;have d:=zsw h;rw[<-d];have a:((List.range 4).all λk=>(List.range (zk k).length).all λi=>zad k (sAt (zk k) i) !=0)=true:=by decide+kernel
 have:=List.all_eq_true.1 (List.all_eq_true.1 a k (List.mem_range.2 b)) i (List.mem_range.2 c);simpa using this
theorem zjh{a:ByteArray->Option (Int×Int)}{b:Int}:∀{l:List zH},(tyL a b l).1=0->(tyL a b l).2.length=l.length/\∀k,k<l.length->(tyE a b (eAt l k)).2=0/\iAt (tyL a b l).2 k=(tyE a b (eAt l k)).1
 |[],_=>⟨rfl,λk hk=>by simp at hk⟩
 |x::l,h=>by
  rw[tyL]at h ⊢;by_cases c:(tyE a b x).2≠0
  . rw[if_pos c]at h;exact absurd h c
  rw[if_neg c]at h ⊢;obtain⟨d,e⟩:=zjh (l:=l) h;refine⟨by simp[d],λk hk=>?_⟩;cases k with
  |zero=>exact⟨Classical.not_not.1 c,rfl⟩
  |succ k=>exact e k (by simpa using hk)
theorem zmI:∀{t:List Int} {k:Int},allB t k=true->∀j,j<t.length->iAt t j=k
 |[],_,_,j,hj=>by simp at hj
 |x::t,k,h,0,_=>by rw[allB,zt5,beq_iff_eq]at h;exact h.1
 |x::t,k,h,j+1,hj=>by rw[allB,zt5]at h;exact zmI h.2 j (by simpa using hj)
structure zq8(lk:ByteArray->Option (Int×Int))(cv:ByteArray->Int)(sc:Int)(q:List Int):Prop where
 attr:∀s i,plA sc s=some i->i<q.length/\inR (iAt q i)/\(zad sc s=4->isB (iAt q i))
 none:∀s,plA sc s=none->zad sc s=0
 named:∀s i,plA sc s=some i->zad sc s≠0
 const:∀s r,lk s=some r->r.2=0->inR (cv s)/\(r.1=4->isB (cv s))
theorem zg1(b:Bool):isB (zc2 b):=by cases b <;> simp[isB,zc2]
theorem zn6{o:Int}{t:List Int}(h:o=7\/o=8\/o=9\/o=12\/o=13\/o=10\/o=11):resK o t≠4:=by
 have a:amtB (iAt t 0)=true->iAt t 0≠4:=by
  intro h;simp[amtB]at h;omega
 rcases h with rfl|rfl|rfl|rfl|rfl|rfl|rfl
 all_goals simp only[resK]
 all_goals simp only[show((7:Int)==1)=false from rfl,show((8:Int)==1)=false from rfl,show((9:Int)==1)=false from rfl,show((12:Int)==1)=false from rfl,show((13:Int)==1)=false from rfl,show((10:Int)==1)=false from rfl,show((11:Int)==1)=false from rfl]
 all_goals simp
 all_goals first
  |(intro b c;exact λh3=>a b h3)
  |(split <;> simp_all)
  |(unfold zde;(repeat' split) <;> omega)
mutual
theorem zlS{b:ByteArray->Option (Int×Int)}{d:ByteArray->Int}{a:Int}{q:List Int}(E:zq8 b d a q):∀(x:zH),wfE x=true->(tyE b a x).2=0->fok q (cmpE d a x)/\((tyE b a x).1=4->isB (fval q (cmpE d a x)))
 | .mk o n s l,hwf,ht=>by
  obtain⟨U,N⟩:=ze8 hwf;simp only[zcR,zt5]at U;obtain⟨⟨⟨Z,c⟩,f⟩,a0⟩:=U;obtain⟨a1,z⟩:=zbz.1 Z;rw[tyE]at ht ⊢;rw[cmpE];by_cases A:o=6
  . subst A;rw[if_pos rfl]at ht ⊢;rw[if_neg (by decide),if_neg (by decide),if_neg (by decide),if_pos rfl];cases P:plA a s with
    |some i=>
     obtain⟨u,v,h3⟩:=E.attr s i P;simp only[];refine⟨?_,?_⟩
     . rw[fok,if_neg (by decide),if_pos rfl];exact⟨by omega,by omega,by simpa using v⟩
     intro p;rw[fval,if_neg (by decide),if_pos rfl];by_cases w:zad a s≠0
     . rw[if_pos w]at p;simpa using h3 p
     rw[if_neg w]at p ht;have Q:zad a s=0:=Classical.not_not.1 w;exfalso
     exact(E.named s i P) Q
    |none=>
     have w:=E.none s P;rw[if_neg (by simpa using w)]at ht ⊢;simp only[];cases R:b s with
     |none=>rw[R]at ht;exact absurd ht (by decide)
     |some r=>
      rw[R]at ht;obtain⟨u,v⟩:=E.const s r R ht;refine⟨?_,?_⟩
      . rw[fok,if_pos rfl];exact u
      intro p;rw[fval,if_pos rfl];exact v p
  rw[if_neg A]at ht ⊢;have a2:zL o l.length=true:=c;by_cases o5:o<=5
  . have B:l.length=0:=by
     obtain rfl|rfl|rfl|rfl|rfl:o=1\/o=2\/o=3\/o=4\/o=5:=by omega
     all_goals (simp[zL]at c;simpa using c)
    have C:l= []:=List.length_eq_zero_iff.1 B;subst C;obtain rfl|rfl|rfl|rfl|rfl:o=1\/o=2\/o=3\/o=4\/o=5:=by omega
    . have V:=zbz.1 (show btwB n 0 1099511627776=true from f);rw[if_pos (by decide)];refine⟨by rw[fok,if_pos rfl];unfold inR;omega,λh=>absurd h (by simp[tyL,resK])⟩
    . have V:=zbz.1 (show btwB n 0 1099511627776=true from f);rw[if_pos (by decide)];refine⟨by rw[fok,if_pos rfl];unfold inR;omega,λh=>absurd h (by simp[tyL,resK])⟩
    . have V:=zbz.1 (show btwB n 0 1439=true from f);rw[if_pos (by decide)];refine⟨by rw[fok,if_pos rfl];unfold inR;omega,λh=>absurd h (by simp[tyL,resK])⟩
    . rw[if_neg (by decide),if_pos rfl];exact⟨by rw[fok,if_pos rfl];unfold inR;omega,λ_=>by rw[fval,if_pos rfl];exact .inr rfl⟩
    rw[if_neg (by decide),if_neg (by decide),if_pos rfl];exact⟨by rw[fok,if_pos rfl];unfold inR;omega,λ_=>by rw[fval,if_pos rfl];exact .inl rfl⟩
  rw[if_neg (by omega),if_neg (by omega),if_neg (by omega),if_neg A];by_cases u:(tyL b a l).1≠0
  . rw[if_pos u]at ht;exact absurd ht u
  rw[if_neg u]at ht ⊢;have S:(tyL b a l).1=0:=Classical.not_not.1 u;by_cases v:resK o (tyL b a l).2≠0
  . rw[if_pos v]at ht ⊢;obtain⟨g2,W⟩:=zjh S;have X:=zph E l N (λk t=>(W k t).1);have g:(cmpL d a l).length=l.length:=zc5 d a l;have j:∀k,k<l.length->iAt (tyL b a l).2 k=4->isB (iAt (za5 q (cmpL d a l)) k):=λk t p=>by
     rw[zbk q _ k (by rw[g];exact t)];exact(X.2 k t) (by rw[<-(W k t).2];exact p)
    have m:19<=o->∀k,k<l.length->isB (iAt (za5 q (cmpL d a l)) k):=λh19 k t=>by
     refine j k t ?_;have y:cmpB o (tyL b a l).2=true:=by
      refine Classical.byContradiction λy=>v ?_
      obtain rfl|rfl|rfl|rfl:o=19\/o=20\/o=21\/o=22:=by omega
      all_goals (simp only[resK];simp[y])
     have w:allB (tyL b a l).2 4=true:=by
      obtain rfl|rfl|rfl|rfl:o=19\/o=20\/o=21\/o=22:=by omega
      all_goals simpa[cmpB] using y
     exact zmI w k (by rw[g2];exact t)
    refine⟨?_,λp=>?_⟩
    . rw[fok,if_neg (by omega),if_neg A];exact⟨by omega,z,by rw[g];exact c,λh19 k t=>m h19 k (by rwa [g]at t),X.1⟩
    rw[fval,if_neg (by omega),if_neg A];have a3:¬ (o=7\/o=8\/o=9\/o=12\/o=13\/o=10\/o=11):=λh=>zn6 h p
    by_cases D:o=14
    . subst D;have a4:l.length=3:=by simp[zL]at c;omega
      have t:((iAt (tyL b a l).2 0==4)&&(iAt (tyL b a l).2 1==iAt (tyL b a l).2 2))=true/\iAt (tyL b a l).2 1=4:=by
       have e:resK 14 (tyL b a l).2=if((iAt (tyL b a l).2 0==4)&&(iAt (tyL b a l).2 1==iAt (tyL b a l).2 2))=true then iAt (tyL b a l).2 1 else 0:=rfl;rw[e]at p;by_cases y:((iAt (tyL b a l).2 0==4)&&(iAt (tyL b a l).2 1==iAt (tyL b a l).2 2))=true
       . rw[if_pos y]at p;exact⟨y,p⟩
       rw[if_neg y]at p;exact absurd p (by decide)
      have T:iAt (tyL b a l).2 1=iAt (tyL b a l).2 2:=by simpa using(Bool.and_eq_true_iff.1 t.1).2
      have Y:=j 1 (by omega) t.2;have b2:=j 2 (by omega) (T ▸ t.2);have e:opV 14 (za5 q (cmpL d a l))=if iAt (za5 q (cmpL d a l)) 0≠0 then iAt (za5 q (cmpL d a l)) 1 else iAt (za5 q (cmpL d a l)) 2:=by simp[opV]
      rw[e];split
      . exact Y
      exact b2
    by_cases F:o=15
    . subst F;have e:opV 15 (za5 q (cmpL d a l))=zc2 (bndB (iAt (za5 q (cmpL d a l)) 0) (iAt (za5 q (cmpL d a l)) 1) (iAt (za5 q (cmpL d a l)) 2)):=by simp[opV]
      rw[e];exact zg1 _
    have G:0<l.length:=by have:=zqv c (by omega);omega
    by_cases H:o=19
    . subst H;have b0:=m (by omega) 0 G;have e:opV 19 (za5 q (cmpL d a l))=1-iAt (za5 q (cmpL d a l)) 0:=by simp[opV]
      rw[e];rcases b0 with h|h <;> rw[h] <;> simp[isB]
    have e:opV o (za5 q (cmpL d a l))=op2V o (iAt (za5 q (cmpL d a l)) 0) (iAt (za5 q (cmpL d a l)) 1):=by
     rw[opV,if_neg (by omega),if_neg (by omega),if_neg (by omega),if_neg D,if_neg F,if_neg H]
    rw[e];unfold op2V
    rw[if_neg (by omega),if_neg (by omega),if_neg (by omega),if_neg (by omega)];by_cases K:o=16
    . rw[if_pos K];exact zg1 _
    rw[if_neg K];by_cases L:o=17
    . rw[if_pos L];exact zg1 _
    rw[if_neg L];by_cases M:o=18
    . rw[if_pos M];exact zg1 _
    rw[if_neg M];have a5:l.length=2:=by
     obtain rfl|rfl|rfl:o=20\/o=21\/o=22:=by omega
     all_goals (simp[zL]at c;omega)
    have Y:=m (by omega) 1 (by omega);have bz:isB 0:=.inl rfl;have bo:isB 1:=.inr rfl;(repeat' split) <;> assumption
  rw[if_neg v]at ht;exact absurd ht (by decide)
theorem zph{b:ByteArray->Option (Int×Int)}{c:ByteArray->Int}{a:Int}{q:List Int}(E:zq8 b c a q):∀(l:List zH),wfL l=true->(∀k,k<l.length->(tyE b a (eAt l k)).2=0)->fokL q (cmpL c a l)/\∀k,k<l.length->(tyE b a (eAt l k)).1=4->isB (fval q (gAt (cmpL c a l) k))
 |[],_,_=>⟨trivial,λk hk=>by simp at hk⟩
 |x::l,hw,ht=>by
  rw[wfL,zt5]at hw;obtain⟨d,e⟩:=zlS E x hw.1 (ht 0 (by simp));obtain⟨f,g⟩:=zph E l hw.2 (λk hk=>ht (k+1) (by simpa using hk));rw[cmpL];refine⟨by rw[fokL];exact⟨d,f⟩,λk hk=>?_⟩;cases k with
  |zero=>exact e
  |succ k=>exact g k (by simpa using hk)
end
theorem zjS(l:List zB)(n:Nat)(h:∀j,j<n->j<l.length->(ctyp l j).2=0->inR (cval l j)/\((ctyp l j).1=4->isB (cval l j))):zq8 (lkC l n) (cvC l n) 0 [] where
 attr:=λs i hp=>by simp[plA,zk,wi]at hp
 none:=λs _=>rfl
 named:=λs i hp=>by simp[plA,zk,wi]at hp
 const:=λs r hr h0=>by
  unfold lkC at hr
  unfold cvC
  cases a:fi l s with
  |none=>rw[a]at hr;cases hr
  |some j=>
   rw[a]at hr;by_cases b:j<n
   . simp only[if_pos b,Option.some.injEq]at hr ⊢;subst hr;exact h j b (zs6 a) h0
   simp only[if_neg b]at hr;cases hr
theorem zjZ{l:List zB}{i:Nat}(h:(ctyp l i).2=0):valE (csAt l i).ex=0/\(tyE (lkC l i) 0 (csAt l i).ex).2=0/\ctyp l i=tyE (lkC l i) 0 (csAt l i).ex:=by
 rw[zge]at h ⊢;by_cases a:valE (csAt l i).ex≠0
 . rw[if_pos a]at h;exact absurd h a
 rw[if_neg a]at h ⊢;exact⟨Classical.not_not.1 a,h,rfl⟩
theorem zqF(l:List zB)(i:Nat)(f:i<l.length)(h:(ctyp l i).2=0):inR (cval l i)/\((ctyp l i).1=4->isB (cval l i)):=by
 induction i using Nat.strongRecOn with
 |_ i ih=>
  obtain⟨a,b,c⟩:=zjZ h;have E:=zjS l i (λj hj hjl h0=>ih j hj hjl h0);obtain⟨d,e⟩:=zlS E (csAt l i).ex (zcA a).1 b;rw[zmt,c];exact⟨zcb _ d,e⟩
theorem zqs(l:List zB)(i:Nat)(h:(ctyp l i).2=0):fok [] (cmpE (cvC l i) 0 (csAt l i).ex):=by
 obtain⟨a,b,c⟩:=zjZ h;exact(zlS (zjS l i (λj hj hjl h0=>zqF l j hjl h0)) (csAt l i).ex (zcA a).1 b).1
def zgk(B kp ib vb:Nat)(ps:List Nat)(l:List zB)(a:zua)(cap:Nat)(w:World)(f:zE)(e:Ending)(w':World):Prop:=∃fa fc,e=.returned (.agg #[f.op,f.num,.slice fa f.args.length fc])/\zax (λb=>b<w.heap.size) w' fa f.args/\f.args.length<=200/\zbo B w' kp ib vb ps l a cap/\w.grownBy w' (some vb)
def ztP(B kp ib vb:Nat)(ps:List Nat)(l:List zB)(a:zua)(cap:Nat)(n:Nat):Prop:=∀(k:Nat) (x:zH) (xa:zua) (xc:Nat) (w:World),k<4->zbo B w kp ib vb ps l a cap->za2 x->wfE x=true->cntE x<=200->(tyE (lkC l n) k x).2=0->zaz B w xa x.args->
 Calls prog 59 #[.pointer (some ⟨kp,0,none⟩),k,.agg #[x.op,x.num,.string x.name,.slice xa x.args.length xc]] w (zgk B kp ib vb ps l a cap w (cmpE (cvC l n) k x))
def zkm(B kp ib vb:Nat)(ps:List Nat)(l:List zB)(a:zua)(cap:Nat)(i:Nat):Prop:=∀(s:ByteArray) (w:World),fi l s=some i->zbo B w kp ib vb ps l a cap->Calls prog 108 #[.pointer (some ⟨kp,0,none⟩),.string s] w λe w'=>e=.returned (cval l i)/\zbo B w' kp ib vb ps l a cap/\w.grownBy w' (some vb)
theorem zdW(B b c d:Nat)(e:List Nat)(l:List zB)(a:zua)(cap:Nat){w w':World}{o n:Int}(g:zbo B w b c d e l a cap)(f:Bw w w'):zgk B b c d e l a cap w (.mk o n []) (.returned (.agg #[o,n,.slice none 0 0])) w':=
 ⟨none,0,rfl,⟨0,0,λh=>absurd rfl h,.nil _ _⟩,by simp[zE.args],g.below f,zP _ f⟩
theorem zly(B d e f:Nat)(g:List Nat)(l:List zB)(a:zua)(cap:Nat)(i:ByteArray->Int)(k:Nat)(o b:Int)(s:ByteArray)(h:List zH)(n:zua)(p:Nat)(w:World)(r:1<=o)(q:o<=5)(m:zbo B w d e f g l a cap):
 Calls prog 59 #[.pointer (some ⟨d,0,none⟩),k,.agg #[o,b,.string s,.slice n h.length p]] w (zgk B d e f g l a cap w (cmpE i k (.mk o b s h))):=by
 have j:=I m;clear m;obtain rfl|rfl|rfl|rfl|rfl:o=1\/o=2\/o=3\/o=4\/o=5:=by omega
 . have c:=I (show cmpE i k (.mk 1 b s h)=.mk 1 b [] by simp[cmpE]);go_enter func59,ntmps59
   go_wp2_with fail;refine bodyPost_ret (v:=.agg #[.int .i64 1,b,.slice none 0 0]) (by simp[results,results59,go_sem]) rfl ?_;rw[c.1];exact zdW B d e f g l a cap j.1 (ztS (J _ _) (J _ _))
 . have c:=I (show cmpE i k (.mk 2 b s h)=.mk 1 b [] by simp[cmpE]);go_enter func59,ntmps59
   go_wp2_with fail;refine bodyPost_ret (v:=.agg #[.int .i64 1,b,.slice none 0 0]) (by simp[results,results59,go_sem]) rfl ?_;rw[c.1];exact zdW B d e f g l a cap j.1 (ztS (J _ _) (J _ _))
 . have c:=I (show cmpE i k (.mk 3 b s h)=.mk 1 b [] by simp[cmpE]);go_enter func59,ntmps59
   go_wp2_with fail;refine bodyPost_ret (v:=.agg #[.int .i64 1,b,.slice none 0 0]) (by simp[results,results59,go_sem]) rfl ?_;rw[c.1];exact zdW B d e f g l a cap j.1 (ztS (J _ _) (J _ _))
 . have c:=I (show cmpE i k (.mk 4 b s h)=.mk 1 1 [] by simp[cmpE]);go_enter func59,ntmps59
   go_wp2_with fail;refine bodyPost_ret (v:=.agg #[.int .i64 1,.int .i64 1,.slice none 0 0]) (by simp[results,results59,go_sem]) rfl ?_;rw[c.1];exact zdW B d e f g l a cap j.1 (ztS (J _ _) (J _ _))
 have c:=I (show cmpE i k (.mk 5 b s h)=.mk 1 0 [] by simp[cmpE]);go_enter func59,ntmps59
 go_wp2_with fail;refine bodyPost_ret (v:=.agg #[.int .i64 1,.int .i64 0,.slice none 0 0]) (by simp[results,results59,go_sem]) rfl ?_;rw[c.1];exact zdW B d e f g l a cap j.1 (ztS (J _ _) (J _ _))
theorem zsz{a:ByteArray->Option (Int×Int)}{k:Nat}{c:Int}{s:ByteArray}{d:List zH}(h:(tyE a k (.mk 6 c s d)).2=0)(e:zad k s=0):∃r,a s=some r/\r.2=0:=by
 rw[tyE,if_pos rfl,if_neg (by simpa using e)]at h;cases b:a s with
 |none=>rw[b]at h;exact absurd h (by decide)
 |some r=>rw[b]at h;exact⟨r,rfl,h⟩
theorem zrB{l:List zB}{n:Nat}{s:ByteArray}{r:Int×Int}(h:lkC l n s=some r):∃i,fi l s=some i/\i<n/\r=ctyp l i/\cvC l n s=cval l i:=by
 unfold lkC at h
 unfold cvC
 cases b:fi l s with
 |none=>rw[b]at h;cases h
 |some i=>
  rw[b]at h;by_cases a:i<n
  . simp only[if_pos a,Option.some.injEq]at h ⊢;exact⟨i,rfl,a,h.symm,rfl⟩
  simp only[if_neg a]at h;cases h
theorem zlz(B x E y:Nat)(z:List Nat)(l:List zB)(a:zua)(cap:Nat)(n:Nat)(f:ztR (∀i,i<n->i<l.length->(ctyp l i).2=0->zkm B x E y z l a cap i))(k:Nat)(F:k<4)(g:Int)(s:ByteArray)(o:List zH)(G:zua)(H:Nat)(w:World)(R:zbo B w x E y z l a cap)(ht:(tyE (lkC l n) k (.mk 6 g s o)).2=0):
 Calls prog 59 #[.pointer (some ⟨x,0,none⟩),k,.agg #[.int .i64 6,g,.string s,.slice G o.length H]] w (zgk B x E y z l a cap w (cmpE (cvC l n) k (.mk 6 g s o))):=by
 have A:=I R;have a8:=R.lt.1;have HT:=I ht;have k0:(0:Int)<=(k:Int):=by omega
 have k4:(k:Int)<4:=by omega
 clear R ht;go_enter func59,ntmps59
 go_wp2_with fail;have S:=I (ztS (J w (oEg 6 g s G o.length H)) (J _ jC));have T:=I (zd (o':=jC) (zh w (oEg 6 g s G o.length H)));have P:=I (zh (w.alloc (oEg 6 g s G o.length H)) jC);rw[zr]at P;have p:=I (A.1.below S.1);generalize (w.alloc (oEg 6 g s G o.length H)).alloc jC=W at*;have z1:W.cell? ⟨x,3+k,none⟩=some (.map (some (pAt z k))):=zm p.1.box (zqU _ _ _ z k (by rw[p.1.plen];exact F));have z2:W.cell? ⟨w.heap.size,2,none⟩=some (.string s):=zm T.1 rfl;have zs:=ztW P.1;have L1:=λm=>zsU (w:=W.drewN m) ((p.1.places k F).below (below_drewN (ztT _ _) m)) s
 go_quiet (fail)
 have C:=I (ztS S.1 (below_drewN (ztT _ _) nq));have U:=I (A.1.below C.1);have d:=I (((below_drewN (ztT W.heap.size W) nq).block _ zs).trans P.1);have q3:=I (((below_drewN (ztT W.heap.size W) nq).block _ (by omega)).trans T.1);clear L1 z1 z2 zs T P p S;generalize W.drewN nq=b at*;clear W;have y0:b.cell? ⟨w.heap.size+1,0,none⟩=some (.int .i64 0):=zm d.1 rfl;have y1:b.cell? ⟨w.heap.size+1,1,none⟩=some (.int .i64 0):=zm d.1 rfl;have y2:b.cell? ⟨w.heap.size+1,2,none⟩=some (.slice none 0 0):=zm d.1 rfl;have f0:b.frozen? ⟨w.heap.size+1,0,none⟩=false:=zQ d.1;have f1:b.frozen? ⟨w.heap.size+1,1,none⟩=false:=zQ d.1;have f2:b.frozen? ⟨w.heap.size+1,2,none⟩=false:=zQ d.1;have ys:=ztW d.1;cases q:plA k s with
 |some i=>
  have K:wiB (zk k) s=true:=by have:wi (zk k) s=some i:=q;simp[wiB,this]
  have e2:wiN (zk k) s=i:=by have:wi (zk k) s=some i:=q;simp[wiN,this]
  have V:=I (show cmpE (cvC l n) k (.mk 6 g s o)=.mk 6 i [] by rw[cmpE,if_neg (by decide),if_neg (by decide),if_neg (by decide),if_pos rfl,q]);rw[K,e2];clear q K e2;go_wp2_with fail;have Q:=zg (i:=2) (u:=.slice none 0 0) (zg (i:=1) (u:=.int .i64 i) (zg (i:=0) (u:=.int .i64 6) d.1));have X:(((b.setCell ⟨w.heap.size+1,0,none⟩ (.int .i64 6)).setCell ⟨w.heap.size+1,1,none⟩ (.int .i64 i)).setCell ⟨w.heap.size+1,2,none⟩ (.slice none 0 0)).cell? ⟨w.heap.size+1,0,none⟩=some (.int .i64 6):=zm Q rfl;have Y:(((b.setCell ⟨w.heap.size+1,0,none⟩ (.int .i64 6)).setCell ⟨w.heap.size+1,1,none⟩ (.int .i64 i)).setCell ⟨w.heap.size+1,2,none⟩ (.slice none 0 0)).cell? ⟨w.heap.size+1,1,none⟩=some (.int .i64 i):=zm Q rfl;have Z:(((b.setCell ⟨w.heap.size+1,0,none⟩ (.int .i64 6)).setCell ⟨w.heap.size+1,1,none⟩ (.int .i64 i)).setCell ⟨w.heap.size+1,2,none⟩ (.slice none 0 0)).cell? ⟨w.heap.size+1,2,none⟩=some (.slice none 0 0):=zm Q rfl;have a0:Bw w (((b.setCell ⟨w.heap.size+1,0,none⟩ (.int .i64 6)).setCell ⟨w.heap.size+1,1,none⟩ (.int .i64 i)).setCell ⟨w.heap.size+1,2,none⟩ (.slice none 0 0)):=((C.1.setCell (by simp) _).setCell (by simp) _).setCell (by simp) _;clear Q;generalize (((b.setCell ⟨w.heap.size+1,0,none⟩ (.int .i64 6)).setCell ⟨w.heap.size+1,1,none⟩ (.int .i64 i)).setCell ⟨w.heap.size+1,2,none⟩ (.slice none 0 0))=Wf at*;refine bodyPost_ret (v:=.agg #[.int .i64 6,i,.slice none 0 0]) (by simp[results,results59,go_sem,X,Y,Z]) rfl ?_;rw[V.1];exact zdW B x E y z l a cap A.1 a0
 |none=>
  have K:wiB (zk k) s=false:=by have:wi (zk k) s=none:=q;simp[wiB,this]
  have ha:=zd2 F q;obtain⟨r,hr,L⟩:=zsz HT.1 ha;obtain⟨i,hi,a1,rfl,M⟩:=zrB hr;have a2:=zs6 hi;have V:=I (show cmpE (cvC l n) k (.mk 6 g s o)=.mk 1 (cval l i) [] by rw[cmpE,if_neg (by decide),if_neg (by decide),if_neg (by decide),if_pos rfl,q,M]);have HI:=I hi;have HR:=I L;have v2:b.cell? ⟨w.heap.size,2,none⟩=some (.string s):=zm q3.1 rfl;rw[K];clear q K ha hr M hi L;go_wp2_with fail;refine(f.1 i a1 a2 HR.1 s b HI.1 U.1).mono ?_;rintro e c ⟨rfl,N,D⟩;have a9:=A.1.lt.2.2;have t:=I ((D.block _ ys (by simp;omega)).trans d.1);have a3:=I N;have a4:=I (Lib.grownBy_trans (zP (some y) C.1) D);have x0:c.cell? ⟨w.heap.size+1,0,none⟩=some (.int .i64 0):=zm t.1 rfl;have x1:c.cell? ⟨w.heap.size+1,1,none⟩=some (.int .i64 0):=zm t.1 rfl;have x2:c.cell? ⟨w.heap.size+1,2,none⟩=some (.slice none 0 0):=zm t.1 rfl;have u0:c.frozen? ⟨w.heap.size+1,0,none⟩=false:=zQ t.1;have u1:c.frozen? ⟨w.heap.size+1,1,none⟩=false:=zQ t.1;have u2:c.frozen? ⟨w.heap.size+1,2,none⟩=false:=zQ t.1;have us:=ztW t.1;clear N D y0 y1 y2 f0 f1 f2 ys v2 d q3;go_wp2_with fail;have Q:=zg (i:=2) (u:=.slice none 0 0) (zg (i:=1) (u:=.int .i64 (cval l i)) (zg (i:=0) (u:=.int .i64 1) t.1));have X:(((c.setCell ⟨w.heap.size+1,0,none⟩ (.int .i64 1)).setCell ⟨w.heap.size+1,1,none⟩ (.int .i64 (cval l i))).setCell ⟨w.heap.size+1,2,none⟩ (.slice none 0 0)).cell? ⟨w.heap.size+1,0,none⟩=some (.int .i64 1):=zm Q rfl;have Y:(((c.setCell ⟨w.heap.size+1,0,none⟩ (.int .i64 1)).setCell ⟨w.heap.size+1,1,none⟩ (.int .i64 (cval l i))).setCell ⟨w.heap.size+1,2,none⟩ (.slice none 0 0)).cell? ⟨w.heap.size+1,1,none⟩=some (.int .i64 (cval l i)):=zm Q rfl;have Z:(((c.setCell ⟨w.heap.size+1,0,none⟩ (.int .i64 1)).setCell ⟨w.heap.size+1,1,none⟩ (.int .i64 (cval l i))).setCell ⟨w.heap.size+1,2,none⟩ (.slice none 0 0)).cell? ⟨w.heap.size+1,2,none⟩=some (.slice none 0 0):=zm Q rfl;have a7:∀j,j<w.heap.size->j≠w.heap.size+1:=λj hj=>by omega
  have G1:=Lib.grownBy_setB (Lib.grownBy_setB (Lib.grownBy_setCell c (w.heap.size+1) 0 (.int .i64 1)) 1 (.int .i64 (cval l i))) 2 (.slice none 0 0);have a5:w.grownBy (((c.setCell ⟨w.heap.size+1,0,none⟩ (.int .i64 1)).setCell ⟨w.heap.size+1,1,none⟩ (.int .i64 (cval l i))).setCell ⟨w.heap.size+1,2,none⟩ (.slice none 0 0)) (some y):=a4.1.andThen G1 (λj hj=>by cases hj;exact .inl (by omega));have a6:zbo B (((c.setCell ⟨w.heap.size+1,0,none⟩ (.int .i64 1)).setCell ⟨w.heap.size+1,1,none⟩ (.int .i64 (cval l i))).setCell ⟨w.heap.size+1,2,none⟩ (.slice none 0 0)) x E y z l a cap:=a3.1.other G1 (λj hj=>by cases hj;have:=A.1.bp;omega) (by simp;omega) (by have:=A.1.lt.2.1;simp;omega) (by simp;omega) (λk F=>by have:=(A.1.places k F).lt;simp;omega);clear Q G1;generalize (((c.setCell ⟨w.heap.size+1,0,none⟩ (.int .i64 1)).setCell ⟨w.heap.size+1,1,none⟩ (.int .i64 (cval l i))).setCell ⟨w.heap.size+1,2,none⟩ (.slice none 0 0))=Wf at*;refine bodyPost_ret (v:=.agg #[.int .i64 1,(cval l i),.slice none 0 0]) (by simp[results,results59,go_sem,X,Y,Z]) rfl ?_;rw[V.1];exact⟨none,0,rfl,⟨0,0,λh=>absurd rfl h,.nil _ _⟩,by simp[zE.args],a6,a5⟩
theorem zX.mk1{X:Nat->Prop}{w:World}{b c:Nat}{f:zE}{a:zua}{cap:Nat}(e:b<w.heap.size)(g:¬ X b)(h:w.cell? ⟨b,c,none⟩=some (.int .i64 f.op))(i:w.cell? ⟨b,c+1,none⟩=some (.int .i64 f.num))(j:w.cell? ⟨b,c+2,none⟩=some (.slice a f.args.length cap))(k:f.args.length<=140737488355328)(l:zax X w a f.args):zX X w b c [f]:=by
 obtain⟨o,d,m,n⟩:=l;exact .cons e g h i j k m n (.nil _ _)
theorem zlv(B p G q:Nat)(S:List Nat)(l:List zB)(a:zua)(cap:Nat)(i:Nat)(hi:i<l.length)(T:(ctyp l i).2=0)(IH:ztR (ztP B p G q S l a cap i)):zkm B p G q S l a cap i:=by
 intro s w U c;have V:=I c;have hl:=c.consts.1;have hB:B<=w.heap.size:=ztV c.bp (Nat.le_of_lt c.lt.1);have z0:w.cell? ⟨p,0,none⟩=some (.slice a l.length cap):=zm c.box rfl;have z1:w.cell? ⟨p,1,none⟩=some (.map (some G)):=zm c.box rfl;have z2:w.cell? ⟨p,2,none⟩=some (.map (some q)):=zm c.box rfl;obtain⟨zs,zi,zv⟩:=c.lt;have W:=zgW c.idx s;have X:fiN l s=i:=by simp[fiN,U]
 have Y:fiB l s=true:=by simp[fiB,U]
 rw[X,Y]at W;clear X Y;rcases zrA c.vals i with Z|Z
 . clear c;go_enter func108,ntmps108
   go_wp2_with fail;go_ret;exact⟨rfl,V.1,World.grownBy.refl _ _⟩
 obtain⟨b,a1,rfl,hb,t⟩:=c.consts.cells (by omega);obtain⟨c0,s1,a2,u,⟨c1,c2,c3,c4⟩,k,d⟩:=t i hi;have a3:b<w.heap.size:=by omega
 have HF:=I k;have HA:=I d;obtain⟨g1,g2,_⟩:=zjZ T;obtain⟨t1,t2,_⟩:=zcA g1;have G2:=I g2;have HK:=I (zqs l i T);have v:=I (zmt l i);clear t d k c g1 g2;go_enter func108,ntmps108
 go_wp2_with fail;refine(IH.1 0 (csAt l i).ex a2 u w (by omega) V.1 HF.1 t1 t2 G2.1 HA.1).mono ?_;rintro e r ⟨D,E,rfl,g,x,y,m⟩;have H:((0:Nat):Int)=0:=rfl;rw[H]at g x;simp only[H];obtain⟨f,n⟩:∃f,f=cmpE (cvC l i) 0 (csAt l i).ex:=⟨_,rfl⟩;rw[<-n]at g x HK v;simp only[<-n];clear n H;have K:=I g;have L:=I y;have M:=I m;have a0:=m.size;clear g y m z0 z1 z2 c0 c1 c2 c3 c4 W Z;go_wp2_with fail;have h:=I (J r (oFg f.op f.num D f.args.length E));have F:=zh r (oFg f.op f.num D f.args.length E);have z:=I (show zX (λb=>b<w.heap.size) (r.alloc (oFg f.op f.num D f.args.length E)) r.heap.size 0 [f] from zX.mk1 (by simp) (by simp;omega) (zm F rfl) (zm F rfl) (zm F rfl) (by omega) (K.1.below h.1));have A:=I (L.1.below h.1);have C:=I (Lib.grownBy_trans M.1 (zP (some q) h.1));clear F;generalize r.alloc (oFg f.op f.num D f.args.length E)=W3 at*;refine ca (zfs [] none 0 (λb=>b<w.heap.size) (by simp) f r.heap.size 0 W3 z.1 HK.1 (.inl rfl)) λw4 o=>?_;have j:=I (A.1.below o);have N:=I (Lib.grownBy_trans C.1 (zP (some q) o));clear o A C z h;rw[<-v.1];have y2:w4.cell? ⟨p,2,none⟩=some (.map (some q)):=zm j.1.box rfl;have ys:=j.1.lt.1;obtain⟨w5,P1,V5,P⟩:=zsG j.1.vals i;have Q:=I (j.1.grown P V5);have R:=I (Lib.grownBy_trans N.1 P);clear V5 P;go_wp2_with fail;go_ret;exact⟨rfl,Q.1,R.1⟩
theorem zle:(prog.info? 129).map (λi=>(i.zero,i.size,i.bytes))=some (some (.agg #[.int .i64 0,.int .i64 0,.slice none 0 0]),3,40):=by kernel_rfl
theorem zoi(n:Nat)(f:n<=200)(w:World):(Instr.makeSlice 120 (.int .i64 (n:Int)) (.int .i64 (n:Int))).run prog w=.ok (.slice (some ⟨w.heap.size,0,none⟩) n n) (w.alloc (.cells (madeCells #[.int .i64 0,.int .i64 0,.slice none 0 0] (n*3)) 129)):=by
 obtain⟨i,b,c,d,e⟩:=info_parts zle;have a:=run_make (P:=prog) w 120 129 i (.agg #[.int .i64 0,.int .i64 0,.slice none 0 0]) underlying120 b c .i64 .i64 n n (by omega) (Int.le_refl _) (by rw[e];omega) (by omega);simp only[Int.toNat_natCast,d]at a;exact a
inductive FRow(X:Nat->Prop)(w:World):List Value->List zE->Prop
 |nil:FRow X w [] []
 |snoc {cs:List Value} {fs:List zE} {f:zE} {a:zua} {cap:Nat} (h:FRow X w cs fs) (hl:f.args.length<=140737488355328) (ha:zax X w a f.args):FRow X w (cs++ [.int .i64 f.op,.int .i64 f.num,.slice a f.args.length cap]) (fs++ [f])
theorem FRow.len{X:Nat->Prop}{w:World}{a:List Value}{b:List zE}(h:FRow X w a b):a.length=b.length*3:=by
 induction h with
 |nil=>rfl
 |snoc h hl ha ih=>simp[ih];omega
theorem FRow.step{X X':Nat->Prop}{w w':World}{a:List Value}{c:List zE}(h:FRow X w a c)(d:w.heap.size<=w'.heap.size)(e:∀b,b<w.heap.size->¬ X b->w'.heap[b]?=w.heap[b]?)(f:∀b,b<w.heap.size->X' b->X b):FRow X' w' a c:=by
 induction h with
 |nil=>exact .nil
 |snoc h hl ha ih=>exact .snoc ih hl (ha.step d e f)
theorem zX.app{X:Nat->Prop}{w:World}{b:Nat}:∀{l:List zE} {a:Nat} {f:zE},zX X w b a l->zX X w b (a+l.length*3) [f]->zX X w b a (l++ [f]):=by
 intro l;induction l with
 |nil=>intro a f _ h;simpa using h
 |cons x l ih=>
  intro a f h c;cases h with
  |cons hb hX h0 h1' h2 hl ha hx ht=>
   refine .cons hb hX h0 h1' h2 hl ha hx (ih ht ?_);have e:a+(x::l).length*3=a+3+l.length*3:=by simp;omega
   rw[e]at c;exact c
theorem FRow.forms{X:Nat->Prop}{w:World}{c:List Value}{l:List zE}(h:FRow X w c l){b:Nat}{C:Array Value}{t:TypeId}(k:w.heap[b]?=some (.cells C t (0,0)))(n:¬ X b)(d:C.toList.take c.length=c):zX X w b 0 l:=by
 have o:=ztW k;induction h with
 |nil=>exact .nil _ _
 | @snoc c l f a cap h hl ha ih=>
  have g:=h.len;have i:C.toList.take c.length=c:=by
   have:=congrArg (List.take c.length) d;rw[List.take_take]at this;simpa using this
  have m:∀j v, [Value.int .i64 f.op,.int .i64 f.num,.slice a f.args.length cap][j]?=some v->C[c.length+j]?=some v:=λj v hv=>by
   have p:j<3:=by
    have:=(List.getElem?_eq_some_iff.1 hv).1;simpa using this
   have e:(C.toList.take (c++ [Value.int .i64 f.op,.int .i64 f.num,.slice a f.args.length cap]).length)[c.length+j]?=some v:=by
    rw[d,zt9 (by omega),Nat.add_sub_cancel_left];exact hv
   rw[List.getElem?_take,if_pos (by simp;omega)]at e;simpa using e
  refine zX.app (ih i) ?_;rw[Nat.zero_add,<-g];exact zX.mk1 o n (zm (j:=c.length) k (m 0 _ rfl)) (zm (j:=c.length+1) k (m 1 _ rfl)) (zm (j:=c.length+2) k (m 2 _ rfl)) hl ha
theorem zsA{b:ByteArray->Option (Int×Int)}{k o d:Int}{s:ByteArray}{a:List zH}(h:(tyE b k (.mk o d s a)).2=0)(e:o≠6):∀j,j<a.length->(tyE b k (eAt a j)).2=0:=by
 rw[tyE,if_neg e]at h;by_cases c:(tyL b k a).1≠0
 . rw[if_pos c]at h;exact absurd h c
 exact λj hj=>((zjh (Classical.not_not.1 c)).2 j hj).1
theorem zb6(w:World){a b:Nat}(h:b≠a)(o c d f:Nat)(g i j:Value):(((w.setCell ⟨a,c,none⟩ g).setCell ⟨a,d,none⟩ i).setCell ⟨a,f,none⟩ j).cell? ⟨b,o,none⟩=w.cell? ⟨b,o,none⟩:=by
 have e:(((w.setCell ⟨a,c,none⟩ g).setCell ⟨a,d,none⟩ i).setCell ⟨a,f,none⟩ j).heap[b]?=w.heap[b]?:=by
  rw[Below.heap_setCell _ _ _ _ h,Below.heap_setCell _ _ _ _ h,Below.heap_setCell _ _ _ _ h]
 simp only[World.cell?,e]
theorem zec{w w':World}{a:Option Nat}(h:w.grownBy w' a):w.grownBy w'.drew a:=⟨h.os,h.tape,h.output,h.size,h.block⟩
theorem zkK{C:Array Value}{b:List Value}{m:Nat}(h:C.toList.take m=b)(f:m+3<=C.size)(c d e:Value):(((C.setIfInBounds m c).setIfInBounds (m+1) d).setIfInBounds (m+2) e).toList.take (m+3)=b++ [c,d,e]:=by
 subst h;obtain⟨L⟩:=C;simp only[List.setIfInBounds_toArray,List.size_toArray]at f ⊢;have g:L=L.take m++L.drop m:=(List.take_append_drop m L).symm;obtain⟨x,y,z,T,i⟩:∃x y z T,L.drop m=x::y::z::T:=by
  have j:3<=(L.drop m).length:=by simp;omega
  match hh:L.drop m,j with
  |x::y::z::T,_=>exact⟨x,y,z,T,rfl⟩
 have a:(L.take m).length=m:=by simp;omega
 generalize L.take m=A at*;rw[g,i];subst a;simp[List.set_append,List.take_append]
 exact List.take_of_length_le (by omega)
theorem zlA(B kp ib vb:Nat)(ps:List Nat)(l:List zB)(a:zua)(cap:Nat)(n:Nat)(k:Nat)(hk:k<4)(o K:Int)(s:ByteArray)(c:List zH)(o7:7<=o)(M:zua)(T:Nat)(w:World)(hC:zbo B w kp ib vb ps l a cap)(g3:wfE (.mk o K s c)=true)(a9:cntE (.mk o K s c)<=200)(ht:(tyE (lkC l n) k (.mk o K s c)).2=0)(ha:zaz B w M c) 
 (IH:ztR (∀x:zH,SizeOf.sizeOf x<SizeOf.sizeOf (zH.mk o K s c)->∀(M:zua) (T:Nat) (w:World),zbo B w kp ib vb ps l a cap->za2 x->wfE x=true->cntE x<=200->(tyE (lkC l n) k x).2=0->zaz B w M x.args->
  Calls prog 59 #[.pointer (some ⟨kp,0,none⟩),k,.agg #[x.op,x.num,.string x.name,.slice M x.args.length T]] w (zgk B kp ib vb ps l a cap w (cmpE (cvC l n) k x)))):
 Calls prog 59 #[.pointer (some ⟨kp,0,none⟩),k,.agg #[o,K,.string s,.slice M c.length T]] w (zgk B kp ib vb ps l a cap w (cmpE (cvC l n) k (.mk o K s c))):=by
 have HC:=I hC;have HA:=I ha;have HT:=I ht;have hB:B<=w.heap.size:=ztV hC.bp (Nat.le_of_lt hC.lt.1);obtain⟨h8,h9,i0⟩:=hC.lt;have g4:=hC.bv;obtain⟨hh,g5⟩:=ze8 g3;have i1:1+cntL c<=200:=by rw[cntE]at a9;exact a9
 have b0:c.length<=200:=by have:=zgZ c;omega
 have n1:(o==1)=false:=by simp;omega
 have n2:(o==2)=false:=by simp;omega
 have n3:(o==3)=false:=by simp;omega
 have n4:(o==4)=false:=by simp;omega
 have n5:(o==5)=false:=by simp;omega
 have n6:(o==6)=false:=by simp;omega
 have HW:=I g5;have g6:=zoi c.length b0;clear hC ha ht g3 a9 hh g5;go_enter func59,ntmps59
 go_wp2_with fail;have Hz:=I (show cmpE (cvC l n) k (.mk o K s c)=.mk o 0 (cmpL (cvC l n) k c) by rw[cmpE,if_neg (by omega),if_neg (by omega),if_neg (by omega),if_neg (by omega)]);have g7:=I (zsA HT.1 (by omega));go_region
 . have e2:((w.alloc (oEg o K s M c.length T)).alloc jC).heap.size=w.heap.size+1+1:=by rw[zr,zr]
   obtain⟨W,hW⟩:∃W,W=((((w.alloc (oEg o K s M c.length T)).alloc jC).alloc (Obj.cells (madeCells #[.int .i64 0,.int .i64 0,.slice none 0 0] (c.length*3)) 129)).alloc (oFg o 0 (some ⟨w.heap.size+1+1,0,none⟩) c.length c.length)).drew:=⟨_,rfl⟩;have HB:=I (show Bw w W by rw[hW];exact(ztS (ztS (J w _) (J _ _)) (ztS (J _ _) (J _ _))).drew);have QR:=I (show W.heap[w.heap.size+1]?=some jC by rw[hW,<-zr w (oEg o K s M c.length T)];exact zd (zd (zh (w.alloc (oEg o K s M c.length T)) _)));have QX:=I (show W.heap[w.heap.size]?=some (oEg o K s M c.length T) by rw[hW];exact zd (zd (zd (zh w _))));have QF:=I (show W.heap[w.heap.size+1+1+1]?=some (oFg o 0 (some ⟨w.heap.size+1+1,0,none⟩) c.length c.length) by have h:=zh (((w.alloc (oEg o K s M c.length T)).alloc jC).alloc (Obj.cells (madeCells #[.int .i64 0,.int .i64 0,.slice none 0 0] (c.length*3)) 129)) (oFg o 0 (some ⟨w.heap.size+1+1,0,none⟩) c.length c.length);rw[zr,e2]at h;rw[hW];exact h);have QA:=I (show W.heap[w.heap.size+1+1]?=some (Obj.cells (madeCells #[.int .i64 0,.int .i64 0,.slice none 0 0] (c.length*3)) 129) by rw[hW,<-e2];exact zd (zh ((w.alloc (oEg o K s M c.length T)).alloc jC) _));change Exit.then _ _ _ _ (((((w.alloc (oEg o K s M c.length T)).alloc jC).alloc (Obj.cells (madeCells #[.int .i64 0,.int .i64 0,.slice none 0 0] (c.length*3)) 129)).alloc (oFg o 0 (some ⟨w.heap.size+1+1,0,none⟩) c.length c.length)).drew)
   rw[<-hW];clear hW g6 e2;obtain⟨L,b1⟩:∃L,L=w.heap.size+1+1+1:=⟨_,rfl⟩;simp only[<-b1]at QF QA ⊢;obtain⟨g,b2⟩:∃g,g=w.heap.size+1+1:=⟨_,rfl⟩;simp only[<-b2]at QF QA ⊢;have d2:w.heap.size+1<L/\w.heap.size+1<g/\L≠g:=by omega
   obtain⟨g8,g9,b3⟩:=d2;have d3:W.cell? ⟨w.heap.size,3,none⟩=some (.slice M c.length T):=zm QX.1 rfl;have d4:=ztW QX.1;have b4:=I (HC.1.below HB.1);clear b2 b1;go_wp2_with fail;clear d3 d4 QX;go_loopw [65] (λi wr=>∃(j:Nat) (C:Array Value) (cs:List Value),j<=c.length/\i=.int .i64 j/\ztR (C.size=c.length*3/\C.toList.take (j*3)=cs)/\ztR (FRow (λb=>b<w.heap.size+2\/b=g) wr cs (cmpL (cvC l n) k (c.take j)))/\ztR (wr.heap[w.heap.size+1]?=some jC)/\ztR (wr.heap[L]?=some (oFg o 0 (some ⟨g,0,none⟩) c.length c.length))/\ztR (wr.heap[g]?=some (Obj.cells C 129 (0,0)))/\ztR (zbo B wr kp ib vb ps l a cap)/\ztR (w.grownBy wr (some vb))) (λi _=>c.length-(intOf i).toNat)
   case atStart=>exact⟨0,_, [],ztX _,rfl,I ⟨by rw[size_madeCells],by simp⟩,I (by rw[List.take_zero,cmpL];exact .nil),QR,QF,QA,b4,I (zP _ HB.1)⟩
   clear QR QF QA b4 HB W;obtain⟨j,C,cs,U,rfl,F,A,p,t,G,hC,N⟩:=hrel;by_cases H:j<c.length
   . obtain⟨b,h0,rfl,hb,b5⟩:=HA.1.cells (by omega);have b6:Below B w wr:=(ztT B w).grown N.1 hB (λj U=>by cases U;exact g4);obtain⟨D,d,h3,⟨c0,c1,c2,c3⟩,Z,P⟩:=(b5.keep b6).at j H;have h4:=ztW G.1;have h5:=ztW t.1;have h6:b<wr.heap.size:=by omega
     have HF:=I Z;have b7:=I (P.keep ((J wr (oE (eAt c j) D d)).mono (by omega)));have b8:=I (hC.1.below (J wr (oE (eAt c j) D d)));have b9:=I (Lib.grownBy_trans N.1 (zP (some vb) (J wr (oE (eAt c j) D d))));have c4:=I (A.1.step (J wr (oE (eAt c j) D d)).size (λb h _=>(J wr (oE (eAt c j) D d)).block b h) (λ_ _ h=>h));have V:=I (zd (o':=(oE (eAt c j) D d)) p.1);have z:=I (zd (o':=(oE (eAt c j) D d)) t.1);have a7:=I (zd (o':=(oE (eAt c j) D d)) G.1);have q:=I (zh wr (oE (eAt c j) D d));clear P b5 Z hC N p t G b6 A;go_wp2_with fail;generalize wr.alloc (oE (eAt c j) D d)=r at*;have z2:r.drew.cell? ⟨L,2,none⟩=some (.slice (some ⟨g,0,none⟩) c.length c.length):=zm z.1 rfl;have x0:r.drew.cell? ⟨wr.heap.size,0,none⟩=some (.int .i64 (eAt c j).op):=zm q.1 rfl;have x1:r.drew.cell? ⟨wr.heap.size,1,none⟩=some (.int .i64 (eAt c j).num):=zm q.1 rfl;have x2:r.drew.cell? ⟨wr.heap.size,2,none⟩=some (.string (eAt c j).name):=zm q.1 rfl;have x3:r.drew.cell? ⟨wr.heap.size,3,none⟩=some (.slice D (eAt c j).args.length d):=zm q.1 rfl;have d5:r.cell? ⟨L,2,none⟩=some (.slice (some ⟨g,0,none⟩) c.length c.length):=zm z.1 rfl;have d6:r.cell? ⟨wr.heap.size,0,none⟩=some (.int .i64 (eAt c j).op):=zm q.1 rfl;have d7:r.cell? ⟨wr.heap.size,1,none⟩=some (.int .i64 (eAt c j).num):=zm q.1 rfl;have d8:r.cell? ⟨wr.heap.size,2,none⟩=some (.string (eAt c j).name):=zm q.1 rfl;have d9:r.cell? ⟨wr.heap.size,3,none⟩=some (.slice D (eAt c j).args.length d):=zm q.1 rfl;have xs:=ztW q.1;have a0:=I (b8.1.below ((ztT _ r).drew));have a1:=I (b7.1.keep ((ztT B r).drew));have f0:=zbM (x:=.mk o K s c) H;have f1:=zkq HW.1 j H;have f2:cntE (eAt c j)<=200:=by have:=zhW (l:=c) j H;omega
     have f3:=g7.1 j H;have f4:r.drew.heap.size=r.heap.size:=rfl;have a3:=ztW a7.1;have a4:=ztW z.1;have y:=ztW q.1;have X:wr.heap.size≠g:=by omega
     have a5:j*3+3<=C.size:=by have:=F.1.1;omega
     clear d5 d6 d7 d8 d9 xs;obtain⟨WD,f5⟩:∃WD,WD=r.drew:=⟨_,rfl⟩;go_region_held3 (λw'=>w'.cell? ⟨L,2,none⟩=some (.slice (some ⟨g,0,none⟩) c.length c.length)/\w'.cell? ⟨wr.heap.size,0,none⟩=some (.int .i64 (eAt c j).op)/\w'.cell? ⟨wr.heap.size,1,none⟩=some (.int .i64 (eAt c j).num)/\w'.cell? ⟨wr.heap.size,2,none⟩=some (.string (eAt c j).name)/\w'.cell? ⟨wr.heap.size,3,none⟩=some (.slice D (eAt c j).args.length d)) (first|exact⟨z2,x0,x1,x2,x3⟩|exact⟨k2,k3,k4,k5,k6⟩|exact⟨(zb6 _ b3 _ _ _ _ _ _ _).trans k2,(zb6 _ X _ _ _ _ _ _ _).trans k3,(zb6 _ X _ _ _ _ _ _ _).trans k4,(zb6 _ X _ _ _ _ _ _ _).trans k5,(zb6 _ X _ _ _ _ _ _ _).trans k6⟩)
      (first|(go_at_call 59;refine(IH.1 (eAt c j) f0 D d r.drew a0.1 HF.1 f1 f2 f3 a1.1).mono ?_;rintro e w2 ⟨fa,Y,rfl,a8,c5,c6,m⟩;have q4:=(m.block _ a3 (by simp;omega)).trans a7.1;have k2:=(m.cell_far ⟨L,2,none⟩ a4 (by simp;omega)).trans z2;have k3:=(m.cell_far ⟨wr.heap.size,0,none⟩ y (by simp;omega)).trans x0;have k4:=(m.cell_far ⟨wr.heap.size,1,none⟩ y (by simp;omega)).trans x1;have k5:=(m.cell_far ⟨wr.heap.size,2,none⟩ y (by simp;omega)).trans x2;have k6:=(m.cell_far ⟨wr.heap.size,3,none⟩ y (by simp;omega)).trans x3;have y0:=zm (j:=j*3) q4 (Array.getElem?_eq_getElem (by omega));have y1:=zm (j:=j*3+1) q4 (Array.getElem?_eq_getElem (by omega));have y2:=zm (j:=j*3+2) q4 (Array.getElem?_eq_getElem (by omega));have u0:=zQ (j:=j*3) q4;have u1:=zQ (j:=j*3+1) q4;have u2:=zQ (j:=j*3+2) q4))
     obtain⟨f,R⟩:∃f,f=cmpE (cvC l n) k (eAt c j):=⟨_,rfl⟩;rw[<-R]at a8 c5;simp only[<-R];have h7:vb≠g:=by omega
     have G3:=Lib.grownBy_setB (Lib.grownBy_setB (Lib.grownBy_setCell w2 g (j*3) (.int .i64 f.op)) (j*3+1) (.int .i64 f.num)) (j*3+2) (.slice fa f.args.length Y);have s2:r.heap.size<=w2.heap.size:=m.size;have s3:w2.heap.size<=(((w2.setCell ⟨g,j*3,none⟩ (.int .i64 f.op)).setCell ⟨g,j*3+1,none⟩ (.int .i64 f.num)).setCell ⟨g,j*3+2,none⟩ (.slice fa f.args.length Y)).heap.size:=G3.size;have a6:=a8.step (X':=λb=>b<w.heap.size+2\/b=g) s3 (λb h1 h2=>G3.block b h1 (by simp;intro e;exact h2 (by show b<r.heap.size;omega))) (λb h1 h2=>by show b<r.heap.size;rcases h2 with h2|h2 <;> omega);have c7:=c4.1.step (X':=λb=>b<w.heap.size+2\/b=g) (ztV s2 s3) (λb h1 h2=>(G3.block b (by omega) (by simp;intro e;exact h2 (.inr e))).trans (m.block b h1 (by simp;intro e;exact h2 (.inl (by omega))))) (λb _ h=>h);have c8:=I (FRow.snoc (cap:=Y) c7 (by omega) a6);rw[R,<-zfQ (cvC l n) k c j H,<-R]at c8;have Q3:=I (zg (i:=j*3+2) (u:=.slice fa f.args.length Y) (zg (i:=j*3+1) (u:=.int .i64 f.num) (zg (i:=j*3) (u:=.int .i64 f.op) q4)));have c9:=I (show(((C.setIfInBounds (j*3) (.int .i64 f.op)).setIfInBounds (j*3+1) (.int .i64 f.num)).setIfInBounds (j*3+2) (.slice fa f.args.length Y)).size=c.length*3/\(((C.setIfInBounds (j*3) (.int .i64 f.op)).setIfInBounds (j*3+1) (.int .i64 f.num)).setIfInBounds (j*3+2) (.slice fa f.args.length Y)).toList.take ((j+1)*3)=cs++ [.int .i64 f.op,.int .i64 f.num,.slice fa f.args.length Y] from⟨by simp[F.1.1],by have:=zkK F.1.2 a5 (.int .i64 f.op) (.int .i64 f.num) (.slice fa f.args.length Y);rw[show(j+1)*3=j*3+3 by omega];exact this⟩);have f6:=I ((G3.block _ (by have:=ztW V.1;omega) (by simp;omega)).trans ((m.block _ (ztW V.1) (by simp;omega)).trans V.1));have f7:=I ((G3.block _ (by have:=ztW z.1;omega) (by simp;omega)).trans ((m.block _ (ztW z.1) (by simp;omega)).trans z.1));have f8:=I (c6.other G3 (λj U=>by cases U;omega) (by simp;omega) (by simp;omega) (by simp;omega) (λk hk=>by have:=(HC.1.places k hk).lt;simp;omega));have f9:=I ((Lib.grownBy_trans (zec b9.1) m).andThen G3 (λj U=>by cases U;exact .inl (by omega)));clear a8 c5 c6 m q4 k2 k3 k4 k5 k6 y0 y1 y2 u0 u1 u2 G3 a6 c7 c4 V z a7 q b8 a0 b9 a1 b7 z2 x0 x1 x2 x3 f4 a3 a4 y a5 F R c0 c1 c2 c3 s2 s3 f5;generalize (((w2.setCell ⟨g,j*3,none⟩ (.int .i64 f.op)).setCell ⟨g,j*3+1,none⟩ (.int .i64 f.num)).setCell ⟨g,j*3+2,none⟩ (.slice fa f.args.length Y))=W4 at*;go_wp2_with fail;go_roundw
     case rel=>exact⟨j+1,_,_,by omega,by go_num,c9,c8,f6,f7,Q3,f8,f9⟩
     case measure=>simp[intOf];omega
   obtain rfl:j=c.length:=by omega
   have E:=A.1;rw[List.take_length]at E;have v0:wr.cell? ⟨L,0,none⟩=some (.int .i64 o):=zm t.1 rfl;have v1:wr.cell? ⟨L,1,none⟩=some (.int .i64 0):=zm t.1 rfl;have v2:wr.cell? ⟨L,2,none⟩=some (.slice (some ⟨g,0,none⟩) c.length c.length):=zm t.1 rfl;have y0:wr.cell? ⟨w.heap.size+1,0,none⟩=some (.int .i64 0):=zm p.1 rfl;have y1:wr.cell? ⟨w.heap.size+1,1,none⟩=some (.int .i64 0):=zm p.1 rfl;have y2:wr.cell? ⟨w.heap.size+1,2,none⟩=some (.slice none 0 0):=zm p.1 rfl;have u0:wr.frozen? ⟨w.heap.size+1,0,none⟩=false:=zQ p.1;have u1:wr.frozen? ⟨w.heap.size+1,1,none⟩=false:=zQ p.1;have u2:wr.frozen? ⟨w.heap.size+1,2,none⟩=false:=zQ p.1;have us:=ztW p.1;have uf:=ztW t.1;have ua:=ztW G.1;have Q:=zg (i:=2) (u:=.slice (some ⟨g,0,none⟩) c.length c.length) (zg (i:=1) (u:=.int .i64 0) (zg (i:=0) (u:=.int .i64 o) p.1));have G1:=Lib.grownBy_setB (Lib.grownBy_setB (Lib.grownBy_setCell wr (w.heap.size+1) 0 (.int .i64 o)) 1 (.int .i64 0)) 2 (.slice (some ⟨g,0,none⟩) c.length c.length);have r0:(((wr.setCell ⟨w.heap.size+1,0,none⟩ (.int .i64 o)).setCell ⟨w.heap.size+1,1,none⟩ (.int .i64 0)).setCell ⟨w.heap.size+1,2,none⟩ (.slice (some ⟨g,0,none⟩) c.length c.length)).cell? ⟨w.heap.size+1,0,none⟩=some (.int .i64 o):=zm Q rfl;have r1:(((wr.setCell ⟨w.heap.size+1,0,none⟩ (.int .i64 o)).setCell ⟨w.heap.size+1,1,none⟩ (.int .i64 0)).setCell ⟨w.heap.size+1,2,none⟩ (.slice (some ⟨g,0,none⟩) c.length c.length)).cell? ⟨w.heap.size+1,1,none⟩=some (.int .i64 0):=zm Q rfl;have r2:(((wr.setCell ⟨w.heap.size+1,0,none⟩ (.int .i64 o)).setCell ⟨w.heap.size+1,1,none⟩ (.int .i64 0)).setCell ⟨w.heap.size+1,2,none⟩ (.slice (some ⟨g,0,none⟩) c.length c.length)).cell? ⟨w.heap.size+1,2,none⟩=some (.slice (some ⟨g,0,none⟩) c.length c.length):=zm Q rfl;have g0:=I (N.1.andThen G1 (λj U=>by cases U;exact .inl (by omega)));have g1:=I (hC.1.other G1 (λj U=>by cases U;omega) (by simp;omega) (by simp;omega) (by simp;omega) (λk hk=>by have:=(HC.1.places k hk).lt;simp;omega));have S:cs.length=c.length*3:=by rw[E.len,zc5]
   have d0:C.toList.take cs.length=cs:=by rw[S];exact F.1.2
   have d1:=E.step (X':=λb=>b<w.heap.size) (w':=(((wr.setCell ⟨w.heap.size+1,0,none⟩ (.int .i64 o)).setCell ⟨w.heap.size+1,1,none⟩ (.int .i64 0)).setCell ⟨w.heap.size+1,2,none⟩ (.slice (some ⟨g,0,none⟩) c.length c.length))) G1.size (λb h1 h2=>G1.block b h1 (by simp;intro e;exact h2 (.inl (by omega)))) (λb _ h=>.inl (by omega));have g2:=I (d1.forms (b:=g) ((G1.block g ua (by simp;omega)).trans G.1) (by omega) d0);clear Q G1 d1 d0 S E A F p t G hC N;go_wp2_with fail;generalize (((wr.setCell ⟨w.heap.size+1,0,none⟩ (.int .i64 o)).setCell ⟨w.heap.size+1,1,none⟩ (.int .i64 0)).setCell ⟨w.heap.size+1,2,none⟩ (.slice (some ⟨g,0,none⟩) c.length c.length))=Wf at*;refine bodyPost_ret (v:=.agg #[o,.int .i64 0,.slice (some ⟨g,0,none⟩) c.length c.length]) (by simp[results,results59,go_sem,r0,r1,r2]) rfl ?_;rw[Hz.1];refine⟨some ⟨g,0,none⟩,c.length,?_,⟨g,0,λ_=>rfl,g2.1⟩,?_,g1.1,g0.1⟩
   . simp only[zE.op,zE.num,zE.args,zc5]
   simp only[zE.args,zc5];exact b0
 have e2:((w.alloc (oEg o K s M c.length T)).alloc jC).heap.size=w.heap.size+1+1:=by rw[zr,zr]
 obtain⟨W,hW⟩:∃W,W=((((w.alloc (oEg o K s M c.length T)).alloc jC).alloc (oFg o 0 (some ⟨w.heap.size+1+1+1,0,none⟩) c.length c.length)).alloc (Obj.cells (madeCells #[.int .i64 0,.int .i64 0,.slice none 0 0] (c.length*3)) 129)).drew:=⟨_,rfl⟩;have HB:=I (show Bw w W by rw[hW];exact(ztS (ztS (J w _) (J _ _)) (ztS (J _ _) (J _ _))).drew);have QR:=I (show W.heap[w.heap.size+1]?=some jC by rw[hW,<-zr w (oEg o K s M c.length T)];exact zd (zd (zh (w.alloc (oEg o K s M c.length T)) _)));have QX:=I (show W.heap[w.heap.size]?=some (oEg o K s M c.length T) by rw[hW];exact zd (zd (zd (zh w _))));have QF:=I (show W.heap[w.heap.size+1+1]?=some (oFg o 0 (some ⟨w.heap.size+1+1+1,0,none⟩) c.length c.length) by rw[hW,<-e2];exact zd (zh ((w.alloc (oEg o K s M c.length T)).alloc jC) _));have QA:=I (show W.heap[w.heap.size+1+1+1]?=some (Obj.cells (madeCells #[.int .i64 0,.int .i64 0,.slice none 0 0] (c.length*3)) 129) by have h:=zh (((w.alloc (oEg o K s M c.length T)).alloc jC).alloc (oFg o 0 (some ⟨w.heap.size+1+1+1,0,none⟩) c.length c.length)) (Obj.cells (madeCells #[.int .i64 0,.int .i64 0,.slice none 0 0] (c.length*3)) 129);rw[zr,e2]at h;rw[hW];exact h);change Exit.then _ _ _ _ (((((w.alloc (oEg o K s M c.length T)).alloc jC).alloc (oFg o 0 (some ⟨w.heap.size+1+1+1,0,none⟩) c.length c.length)).alloc (Obj.cells (madeCells #[.int .i64 0,.int .i64 0,.slice none 0 0] (c.length*3)) 129)).drew)
 rw[<-hW];clear hW g6 e2;obtain⟨g,b2⟩:∃g,g=w.heap.size+1+1+1:=⟨_,rfl⟩;simp only[<-b2]at QF QA ⊢;obtain⟨L,b1⟩:∃L,L=w.heap.size+1+1:=⟨_,rfl⟩;simp only[<-b1]at QF QA ⊢;have d2:w.heap.size+1<L/\w.heap.size+1<g/\L≠g:=by omega
 obtain⟨g8,g9,b3⟩:=d2;have d3:W.cell? ⟨w.heap.size,3,none⟩=some (.slice M c.length T):=zm QX.1 rfl;have d4:=ztW QX.1;have b4:=I (HC.1.below HB.1);clear b2 b1;go_wp2_with fail;clear d3 d4 QX;go_loopw [65] (λi wr=>∃(j:Nat) (C:Array Value) (cs:List Value),j<=c.length/\i=.int .i64 j/\ztR (C.size=c.length*3/\C.toList.take (j*3)=cs)/\ztR (FRow (λb=>b<w.heap.size+2\/b=g) wr cs (cmpL (cvC l n) k (c.take j)))/\ztR (wr.heap[w.heap.size+1]?=some jC)/\ztR (wr.heap[L]?=some (oFg o 0 (some ⟨g,0,none⟩) c.length c.length))/\ztR (wr.heap[g]?=some (Obj.cells C 129 (0,0)))/\ztR (zbo B wr kp ib vb ps l a cap)/\ztR (w.grownBy wr (some vb))) (λi _=>c.length-(intOf i).toNat)
 case atStart=>exact⟨0,_, [],ztX _,rfl,I ⟨by rw[size_madeCells],by simp⟩,I (by rw[List.take_zero,cmpL];exact .nil),QR,QF,QA,b4,I (zP _ HB.1)⟩
 clear QR QF QA b4 HB W;obtain⟨j,C,cs,U,rfl,F,A,p,t,G,hC,N⟩:=hrel;by_cases H:j<c.length
 . obtain⟨b,h0,rfl,hb,b5⟩:=HA.1.cells (by omega);have b6:Below B w wr:=(ztT B w).grown N.1 hB (λj U=>by cases U;exact g4);obtain⟨D,d,h3,⟨c0,c1,c2,c3⟩,Z,P⟩:=(b5.keep b6).at j H;have h4:=ztW G.1;have h5:=ztW t.1;have h6:b<wr.heap.size:=by omega
   have HF:=I Z;have b7:=I (P.keep ((J wr (oE (eAt c j) D d)).mono (by omega)));have b8:=I (hC.1.below (J wr (oE (eAt c j) D d)));have b9:=I (Lib.grownBy_trans N.1 (zP (some vb) (J wr (oE (eAt c j) D d))));have c4:=I (A.1.step (J wr (oE (eAt c j) D d)).size (λb h _=>(J wr (oE (eAt c j) D d)).block b h) (λ_ _ h=>h));have V:=I (zd (o':=(oE (eAt c j) D d)) p.1);have z:=I (zd (o':=(oE (eAt c j) D d)) t.1);have a7:=I (zd (o':=(oE (eAt c j) D d)) G.1);have q:=I (zh wr (oE (eAt c j) D d));clear P b5 Z hC N p t G b6 A;go_wp2_with fail;generalize wr.alloc (oE (eAt c j) D d)=r at*;have z2:r.drew.cell? ⟨L,2,none⟩=some (.slice (some ⟨g,0,none⟩) c.length c.length):=zm z.1 rfl;have x0:r.drew.cell? ⟨wr.heap.size,0,none⟩=some (.int .i64 (eAt c j).op):=zm q.1 rfl;have x1:r.drew.cell? ⟨wr.heap.size,1,none⟩=some (.int .i64 (eAt c j).num):=zm q.1 rfl;have x2:r.drew.cell? ⟨wr.heap.size,2,none⟩=some (.string (eAt c j).name):=zm q.1 rfl;have x3:r.drew.cell? ⟨wr.heap.size,3,none⟩=some (.slice D (eAt c j).args.length d):=zm q.1 rfl;have d5:r.cell? ⟨L,2,none⟩=some (.slice (some ⟨g,0,none⟩) c.length c.length):=zm z.1 rfl;have d6:r.cell? ⟨wr.heap.size,0,none⟩=some (.int .i64 (eAt c j).op):=zm q.1 rfl;have d7:r.cell? ⟨wr.heap.size,1,none⟩=some (.int .i64 (eAt c j).num):=zm q.1 rfl;have d8:r.cell? ⟨wr.heap.size,2,none⟩=some (.string (eAt c j).name):=zm q.1 rfl;have d9:r.cell? ⟨wr.heap.size,3,none⟩=some (.slice D (eAt c j).args.length d):=zm q.1 rfl;have xs:=ztW q.1;have a0:=I (b8.1.below ((ztT _ r).drew));have a1:=I (b7.1.keep ((ztT B r).drew));have f0:=zbM (x:=.mk o K s c) H;have f1:=zkq HW.1 j H;have f2:cntE (eAt c j)<=200:=by have:=zhW (l:=c) j H;omega
   have f3:=g7.1 j H;have f4:r.drew.heap.size=r.heap.size:=rfl;have a3:=ztW a7.1;have a4:=ztW z.1;have y:=ztW q.1;have X:wr.heap.size≠g:=by omega
   have a5:j*3+3<=C.size:=by have:=F.1.1;omega
   clear d5 d6 d7 d8 d9 xs;obtain⟨WD,f5⟩:∃WD,WD=r.drew:=⟨_,rfl⟩;go_region_held3 (λw'=>w'.cell? ⟨L,2,none⟩=some (.slice (some ⟨g,0,none⟩) c.length c.length)/\w'.cell? ⟨wr.heap.size,0,none⟩=some (.int .i64 (eAt c j).op)/\w'.cell? ⟨wr.heap.size,1,none⟩=some (.int .i64 (eAt c j).num)/\w'.cell? ⟨wr.heap.size,2,none⟩=some (.string (eAt c j).name)/\w'.cell? ⟨wr.heap.size,3,none⟩=some (.slice D (eAt c j).args.length d)) (first|exact⟨z2,x0,x1,x2,x3⟩|exact⟨k2,k3,k4,k5,k6⟩|exact⟨(zb6 _ b3 _ _ _ _ _ _ _).trans k2,(zb6 _ X _ _ _ _ _ _ _).trans k3,(zb6 _ X _ _ _ _ _ _ _).trans k4,(zb6 _ X _ _ _ _ _ _ _).trans k5,(zb6 _ X _ _ _ _ _ _ _).trans k6⟩)
    (first|(go_at_call 59;refine(IH.1 (eAt c j) f0 D d r.drew a0.1 HF.1 f1 f2 f3 a1.1).mono ?_;rintro e w2 ⟨fa,Y,rfl,a8,c5,c6,m⟩;have q4:=(m.block _ a3 (by simp;omega)).trans a7.1;have k2:=(m.cell_far ⟨L,2,none⟩ a4 (by simp;omega)).trans z2;have k3:=(m.cell_far ⟨wr.heap.size,0,none⟩ y (by simp;omega)).trans x0;have k4:=(m.cell_far ⟨wr.heap.size,1,none⟩ y (by simp;omega)).trans x1;have k5:=(m.cell_far ⟨wr.heap.size,2,none⟩ y (by simp;omega)).trans x2;have k6:=(m.cell_far ⟨wr.heap.size,3,none⟩ y (by simp;omega)).trans x3;have y0:=zm (j:=j*3) q4 (Array.getElem?_eq_getElem (by omega));have y1:=zm (j:=j*3+1) q4 (Array.getElem?_eq_getElem (by omega));have y2:=zm (j:=j*3+2) q4 (Array.getElem?_eq_getElem (by omega));have u0:=zQ (j:=j*3) q4;have u1:=zQ (j:=j*3+1) q4;have u2:=zQ (j:=j*3+2) q4))
   obtain⟨f,R⟩:∃f,f=cmpE (cvC l n) k (eAt c j):=⟨_,rfl⟩;rw[<-R]at a8 c5;simp only[<-R];have h7:vb≠g:=by omega
   have G3:=Lib.grownBy_setB (Lib.grownBy_setB (Lib.grownBy_setCell w2 g (j*3) (.int .i64 f.op)) (j*3+1) (.int .i64 f.num)) (j*3+2) (.slice fa f.args.length Y);have s2:r.heap.size<=w2.heap.size:=m.size;have s3:w2.heap.size<=(((w2.setCell ⟨g,j*3,none⟩ (.int .i64 f.op)).setCell ⟨g,j*3+1,none⟩ (.int .i64 f.num)).setCell ⟨g,j*3+2,none⟩ (.slice fa f.args.length Y)).heap.size:=G3.size;have a6:=a8.step (X':=λb=>b<w.heap.size+2\/b=g) s3 (λb h1 h2=>G3.block b h1 (by simp;intro e;exact h2 (by show b<r.heap.size;omega))) (λb h1 h2=>by show b<r.heap.size;rcases h2 with h2|h2 <;> omega);have c7:=c4.1.step (X':=λb=>b<w.heap.size+2\/b=g) (ztV s2 s3) (λb h1 h2=>(G3.block b (by omega) (by simp;intro e;exact h2 (.inr e))).trans (m.block b h1 (by simp;intro e;exact h2 (.inl (by omega))))) (λb _ h=>h);have c8:=I (FRow.snoc (cap:=Y) c7 (by omega) a6);rw[R,<-zfQ (cvC l n) k c j H,<-R]at c8;have Q3:=I (zg (i:=j*3+2) (u:=.slice fa f.args.length Y) (zg (i:=j*3+1) (u:=.int .i64 f.num) (zg (i:=j*3) (u:=.int .i64 f.op) q4)));have c9:=I (show(((C.setIfInBounds (j*3) (.int .i64 f.op)).setIfInBounds (j*3+1) (.int .i64 f.num)).setIfInBounds (j*3+2) (.slice fa f.args.length Y)).size=c.length*3/\(((C.setIfInBounds (j*3) (.int .i64 f.op)).setIfInBounds (j*3+1) (.int .i64 f.num)).setIfInBounds (j*3+2) (.slice fa f.args.length Y)).toList.take ((j+1)*3)=cs++ [.int .i64 f.op,.int .i64 f.num,.slice fa f.args.length Y] from⟨by simp[F.1.1],by have:=zkK F.1.2 a5 (.int .i64 f.op) (.int .i64 f.num) (.slice fa f.args.length Y);rw[show(j+1)*3=j*3+3 by omega];exact this⟩);have f6:=I ((G3.block _ (by have:=ztW V.1;omega) (by simp;omega)).trans ((m.block _ (ztW V.1) (by simp;omega)).trans V.1));have f7:=I ((G3.block _ (by have:=ztW z.1;omega) (by simp;omega)).trans ((m.block _ (ztW z.1) (by simp;omega)).trans z.1));have f8:=I (c6.other G3 (λj U=>by cases U;omega) (by simp;omega) (by simp;omega) (by simp;omega) (λk hk=>by have:=(HC.1.places k hk).lt;simp;omega));have f9:=I ((Lib.grownBy_trans (zec b9.1) m).andThen G3 (λj U=>by cases U;exact .inl (by omega)));clear a8 c5 c6 m q4 k2 k3 k4 k5 k6 y0 y1 y2 u0 u1 u2 G3 a6 c7 c4 V z a7 q b8 a0 b9 a1 b7 z2 x0 x1 x2 x3 f4 a3 a4 y a5 F R c0 c1 c2 c3 s2 s3 f5;generalize (((w2.setCell ⟨g,j*3,none⟩ (.int .i64 f.op)).setCell ⟨g,j*3+1,none⟩ (.int .i64 f.num)).setCell ⟨g,j*3+2,none⟩ (.slice fa f.args.length Y))=W4 at*;go_wp2_with fail;go_roundw
   case rel=>exact⟨j+1,_,_,by omega,by go_num,c9,c8,f6,f7,Q3,f8,f9⟩
   case measure=>simp[intOf];omega
 obtain rfl:j=c.length:=by omega
 have E:=A.1;rw[List.take_length]at E;have v0:wr.cell? ⟨L,0,none⟩=some (.int .i64 o):=zm t.1 rfl;have v1:wr.cell? ⟨L,1,none⟩=some (.int .i64 0):=zm t.1 rfl;have v2:wr.cell? ⟨L,2,none⟩=some (.slice (some ⟨g,0,none⟩) c.length c.length):=zm t.1 rfl;have y0:wr.cell? ⟨w.heap.size+1,0,none⟩=some (.int .i64 0):=zm p.1 rfl;have y1:wr.cell? ⟨w.heap.size+1,1,none⟩=some (.int .i64 0):=zm p.1 rfl;have y2:wr.cell? ⟨w.heap.size+1,2,none⟩=some (.slice none 0 0):=zm p.1 rfl;have u0:wr.frozen? ⟨w.heap.size+1,0,none⟩=false:=zQ p.1;have u1:wr.frozen? ⟨w.heap.size+1,1,none⟩=false:=zQ p.1;have u2:wr.frozen? ⟨w.heap.size+1,2,none⟩=false:=zQ p.1;have us:=ztW p.1;have uf:=ztW t.1;have ua:=ztW G.1;have Q:=zg (i:=2) (u:=.slice (some ⟨g,0,none⟩) c.length c.length) (zg (i:=1) (u:=.int .i64 0) (zg (i:=0) (u:=.int .i64 o) p.1));have G1:=Lib.grownBy_setB (Lib.grownBy_setB (Lib.grownBy_setCell wr (w.heap.size+1) 0 (.int .i64 o)) 1 (.int .i64 0)) 2 (.slice (some ⟨g,0,none⟩) c.length c.length);have r0:(((wr.setCell ⟨w.heap.size+1,0,none⟩ (.int .i64 o)).setCell ⟨w.heap.size+1,1,none⟩ (.int .i64 0)).setCell ⟨w.heap.size+1,2,none⟩ (.slice (some ⟨g,0,none⟩) c.length c.length)).cell? ⟨w.heap.size+1,0,none⟩=some (.int .i64 o):=zm Q rfl;have r1:(((wr.setCell ⟨w.heap.size+1,0,none⟩ (.int .i64 o)).setCell ⟨w.heap.size+1,1,none⟩ (.int .i64 0)).setCell ⟨w.heap.size+1,2,none⟩ (.slice (some ⟨g,0,none⟩) c.length c.length)).cell? ⟨w.heap.size+1,1,none⟩=some (.int .i64 0):=zm Q rfl;have r2:(((wr.setCell ⟨w.heap.size+1,0,none⟩ (.int .i64 o)).setCell ⟨w.heap.size+1,1,none⟩ (.int .i64 0)).setCell ⟨w.heap.size+1,2,none⟩ (.slice (some ⟨g,0,none⟩) c.length c.length)).cell? ⟨w.heap.size+1,2,none⟩=some (.slice (some ⟨g,0,none⟩) c.length c.length):=zm Q rfl;have g0:=I (N.1.andThen G1 (λj U=>by cases U;exact .inl (by omega)));have g1:=I (hC.1.other G1 (λj U=>by cases U;omega) (by simp;omega) (by simp;omega) (by simp;omega) (λk hk=>by have:=(HC.1.places k hk).lt;simp;omega));have S:cs.length=c.length*3:=by rw[E.len,zc5]
 have d0:C.toList.take cs.length=cs:=by rw[S];exact F.1.2
 have d1:=E.step (X':=λb=>b<w.heap.size) (w':=(((wr.setCell ⟨w.heap.size+1,0,none⟩ (.int .i64 o)).setCell ⟨w.heap.size+1,1,none⟩ (.int .i64 0)).setCell ⟨w.heap.size+1,2,none⟩ (.slice (some ⟨g,0,none⟩) c.length c.length))) G1.size (λb h1 h2=>G1.block b h1 (by simp;intro e;exact h2 (.inl (by omega)))) (λb _ h=>.inl (by omega));have g2:=I (d1.forms (b:=g) ((G1.block g ua (by simp;omega)).trans G.1) (by omega) d0);clear Q G1 d1 d0 S E A F p t G hC N;go_wp2_with fail;generalize (((wr.setCell ⟨w.heap.size+1,0,none⟩ (.int .i64 o)).setCell ⟨w.heap.size+1,1,none⟩ (.int .i64 0)).setCell ⟨w.heap.size+1,2,none⟩ (.slice (some ⟨g,0,none⟩) c.length c.length))=Wf at*;refine bodyPost_ret (v:=.agg #[o,.int .i64 0,.slice (some ⟨g,0,none⟩) c.length c.length]) (by simp[results,results59,go_sem,r0,r1,r2]) rfl ?_;rw[Hz.1];refine⟨some ⟨g,0,none⟩,c.length,?_,⟨g,0,λ_=>rfl,g2.1⟩,?_,g1.1,g0.1⟩
 . simp only[zE.op,zE.num,zE.args,zc5]
 simp only[zE.args,zc5];exact b0
theorem ziW(B c d e:Nat)(f:List Nat)(l:List zB)(a:zua)(cap:Nat)(n:Nat)(b:∀i,i<n->i<l.length->(ctyp l i).2=0->zkm B c d e f l a cap i):ztP B c d e f l a cap n:=by
 intro k x;obtain⟨m,C⟩:∃m,m=SizeOf.sizeOf x:=⟨_,rfl⟩;induction m using Nat.strongRecOn generalizing x with
 |_ m ih=>
  subst C;intro g h w q r G j p y D;obtain⟨o,t,s,u⟩:=x;obtain⟨z,_⟩:=ze8 j;simp only[zcR,zt5]at z;obtain⟨v,A⟩:=zbz.1 z.1.1.1;by_cases E:o=6
  . subst E;exact zlz B c d e f l a cap n b k q t s u g h w r y
  by_cases F:o<=5
  . exact zly B c d e f l a cap (cvC l n) k o t s u g h w v F r
  exact zlA B c d e f l a cap n k q o t s u (by omega) g h w r j p y D (λx hx g h w v A h3 h4 h5 h6=>ih _ hx x rfl g h w q v A h3 h4 h5 h6)
theorem zj3(B b c d:Nat)(e:List Nat)(l:List zB)(a:zua)(cap:Nat)(i:Nat)(f:i<l.length)(g:(ctyp l i).2=0):zkm B b c d e l a cap i:=by
 induction i using Nat.strongRecOn with
 |_ i ih=>exact zlv B b c d e l a cap i f g (ziW B b c d e l a cap i (λj hj hjl hj0=>ih j hj hjl hj0))
theorem zmA(B b c d:Nat)(e:List Nat)(l:List zB)(a:zua)(cap:Nat)(n:Nat):ztP B b c d e l a cap n:=ziW B b c d e l a cap n (λi _ hi h0=>zj3 B b c d e l a cap i hi h0)
end Go.Proofs.YtbhhejkolnigfaaGreat
