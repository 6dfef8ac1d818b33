/- a part of the proof -/
import Derived.Laws.AppendOwnNone
import Derived.Test.YtbhhejkolnigfaaGreatH5
import Derived.Test.YtbhhejkolnigfaaGreatH3
set_option linter.unusedVariables false
set_option linter.unusedSimpArgs false
set_option maxRecDepth 100000
set_option maxHeartbeats 51200000
namespace Go.Proofs.YtbhhejkolnigfaaGreat
open Go.RowKit Go.Sort Go.Proofs.Tryz
theorem zwN(w:World)(sb:Nat)(t:TTM)(c:ConM)(P:SetP)(hS:zc6 w sb t c P)(s:ByteArray)(x y:Duty)(xa ya:zua)(xc yc:Nat)(hx:za6 t c x=0)(hy:za6 t c y=0)(a4:SlAt za3 w xa x)(a5:SlAt za3 w ya y)(q r:List Int)(qa ra:zua)(qc rc:Nat)(a6:q.length=11)(a7:r.length=11)(a8:zW w qa q)(a9:zW w ra r):
 Calls prog 95 #[.pointer (some ⟨sb,0,none⟩),.string s,.slice xa x.length xc,.slice ya y.length yc,.slice qa 11 qc,.slice ra 11 rc,.bool false] w λe w'=>∃v,e=.returned v/\w'.ownsRow w.heap.size 3 1 v 25 ((zuv t c s x y q r false).map (Value.int .i64))/\Bw w w':=by
 have b9:∀w:World,(Instr.makeSlice 72 (.int .i64 0) (.int .i64 25)).run prog w=.ok (.slice (some ⟨w.heap.size,0,none⟩) 0 25) (w.alloc jA):=λ_=>by kernel_rfl
 obtain⟨i0,F,A,B,C⟩:=info_parts zjJ;obtain⟨qb,T,rfl,c0,b0⟩:=a8.cells (by omega);obtain⟨rb,U,rfl,c1,b1⟩:=a9.cells (by omega);have b2:=I (λW (h:Bw w W)=>λi F=>zj (b0 i F) c0 h);have b3:=I (λW (h:Bw w W)=>λi F=>zj (b1 i F) c1 h);have G:=I (And.intro a6 a7);clear a6 a7;have HS:=I hS;have HX:=I hx;have HY:=I hy;have b4:=I a4;have c2:=I a5;obtain⟨c3,b5,b6,c4⟩:fstN x<t.fls.length/\lstN x<t.fls.length/\fstN y<t.fls.length/\lstN y<t.fls.length:=⟨(zfN hx).2.1,(zfN hx).2.2.2,(zfN hy).2.1,(zfN hy).2.2.2⟩;have tx:=zas hS.okT b5;have ty:=zas hS.okT b6;have cr:=zdl hS.okC;have e1:(zcK t c y).1=(fAt t.fls (fstN y)).dep-c.report:=rfl;have e2:(zcK t c x).2=(fAt t.fls (lstN x)).arr+c.release:=rfl;obtain⟨l,H⟩:∃l,l=(zcK t c y).1:=⟨_,rfl⟩;obtain⟨m,K⟩:∃m,m=(zcK t c x).2:=⟨_,rfl⟩;have hw:IntKind.i64.wrap (l-m)=l-m:=by rw[IntKind.wrap_i64,H,K,e1,e2];omega
 have V:=I (And.intro H K);obtain⟨pl,Y⟩:∃pl,pl=(fAt t.fls (lstN x)).to:=⟨_,rfl⟩;have c5:=I Y;have L:=I (show zuv t c s x y q r false=(l-m)::(if false=true then zuK t c x y else 0)::(if(pl.toList==s.toList)=true then 1 else 0)::(q++r) by rw[zuv,zuM,H,K,Y]);have FD:=I (And.intro (λ(a b:Int) (w:World)=>(by kernel_rfl:(Instr.field 144 (.agg #[a,b]) 1).run prog w=.ok (.int .i64 b) w)) (λ(a b:Int) (w:World)=>(by kernel_rfl:(Instr.field 144 (.agg #[a,b]) 0).run prog w=.ok (.int .i64 a) w)));clear hS hx hy a4 a5 a8 a9 b0 b1 tx ty cr e1 e2 H K Y c3 b5 b6 c4;go_enter func95,ntmps95
 go_wp2_with fail;have M:=I (J w jA);have b7:=I (show World.ownsRow (w.alloc jA) w.heap.size 3 1 (.slice (some ⟨w.heap.size,0,none⟩) 0 25) 0 [] from⟨rfl,.inr ⟨w.heap.size,25,_,rfl,ztY _,zh w jA,by omega,by unfold maxLen;omega,rfl,rfl⟩⟩);generalize w.alloc jA=W1 at*;refine ca (zll W1 sb t c P (HS.1.below M.1) x xa xc HX.1 (b4.1.below M.1)) λw2 Z=>?_;have N:=I (ztS M.1 Z);have b8:=I (zcn b7.1 Z);clear Z M b7 b9;have f1:=FD.1.1 (zcK t c x).1 (zcK t c x).2;go_wp2_with fail;clear f1;refine ca (zll w2 sb t c P (HS.1.below N.1) y ya yc HY.1 (c2.1.below N.1)) λw3 a0=>?_;have c6:=I (ztS N.1 a0);have c7:=I (zcn b8.1 a0);clear a0 N b8;rw[<-V.1.2];have f0:=FD.1.2 (zcK t c y).1 (zcK t c y).2;go_wp2_with fail;rw[<-V.1.1];clear f0;have D:=I (ztS c6.1 (J w3 (oQ m l)));have Q:=I (zcn c7.1 (J w3 (oQ m l)));have QP:=I (zh w3 (oQ m l));obtain⟨X,a1⟩:∃X,X=w3.heap.size:=⟨_,rfl⟩;rw[<-a1]at QP;simp only[<-a1];clear a1;generalize w3.alloc (oQ m l)=E at*;refine cb (to_any E sb t c P (HS.1.below D.1) x xa xc HX.1 (b4.1.below D.1)) ?_;rw[<-c5.1];have hn:=I (show zuv t c s x y q r false=(l-m)::0::(if(pl.toList==s.toList)=true then 1 else 0)::(q++r) from L.1);replace L:=hn;have z:=And.intro (show E.cell? ⟨X,0,none⟩=some (.int .i64 m) from zm (j:=0) QP.1 rfl) (show E.cell? ⟨X,1,none⟩=some (.int .i64 l) from zm (j:=1) QP.1 rfl);have c9:=ztW QP.1;by_cases hh:(pl.toList==s.toList)=true
 . have c8:=hh;have hj:=I (L.1.trans (by rw[if_pos hh]):zuv t c s x y q r false=(l-m)::0::1::(q++r));clear hh;have p0:E.cell? ⟨X,0,none⟩=some (.int .i64 m):=z.1;have p1:E.cell? ⟨X,1,none⟩=some (.int .i64 l):=z.2;go_wp2_with (at_builtin;refine wpList_append_own _ rfl _ _ 72 rfl w.heap.size 3 i0 (.int .i64 0) 1 8 underlying72 F A B C rfl (by decide) _ _ _ rfl (Q.1.alloc _) ⟨E.heap.size,0,none⟩ 3 3 [.int .i64 (l-m),.int .i64 0,.int .i64 1] rfl ?c0a ?c1a ?c2a ?c3a ?c4a ?c5a ?_)
   case c0a=>rfl
   case c1a=>exact zaa E [.int .i64 (l-m),.int .i64 0,.int .i64 1] 3
   case c2a=>intro u hu;simp at hu;rcases hu with rfl|rfl|rfl <;> rfl
   case c3a=>unfold maxLen;omega
   case c4a=>omega
   case c5a=>have:=D.1.size;simp;omega
   intro v1 x1 d n _;have R:=I (zaG (e':=3) D.1 rfl Q.1 n);have O1:=I d;have a2:=I (b2.1 _ R.1);clear d n p0 p1;go_wp2_with (at_builtin;refine wpList_append_own _ rfl _ _ 72 rfl w.heap.size 3 i0 (.int .i64 0) 1 8 underlying72 F A B C rfl (by decide) _ _ _ rfl O1.1 ⟨qb,T,none⟩ 11 qc (q.map (Value.int .i64)) rfl ?c0b ?c1b ?c2b ?c3b ?c4b ?c5b ?_)
   case c0b=>rw[List.length_map,G.1.1]
   case c1b=>exact zun a2.1
   case c2b=>exact zue q
   case c3b=>unfold maxLen;omega
   case c4b=>omega
   case c5b=>exact R.1.size
   intro v2 x2 f o _;have S:=I (R.1.grown o R.1.size (λk hk=>zaM O1.1 k hk));have O2:=I f;have a3:=I (b3.1 _ S.1);clear f o;go_wp2_with (at_builtin;refine wpList_append_own _ rfl _ _ 72 rfl w.heap.size 3 i0 (.int .i64 0) 1 8 underlying72 F A B C rfl (by decide) _ _ _ rfl O2.1 ⟨rb,U,none⟩ 11 rc (r.map (Value.int .i64)) rfl ?c0c ?c1c ?c2c ?c3c ?c4c ?c5c ?_)
   case c0c=>rw[List.length_map,G.1.2]
   case c1c=>exact zun a3.1
   case c2c=>exact zue r
   case c3c=>unfold maxLen;omega
   case c4c=>omega
   case c5c=>exact S.1.size
   intro v3 x3 g p _;have B3:=I (S.1.grown p S.1.size (λk hk=>zaM O2.1 k hk));have O3:=I g;clear g p;go_wp2_with fail;go_ret;exact⟨v3,rfl,by rw[hj.1];simpa using O3.1,B3.1⟩
 have c8:(pl.toList==s.toList)=false:=by simpa using hh
 have hj:=I (L.1.trans (by rw[if_neg hh]):zuv t c s x y q r false=(l-m)::0::0::(q++r));clear hh;have p0:E.cell? ⟨X,0,none⟩=some (.int .i64 m):=z.1;have p1:E.cell? ⟨X,1,none⟩=some (.int .i64 l):=z.2;go_wp2_with (at_builtin;refine wpList_append_own _ rfl _ _ 72 rfl w.heap.size 3 i0 (.int .i64 0) 1 8 underlying72 F A B C rfl (by decide) _ _ _ rfl (Q.1.alloc _) ⟨E.heap.size,0,none⟩ 3 3 [.int .i64 (l-m),.int .i64 0,.int .i64 0] rfl ?c0a ?c1a ?c2a ?c3a ?c4a ?c5a ?_)
 case c0a=>rfl
 case c1a=>exact zaa E [.int .i64 (l-m),.int .i64 0,.int .i64 0] 3
 case c2a=>intro u hu;simp at hu;rcases hu with rfl|rfl|rfl <;> rfl
 case c3a=>unfold maxLen;omega
 case c4a=>omega
 case c5a=>have:=D.1.size;simp;omega
 intro v1 x1 d n _;have R:=I (zaG (e':=3) D.1 rfl Q.1 n);have O1:=I d;have a2:=I (b2.1 _ R.1);clear d n p0 p1;go_wp2_with (at_builtin;refine wpList_append_own _ rfl _ _ 72 rfl w.heap.size 3 i0 (.int .i64 0) 1 8 underlying72 F A B C rfl (by decide) _ _ _ rfl O1.1 ⟨qb,T,none⟩ 11 qc (q.map (Value.int .i64)) rfl ?c0b ?c1b ?c2b ?c3b ?c4b ?c5b ?_)
 case c0b=>rw[List.length_map,G.1.1]
 case c1b=>exact zun a2.1
 case c2b=>exact zue q
 case c3b=>unfold maxLen;omega
 case c4b=>omega
 case c5b=>exact R.1.size
 intro v2 x2 f o _;have S:=I (R.1.grown o R.1.size (λk hk=>zaM O1.1 k hk));have O2:=I f;have a3:=I (b3.1 _ S.1);clear f o;go_wp2_with (at_builtin;refine wpList_append_own _ rfl _ _ 72 rfl w.heap.size 3 i0 (.int .i64 0) 1 8 underlying72 F A B C rfl (by decide) _ _ _ rfl O2.1 ⟨rb,U,none⟩ 11 rc (r.map (Value.int .i64)) rfl ?c0c ?c1c ?c2c ?c3c ?c4c ?c5c ?_)
 case c0c=>rw[List.length_map,G.1.2]
 case c1c=>exact zun a3.1
 case c2c=>exact zue r
 case c3c=>unfold maxLen;omega
 case c4c=>omega
 case c5c=>exact S.1.size
 intro v3 x3 g p _;have B3:=I (S.1.grown p S.1.size (λk hk=>zaM O2.1 k hk));have O3:=I g;clear g p;go_wp2_with fail;go_ret;exact⟨v3,rfl,by rw[hj.1];simpa using O3.1,B3.1⟩
mutual
theorem zwu{q c:List Int}(d:∀i,i≠1->iAt q i=iAt c i):∀(f:zE),zfv 1 f=false->fval q f=fval c f
 | .mk o n l,h=>by
  rw[zfv]at h;rw[fval,fval];by_cases b:o=1
  . rw[if_pos b,if_pos b]
  rw[if_neg b,if_neg b];by_cases a:o=6
  . rw[if_pos a]at h;rw[if_pos a,if_pos a];have e:n≠1:=by simpa using h
    exact d _ (by omega)
  rw[if_neg a]at h;rw[if_neg a,if_neg a,zwy d l h]
theorem zwy{q a:List Int}(b:∀i,i≠1->iAt q i=iAt a i):∀(l:List zE),zf6 1 l=false->za5 q l=za5 a l
 |[],_=>rfl
 |x::l,h=>by
  rw[zf6,Bool.or_eq_false_iff]at h;rw[za5,za5,zwu b x h.1,zwy b l h.2]
end
def zwe(t:TTM)(c:ConM)(s:ByteArray)(x y:Duty):List Int:=zuv t c s x y (zaZ t c x) (zaZ t c y) (zma c)
theorem zwm(t:TTM)(c:ConM)(s:ByteArray)(x y:Duty):(zwe t c s x y).length=25:=rfl
theorem zwF(t:TTM)(c:ConM)(s:ByteArray)(x y:Duty):∀i,i≠1->iAt (zwe t c s x y) i=iAt (zuh t c s x y) i
 |0,_=>rfl
 |1,h=>absurd rfl h
 |i+2,_=>rfl
theorem zxm(t:TTM)(c:ConM)(s:ByteArray)(x y:Duty):brkV c 2 (zwe t c s x y)=brkV c 2 (zuh t c s x y):=by
 cases a:zma c
 . have d:∀i,i<(zaR c 2).length->zfv 1 (ruAt (zaR c 2) i).2=false:=λi hi=>by
    have b:zhb (zaR c 2)=false:=by unfold zma at a;exact(Bool.or_eq_false_iff.1 a).1
    unfold zhb at b
    have e:=List.any_eq_false.1 b (zaR c 2)[i] (List.getElem_mem hi);rw[ruAt,zt0,zt1 hi];simpa using e
   have f:∀k,k<=(zaR c 2).length->brkF (zwe t c s x y) (zaR c 2) k=brkF (zuh t c s x y) (zaR c 2) k:=by
    intro k;induction k with
    |zero=>intro _;rfl
    |succ k ih=>
     intro g;rw[brkF,brkF,ih (by omega),zwu (zwF t c s x y) _ (d k (by omega))]
   show brkF (limV ((2:Nat):Int) (zwe t c s x y)) _ _=brkF (limV ((2:Nat):Int) (zuh t c s x y)) _ _
   rw[show limV ((2:Nat):Int) (zwe t c s x y)=zwe t c s x y from zu9 _,show limV ((2:Nat):Int) (zuh t c s x y)=zuh t c s x y from zu9 _];exact f _ (ztY _)
 unfold zwe zuh;rw[a]
theorem zxc(t:TTM)(c:ConM)(s:ByteArray)(x y:Duty):zoy c 2 (zwe t c s x y)=zoy c 2 (zuh t c s x y):=by
 cases a:zma c
 . have d:∀i,i<(zaW c 2).length->zfv 1 (gAt (zaW c 2) i)=false:=λi hi=>by
    have b:zkF (zaW c 2)=false:=by unfold zma at a;exact(Bool.or_eq_false_iff.1 a).2
    unfold zkF at b
    have e:=List.any_eq_false.1 b (zaW c 2)[i] (List.getElem_mem hi);rw[gAt,zt0,zt1 hi];simpa using e
   have f:∀k,k<=(zaW c 2).length->sumF (zwe t c s x y) (zaW c 2) k=sumF (zuh t c s x y) (zaW c 2) k:=by
    intro k;induction k with
    |zero=>intro _;rfl
    |succ k ih=>
     intro g;rw[sumF,sumF,ih (by omega),zwu (zwF t c s x y) _ (d k (by omega))]
   show sumF (limV ((2:Nat):Int) (zwe t c s x y)) _ _=sumF (limV ((2:Nat):Int) (zuh t c s x y)) _ _
   rw[show limV ((2:Nat):Int) (zwe t c s x y)=zwe t c s x y from zu9 _,show limV ((2:Nat):Int) (zuh t c s x y)=zuh t c s x y from zu9 _];exact f _ (ztY _)
 unfold zwe zuh;rw[a]
theorem zwZ{t:TTM}{c:ConM}{s:ByteArray}{x y:Duty}(f:zY t=0)(g:valT c=0)(j:za6 t c x=0/\za6 t c y=0):QOk 2 (zwe t c s x y) where
 len:=rfl
 val:=λi hi=>by
  have d:=(zu8 (s:=s) f g j).val i hi;by_cases e:i=1
  . subst e;have a:=List.all_eq_true.1 zvI 1 (List.mem_range.2 (by decide));simp only[zt5,bne_iff_ne,Bool.or_eq_true,decide_eq_true_eq]at a;refine⟨?_,λh=>absurd h (by rcases a.2 with h|h;exact h;omega),λh=>absurd h (by rcases a.1 with h|h;exact h;omega)⟩;have b:inR (zuK t c x y):=d.1;show inR (if zma c=true then zuK t c x y else 0)
    split
    . exact b
    unfold inR;omega
  rw[zwF t c s x y i e];exact d
def zwv(t:TTM)(c:ConM)(s:ByteArray)(L:List Duty):List Int:=limV 3 (zuY t c s L)
theorem zwx:((List.range 7).all λi=>zad 3 (sAt (zk 3) i) !=4&&zad 3 (sAt (zk 3) i) !=3)=true:=by decide+kernel
theorem zwB{t:TTM}{c:ConM}{s:ByteArray}{L:List Duty}(a:zY t=0)(b:valT c=0)(e:1<=L.length)(f:L.length<=6)(d:∀k,k<L.length->za6 t c (dAt L k)=0):(∀i,i<7->i≠6->inR (iAt (zuY t c s L) i))/\-9000000000000000000<=iAt (zuY t c s L) 6/\iAt (zuY t c s L) 6<=9000000000000000000:=by
 have g:=zvB a b d 0 (by decide) L.length (ztY _);have j:=zvB a b d 1 (by decide) L.length (ztY _);have m:=zvB a b d 3 (by decide) L.length (ztY _);have n:=zvD a b d L.length (ztY _);have p:=zuj a b (d 0 (by omega));have q:=zuj a b (d (L.length-1) (by omega));have r:=zvW (nm:=(zp t s).name.data.toList) (o:=(zp t s).off) (l:=(zp t s).sh) (x:=(zcK t c (dAt L 0)).1) (y:=(zcK t c (dAt L (L.length-1))).2) (by omega) (by omega);refine⟨λi hi hne=>?_,?_⟩
 . unfold inR
   match i,hi,hne with
   |0,_,_=>show -1099511627776<=(L.length:Int)/\(L.length:Int)<=_;omega
   |1,_,_=>show -1099511627776<=qsum t c L 0 L.length/\qsum t c L 0 L.length<=_;omega
   |2,_,_=>show -1099511627776<=qsum t c L 1 L.length/\qsum t c L 1 L.length<=_;omega
   |3,_,_=>simp only[zuY,iAt,List.getD_cons_succ,List.getD_cons_zero];omega
   |4,_,_=>show -1099511627776<=qsum t c L 3 L.length/\qsum t c L 3 L.length<=_;omega
   |5,_,_=>simp only[zuY,iAt,List.getD_cons_succ,List.getD_cons_zero];omega
   |6,_,h=>exact absurd rfl h
 show -9000000000000000000<=csum t c L L.length/\csum t c L L.length<=_;omega
theorem zwW(t:TTM)(c:ConM)(s:ByteArray)(L:List Duty)(i:Nat):iAt (zwv t c s L) i=if i=6 then zaP (iAt (zuY t c s L) 6) else iAt (zuY t c s L) i:=by
 unfold zwv limV
 rw[if_pos rfl,zs2 (by show 6<7;decide)]
theorem zxh(n:Int):inR (zaP n):=by
 unfold inR zaP
 split
 . omega
 split <;> omega
theorem zwj{t:TTM}{c:ConM}{s:ByteArray}{L:List Duty}(d:zY t=0)(e:valT c=0)(f:1<=L.length)(g:L.length<=6)(j:∀k,k<L.length->za6 t c (dAt L k)=0):QOk 3 (zwv t c s L) where
 len:=by unfold zwv;rw[zgY];rfl
 val:=λi hi=>by
  have a:i<7:=by rw[show(zwv t c s L).length=7 by unfold zwv;rw[zgY];rfl]at hi;exact hi
  have b:=List.all_eq_true.1 zwx i (List.mem_range.2 a);simp only[zt5,bne_iff_ne]at b;refine⟨?_,λh=>absurd h b.2,λh=>absurd h b.1⟩;rw[zwW];split
  . exact zxh _
  next h=>exact(zwB d e f g j).1 i a h
theorem zwJ{t:TTM}{c:ConM}{s:ByteArray}{L:List Duty}(d:zY t=0)(f:valT c=0)(g:1<=L.length)(h:L.length<=6)(j:∀k,k<L.length->za6 t c (dAt L k)=0):zoM 3 (zuY t c s L) (zwv t c s L) where
 l0:=rfl
 ok:=zwj d f g h j
 bd:=λi hi=>by
  have b:i<7:=hi;have o:=zwB (s:=s) d f g h j;by_cases e:i=6
  . subst e;exact o.2
  have:=o.1 i b e;unfold inR at this;omega
 atr:=λa i hp=>by
  have r:=zwj (s:=s) d f g h j;have p:=zrc hp;have q:=zsw hp;have b:i<7:=p;have l:=List.all_eq_true.1 zwx i (List.mem_range.2 b);simp only[zt5,bne_iff_ne]at l;rw[show sAt (zk 3) i=a from q]at l;have m:∀n,atrV (zad 3 a) n=zaP n:=λn=>by unfold atrV;rw[if_neg l.2,if_neg l.1]
  show atrV (zad 3 a) _=_
  rw[m,zwW];by_cases e:i=6
  . subst e;rw[if_pos rfl]
  rw[if_neg e];exact zdm ((zwB d f g h j).1 i b e)
theorem zwO(w:World)(j:Nat)(t:TTM)(c:ConM)(P:SetP)(C:zc6 w j t c P)(F:P.nights=zma c)(s:ByteArray)(x y:Duty)(k m:zua)(q r:Nat)(D:za6 t c x=0)(E:za6 t c y=0)(f:SlAt za3 w k x)(g:SlAt za3 w m y)(n o:zua)(u z:Nat)(h:zW w n (zaZ t c x))(i:zW w o (zaZ t c y)):
 Calls prog 95 #[.pointer (some ⟨j,0,none⟩),.string s,.slice k x.length q,.slice m y.length r,.slice n 11 u,.slice o 11 z,.bool P.nights] w λe p=>∃a b,e=.returned (.slice a 25 b)/\zW p a (zwe t c s x y)/\Bw w p:=by
 have G:zwe t c s x y=zuv t c s x y (zaZ t c x) (zaZ t c y) P.nights:=by rw[zwe,F]
 rw[G];cases H:P.nights
 . refine(zwN w j t c P C s x y k m q r D E f g (zaZ t c x) (zaZ t c y) n o u z rfl rfl h i).mono ?_;rintro e p ⟨v,rfl,A,d⟩;obtain⟨a,b,rfl,B⟩:=zW.of_own (l:=zuv t c s x y (zaZ t c x) (zaZ t c y) false) A;exact⟨a,b,rfl,B,d⟩
 refine(zuu w j t c P C s x y k m q r D E f g (zaZ t c x) (zaZ t c y) n o u z rfl rfl h i).mono ?_;rintro e p ⟨v,rfl,A,d⟩;obtain⟨a,b,rfl,B⟩:=zW.of_own (l:=zuv t c s x y (zaZ t c x) (zaZ t c y) true) A;exact⟨a,b,rfl,B,d⟩
theorem zwd{w w':World}(h:Bw w w'):Bw w w':=h
theorem zwG{c:ConM}{k:Nat}{q:List Int}(a:valT c=0)(b:k<4)(d:QOk k (limV k q)):-17592186044416<=zoy c k q/\zoy c k q<=17592186044416:=by
 have e:=zqN a b d;have f:=zpg (q:=limV k q) (l:=zaW c k) (λi hi=>zcb _ (e i hi)) (zaW c k).length (ztY _);have g:=zmx c k;have h:=zda a;unfold zoy
 omega
def zwa(t:TTM)(c:ConM)(s:ByteArray)(L:List Duty):Nat->Int
 |0=>zoy c 3 (zuY t c s L)
 |k+1=>zwa t c s L k+zoy c 1 (zaZ t c (dAt L k))+if k+1<L.length then zoy c 2 (zuh t c s (dAt L k) (dAt L (k+1))) else 0
theorem zw0{t:TTM}{c:ConM}{s:ByteArray}{L:List Duty}(d:zY t=0)(a:valT c=0)(i:1<=L.length)(j:L.length<=6)(b:∀k,k<L.length->za6 t c (dAt L k)=0):(∀k,k<=L.length->-(17592186044416*(2*(k:Int)+1))<=zwa t c s L k/\zwa t c s L k<=17592186044416*(2*(k:Int)+1))/\∀k,k<L.length->(-17592186044416<=zoy c 1 (zaZ t c (dAt L k))/\zoy c 1 (zaZ t c (dAt L k))<=17592186044416)/\(k+1<L.length->-17592186044416<=zoy c 2 (zuh t c s (dAt L k) (dAt L (k+1)))/\zoy c 2 (zuh t c s (dAt L k) (dAt L (k+1)))<=17592186044416):=by
 have f:∀k,k<L.length->(-17592186044416<=zoy c 1 (zaZ t c (dAt L k))/\zoy c 1 (zaZ t c (dAt L k))<=17592186044416)/\(k+1<L.length->-17592186044416<=zoy c 2 (zuh t c s (dAt L k) (dAt L (k+1)))/\zoy c 2 (zuh t c s (dAt L k) (dAt L (k+1)))<=17592186044416):=λk e=>
  ⟨zwG a (by decide) (by rw[show limV ((1:Nat):Int) (zaZ t c (dAt L k))=zaZ t c (dAt L k) from zgX _];exact zeU d a (b k e)),λg=>zwG a (by decide) (by rw[show limV ((2:Nat):Int) (zuh t c s (dAt L k) (dAt L (k+1)))=zuh t c s (dAt L k) (dAt L (k+1)) from zu9 _];exact zu8 d a ⟨b k e,b (k+1) g⟩)⟩
 refine⟨λk=>?_,f⟩;induction k with
 |zero=>intro _;have:=zwG a (k:=3) (by decide) (zwj (s:=s) d a i j b);rw[zwa];omega
 |succ k ih=>
  intro e;have m:=ih (by omega);obtain⟨g,l⟩:=f k (by omega);rw[zwa];split
  . next h=>have:=l h;omega
  omega
theorem zxf(w:World)(n:Nat)(t:TTM)(c:ConM)(P:SetP)(hS:zc6 w n t c P)(hn:P.nights=zma c)(s:ByteArray)(L:List Duty)(a:zua)(cap:Nat)(h1:1<=L.length)(h6:L.length<=6)(hd:∀k,k<L.length->za6 t c (dAt L k)=0)(ha:SlAt dutyRT w a L):
 Calls prog 51 #[.pointer (some ⟨n,0,none⟩),.agg #[.string s,.slice a L.length cap]] w λe w'=>e=.returned (zwa t c s L L.length)/\Bw w w':=by
 have HS:=I hS;have Q:=I hd;have c3:=I hn;have HL:=I ha;have U:=hS.okT;have B:=hS.okC;have D:=I (And.intro U B);have cl:=zda B;obtain⟨p,d,rfl,V,a5⟩:=zuQ ha (by omega);have a6:=I a5;have a7:=I (zw0 U B h1 h6 hd (s:=s));clear hS hd hn ha a5 U B;go_enter func51,ntmps51
 go_wp2_with fail;obtain⟨W,X⟩:∃W,W=w.heap.size:=⟨_,rfl⟩;have E:=I (J w (oP s (some ⟨p,d,none⟩) L.length cap));have hp:=zh w (oP s (some ⟨p,d,none⟩) L.length cap);rw[<-X]at hp;simp only[<-X];have a8:=I hp;clear X hp;generalize w.alloc (oP s (some ⟨p,d,none⟩) L.length cap)=W0 at*;refine(zu4 W0 n t c P (HS.1.below E.1) s L (some ⟨p,d,none⟩) cap h1 h6 Q.1 (HL.1.below E.1)).mono ?_;rintro e l ⟨g,rfl,hQ,Y⟩;have HQ:=I hQ;have a9:=I (blkA Y a8.1);have x:=I (ztS E.1 Y);have q:=I (λW' (h:Bw l W')=>HS.1.below (ztS x.1 h));have c4:=I (λW' (h:Bw l W')=>HL.1.below (ztS x.1 h));have Z:=I (ztT l.heap.size l);clear hQ Y a8 E;obtain⟨p0,p1,pl⟩:=zuw (blkA Z.1 a9.1);go_wp2_with fail;refine(zu1 l n t c P (q.1 _ Z.1) s L (some ⟨p,d,none⟩) cap h1 h6 Q.1 (c4.1 _ Z.1) g L.length HQ.1).mono ?_;rintro e w5 ⟨b5,rfl,hI,a0⟩;have b0:=I a0;have F:=I (costOf_3 w5 n t c P (q.1 _ a0) (zuY t c s L) (some ⟨b5,0,none⟩) 7 (by show 6<7;decide) (by show 7*8<=_;decide) hI (by have:=zmx c 3;omega) (zqN D.1.2 (by decide) (zwj D.1.1 D.1.2 h1 h6 Q.1)));clear hI a0 p0 p1 pl;go_wp2_with fail;refine F.1.mono ?_;rintro e w6 ⟨rfl,y⟩;have r:=I (ztS b0.1 y);clear y F b0;rw[show zoy c 3 (zuY t c s L)=zwa t c s L 0 from rfl];go_wp2_with fail;go_loopw [6,21] (λsum i wr=>∃(k:Nat),k<=L.length/\sum=.int .i64 (zwa t c s L k)/\i=.int .i64 k/\ztR (Bw l wr)) (λ_ i _=>L.length-(intOf i).toNat)
 case atStart=>exact⟨0,ztX _,rfl,rfl,r⟩
 clear r;obtain⟨k,hk,rfl,rfl,hB⟩:=hrel;by_cases z:k<L.length
 . obtain⟨C,hC,a1⟩:=HQ.1.below hB.1;obtain⟨b,e1,e2,e3,e4⟩:=a1 k z;have x0:wr.cell? ⟨g,k,none⟩=some (.slice (some ⟨b,0,none⟩) 11 11):=zm hC e1;have xl:=ztW hC;have c5:=I (show zW wr (some ⟨b,0,none⟩) (zaZ t c (dAt L k)) from .inr ⟨b,0,rfl,e2,λi hi=>by rw[Nat.zero_add];exact e4 i hi⟩);have b2:=I (And.intro hC a1);have b3:=I e1;clear hC a1 e1 e2 e3 e4;obtain⟨d3,b4⟩:=a7.1.2 k z;have F:=I (zrQ wr n t c P (q.1 _ hB.1) (zaZ t c (dAt L k)) (some ⟨b,0,none⟩) 11 (by rw[zeD];decide) c5.1 (by have:=zmx c 1;omega) (by rw[zgX];exact zqN D.1.2 (by decide) (zeU D.1.1 D.1.2 (Q.1 k z))));have d4:=a7.1.1 k (by omega);obtain⟨m1,G⟩:∃m,m=zwa t c s L k+zoy c 1 (zaZ t c (dAt L k)):=⟨_,rfl⟩;have d5:IntKind.i64.wrap (zwa t c s L k+zoy c 1 (zaZ t c (dAt L k)))=m1:=by rw[IntKind.wrap_i64];omega
   obtain⟨m,hm⟩:∃m,m=k+1:=⟨_,rfl⟩;have H:=I hm;have d6:IntKind.i64.wrap ((k:Int)+1)=(m:Int):=by rw[IntKind.wrap_i64];omega
   have d7:k<m:=by omega
   go_wp2_with fail;refine F.1.mono ?_;rintro e w7 ⟨rfl,b6⟩;have b7:=I (ztS hB.1 b6);clear b6 F x0 xl;by_cases u:m<L.length
   . have c6:decide ((m:Int)<(L.length:Int))=true:=by simp;omega
     have HM:=I (show zwa t c s L m=m1+zoy c 2 (zuh t c s (dAt L k) (dAt L m)) by rw[hm,zwa,if_pos (by omega),G]);have b8:=b4 (by omega);rw[<-hm]at b8;have d8:IntKind.i64.wrap (m1+zoy c 2 (zuh t c s (dAt L k) (dAt L m)))=zwa t c s L m:=by rw[HM.1,IntKind.wrap_i64];omega
     clear G hm b4 b8;have d9:(k:Int)<(L.length:Int):=by omega
     have f0:(m:Int)<(L.length:Int):=by omega
     go_wp2_with fail;obtain⟨Wd,a2⟩:∃W',w7.drew=W':=⟨_,rfl⟩;have R:=I (show Bw l Wd by rw[<-a2];exact b7.1.drew);obtain⟨ak,ck,d0,dl,ds⟩:=(a6.1.below V x.1) k z;obtain⟨aj,cj,d1,el,es⟩:=(a6.1.below V x.1) m u;have S:=ztU V x.1.size;obtain⟨C4,M,A⟩:=HQ.1;obtain⟨bb,f1,f2,f3,f4⟩:=A k z;obtain⟨b1,k1,k2,k3,k4⟩:=A m u;have c7:=ztW M;have c8:b=bb:=by
      have z1:=blkA hB.1 M;rw[b2.1.1]at z1;cases z1;have z2:=b3.1;rw[f1]at z2;cases z2;rfl
     subst c8;have T:l.cell? ⟨n,27,none⟩=some (.bool P.nights):=zm (j:=27) (q.1 _ (ztT _ _)).box rfl;have c9:=(q.1 _ (ztT _ _)).lt;have a3:=I (And.intro ds es);have HI:=I (And.intro (show zW l (some ⟨b,0,none⟩) (zaZ t c (dAt L k)) from .inr ⟨b,0,rfl,f2,λi hi=>by rw[Nat.zero_add];exact f4 i hi⟩) (show zW l (some ⟨b1,0,none⟩) (zaZ t c (dAt L m)) from .inr ⟨b1,0,rfl,k2,λi hi=>by rw[Nat.zero_add];exact k4 i hi⟩));have a4:=I (λW' (h:Bw l W')=>(⟨blkA h a9.1,zj d0 S h,zj d1 S h,zj (show l.cell? ⟨g,m,none⟩=some (.slice (some ⟨b1,0,none⟩) 11 11) from zm M k1) c7 h,zj T c9 h⟩:W'.heap[W]?=some (oP s (some ⟨p,d,none⟩) L.length cap)/\W'.cell? ⟨p,d+k,none⟩=some (.slice ak (dAt L k).length ck)/\W'.cell? ⟨p,d+m,none⟩=some (.slice aj (dAt L m).length cj)/\W'.cell? ⟨g,m,none⟩=some (.slice (some ⟨b1,0,none⟩) 11 11)/\W'.cell? ⟨n,27,none⟩=some (.bool P.nights)));have f:=a4.1 _ R.1;clear d0 d1 ds es M A f1 f2 f3 f4 k1 k2 k3 k4 T b2 b3;refine zbD (λw'=>w'.heap[W]?=some (oP s (some ⟨p,d,none⟩) L.length cap)/\w'.cell? ⟨p,d+k,none⟩=some (.slice ak (dAt L k).length ck)/\w'.cell? ⟨p,d+m,none⟩=some (.slice aj (dAt L m).length cj)/\w'.cell? ⟨g,m,none⟩=some (.slice (some ⟨b1,0,none⟩) 11 11)/\w'.cell? ⟨n,27,none⟩=some (.bool P.nights)) [] (by kernel_rfl) a2 ?_;clear a2;refine zT (i:=0) (v:=.pointer (some ⟨n,0,none⟩)) rfl (λw'=>?_) ?_
     . go_simp
     try simp only[Act.put,O]
     refine zx (i:=1) (v:=.pointer (some ⟨W,0,none⟩)) rfl (λw' hS'=>?_) f ?_
     . obtain⟨N,g1,gl⟩:=zuw hS'.1;clear hS';go_simp
     try simp only[Act.put,O]
     refine zx (i:=2) (v:=.string s) rfl (λw' hS'=>?_) f ?_
     . obtain⟨N,g1,gl⟩:=zuw hS'.1;clear hS';go_simp
     try simp only[Act.put,O]
     refine zx (i:=3) (v:=.pointer (some ⟨W,1,none⟩)) rfl (λw' hS'=>?_) f ?_
     . obtain⟨N,g1,gl⟩:=zuw hS'.1;clear hS';go_simp
     try simp only[Act.put,O]
     refine zx (i:=4) (v:=.slice (some ⟨p,d,none⟩) L.length cap) rfl (λw' hS'=>?_) f ?_
     . obtain⟨N,g1,gl⟩:=zuw hS'.1;clear hS';go_simp
     try simp only[Act.put,O]
     refine zT (i:=5) (v:=.int .i64 (k:Int)) rfl (λw'=>?_) ?_
     . go_simp
     try simp only[Act.put,O]
     refine zT (i:=6) (v:=.pointer (some ⟨p,d+k,none⟩)) rfl (λw'=>?_) ?_
     . go_simp
     try simp only[Act.put,O]
     refine zx (i:=7) (v:=.slice ak (dAt L k).length ck) rfl (λw' hS'=>?_) f ?_
     . have N:=hS'.2.1;clear hS';go_simp
     try simp only[Act.put,O]
     refine zx (i:=8) (v:=.pointer (some ⟨W,1,none⟩)) rfl (λw' hS'=>?_) f ?_
     . obtain⟨N,g1,gl⟩:=zuw hS'.1;clear hS';go_simp
     try simp only[Act.put,O]
     refine zx (i:=9) (v:=.slice (some ⟨p,d,none⟩) L.length cap) rfl (λw' hS'=>?_) f ?_
     . obtain⟨N,g1,gl⟩:=zuw hS'.1;clear hS';go_simp
     try simp only[Act.put,O]
     refine zT (i:=10) (v:=.int .i64 (k:Int)) rfl (λw'=>?_) ?_
     . go_simp
     try simp only[Act.put,O]
     refine zT (i:=11) (v:=.int .i64 (m:Int)) rfl (λw'=>?_) ?_
     . go_simp
     try simp only[Act.put,O]
     refine zT (i:=12) (v:=.pointer (some ⟨p,d+m,none⟩)) rfl (λw'=>?_) ?_
     . go_simp
     try simp only[Act.put,O]
     refine zx (i:=13) (v:=.slice aj (dAt L m).length cj) rfl (λw' hS'=>?_) f ?_
     . have N:=hS'.2.2.1;clear hS';go_simp
     try simp only[Act.put,O]
     refine zT (i:=14) (v:=.slice (some ⟨b,0,none⟩) 11 11) rfl (λw'=>?_) ?_
     . go_simp
     try simp only[Act.put,O]
     refine zT (i:=15) (v:=.slice (some ⟨g,0,none⟩) L.length L.length) rfl (λw'=>?_) ?_
     . go_simp
     try simp only[Act.put,O]
     refine zT (i:=16) (v:=.int .i64 (k:Int)) rfl (λw'=>?_) ?_
     . go_simp
     try simp only[Act.put,O]
     refine zT (i:=17) (v:=.int .i64 (m:Int)) rfl (λw'=>?_) ?_
     . go_simp
     try simp only[Act.put,O]
     refine zT (i:=18) (v:=.pointer (some ⟨g,m,none⟩)) rfl (λw'=>?_) ?_
     . go_simp
     try simp only[Act.put,O]
     refine zx (i:=19) (v:=.slice (some ⟨b1,0,none⟩) 11 11) rfl (λw' hS'=>?_) f ?_
     . have N:=hS'.2.2.2.1;clear hS';go_simp
     try simp only[Act.put,O]
     refine zT (i:=20) (v:=.pointer (some ⟨n,0,none⟩)) rfl (λw'=>?_) ?_
     . go_simp
     try simp only[Act.put,O]
     refine zT (i:=21) (v:=.pointer (some ⟨n,0,none⟩)) rfl (λw'=>?_) ?_
     . go_simp
     try simp only[Act.put,O]
     refine zT (i:=22) (v:=.pointer (some ⟨n,27,none⟩)) rfl (λw'=>?_) ?_
     . go_simp
     try simp only[Act.put,O]
     refine zx (i:=23) (v:=.bool P.nights) rfl (λw' hS'=>?_) f ?_
     . have N:=hS'.2.2.2.2;clear hS';go_simp
     try simp only[Act.put,O]
     refine zo (i:=24) (o:={dst:=some 60,op:=Op.call {callee:=Callee.value (Operand.func 95),args:=#[Operand.tmp 36,Operand.tmp 38,Operand.tmp 43,Operand.tmp 49,Operand.tmp 50,Operand.tmp 55,Operand.tmp 59],argTypes:=#[67,9,49,49,72,72,4]},type:=72,pos:= "rules.go:49",after:=_,guard:=none}) (by kernel_rfl) rfl (by rfl) (λK hK=>?_);go_simp;refine(zwO Wd n t c P (q.1 _ R.1) c3.1 s (dAt L k) (dAt L m) ak aj ck cj (Q.1 k (by omega)) (Q.1 m u) (a3.1.1.below (zwd R.1)) (a3.1.2.below (zwd R.1)) (some ⟨b,0,none⟩) (some ⟨b1,0,none⟩) 11 11 (HI.1.1.below (zwd R.1)) (HI.1.2.below (zwd R.1))).mono ?_;rintro e w6 ⟨wa,wc,rfl,b9,y⟩;have c0:=I b9;have r:=I (ztS R.1 y);have c1:=a4.1 _ r.1;clear y b9 f R;have f:=c1;clear c1;refine hK.1 _ _ (λ_ _=>f) ?_;clear hK K;try simp only[Act.put,O]
     refine zo (i:=25) (o:={dst:=some 9,op:=Op.assign (Operand.tmp 60),type:=72,pos:= "rules.go:49",after:=_,guard:=none}) (by kernel_rfl) rfl (by rfl) (λK hK=>?_);go_simp;refine hK.1 _ _ (λ_ h=>h) ?_;clear hK K;try simp only[Act.put,O]
     refine zM (by kernel_rfl) ?_;clear a4 f a3 HI;have F:=I (zvZ w6 n t c P (q.1 _ r.1) (zwe t c s (dAt L k) (dAt L m)) wa wc (by rw[zwm];decide) c0.1 (by have:=zmx c 2;omega) (by rw[zu9];exact zqN D.1.2 (by decide) (zwZ D.1.1 D.1.2 ⟨Q.1 k (by omega),Q.1 m u⟩)));rw[zwm,zxc]at F;go_wp2_with fail;refine F.1.mono ?_;rintro e w8 ⟨rfl,c2⟩;have d2:=I (ztS r.1 c2);clear c2 F r c0;go_wp2_with fail;go_roundw
     case rel=>exact⟨m,by have:=H.1;omega,rfl,by first|rfl|(rw[H.1];try go_num),d2⟩
     case measure=>simp[intOf];omega
   have c6:decide ((m:Int)<(L.length:Int))=false:=by simp;omega
   have HM:=I (show zwa t c s L m=m1 by rw[hm,zwa,if_neg (by omega),G,Int.add_zero]);clear G hm;go_wp2_with fail;go_roundw
   case rel=>exact⟨m,by have:=H.1;omega,by rw[HM.1],by first|rfl|(rw[H.1];try go_num),b7⟩
   case measure=>simp[intOf];omega
 obtain rfl:k=L.length:=by omega
 go_wp2_with fail;go_ret;exact⟨rfl,ztS x.1 hB.1⟩
theorem zw2(t:TTM)(c:ConM)(N:zua)(Z:Nat)(P:zua)(ac:Nat)(fa:zua)(fc:Nat)(p:ConP)(w:World)(hT:zY t=0)(hC:valT c=0)(Q:c.consts.length<=p.cc/\p.cc<=140737488355328)(hz:SlAt zcg w N t.zones)(ha:SlAt zei w P t.airs)(hf:SlAt zam w fa t.fls)(hc:zdr w.heap.size w c p)(s:ByteArray)(L:List Duty)(la:zua)(cap:Nat)(h1:1<=L.length)(h6:L.length<=6)(hd:∀k,k<L.length->za6 t c (dAt L k)=0)(hs:hasB (t.airs.map AirM.code) s=true)(hl:SlAt dutyRT w la L):
 Calls prog 52 #[aggT t N Z P ac fa fc,aggC c p,.agg #[.string s,.slice la L.length cap]] w λe w'=>e=.returned (zwa t c s L L.length)/\Bw w w':=by
 try delta aggC aggT
 have HT:=I hT;have R:=I hC;have HZ:=I hz;have HA:=I ha;have HF:=I hf;have V:=I hd;have S:=I hc;have HK:=I hs;have HL:=I hl;have a4:=I (zw0 hT hC h1 h6 hd (s:=s));obtain⟨db,T,rfl,a0,a5⟩:=zuQ hl (by omega);have a6:=I a5;clear hT hC hz ha hf hd hc hs hl a5;go_enter func52,ntmps52
 go_wp2_with fail;obtain⟨r,qT,qC,qP⟩:=zvm w t c N Z P ac fa fc p (oP s (some ⟨db,T,none⟩) L.length cap);have l:=I r;obtain⟨cb,a1⟩:∃cb,cb=w.heap.size+1:=⟨_,rfl⟩;obtain⟨pb,a3⟩:∃pb,pb=w.heap.size+1+1:=⟨_,rfl⟩;rw[<-a3]at qP;rw[<-a1]at qC;simp only[<-a3];simp only[<-a1];clear a1 a3 r;generalize ((w.alloc (objT t N Z P ac fa fc)).alloc (objC c p)).alloc (oP s (some ⟨db,T,none⟩) L.length cap)=q at*;have d:=I (λW' (h:Bw q W')=>(⟨blkA h qT,blkA h qC,blkA h qP⟩:W'.heap[w.heap.size]?=some (objT t N Z P ac fa fc)/\W'.heap[cb]?=some (objC c p)/\W'.heap[pb]?=some (oP s (some ⟨db,T,none⟩) L.length cap)));clear qT qC qP;have C:=ztU a0 l.1.size;refine' rely [⟨9, [],.kn _⟩,⟨10, [],.kn _⟩,⟨11, [],.kn _⟩,⟨12, [],.kn _⟩,⟨13, [10,11,12],.ow (λv w'=>∃a n,v=.slice a (zuY t c s L).length n/\zcs w' a ((zk 3).zip (zuY t c s L))) (λ_ _ _ ⟨a,n,e,h⟩ h'=>⟨a,n,e,h.below h'⟩)⟩,⟨14, [9,13],.kn (.int .i64 (zwa t c s L 0))⟩,⟨7, [14],.kn _⟩] [3,4,5] [7] (λ_ h=>And.intro (zdn (d.1 _ (ztS (ztT q.heap.size q) h)).1) (And.intro (zbZ (d.1 _ (ztS (ztT q.heap.size q) h)).2.1) (zuw (d.1 _ (ztS (ztT q.heap.size q) h)).2.2))) ?h7 ?c7 ?f7
 case h7=>
  intro u;simp only[rlE,↓reduceIte,Nat.reduceEqDiff];intros
  refine⟨?_,?_,?_,?_,?_,?_,?_,trivial⟩
  all_goals try (intros;refine rlK (by assumption) ?_;go_simp <;> rfl)
  . intro A x e j g q0 q1 q2 K D;go_simp;have o:=ztS (ztT q.heap.size q) j;have b:=ztS l.1 o;refine(zu2 t c N Z P ac fa fc p x HT.1 R.1 Q (HZ.1.below b) (HA.1.below b) (HF.1.below b) (TCAt.below (⟨HZ.1,HA.1,HF.1,S.1⟩:TCAt w t c N P fa p) b).c s L (some ⟨db,T,none⟩) cap h1 h6 V.1 HK.1 (HL.1.below b)).mono ?_;rintro e' w2 ⟨v,W,rfl,h1,X,h3⟩;obtain⟨E,F,rfl,f⟩:=zcs.of_own X rfl;exact D.1 _ _ ⟨h3,E,F,rfl,f⟩
  rintro A x e j g q1 ⟨E,F,X,f⟩ K D;go_simp;have b:=ztS l.1 (ztS (ztT q.heap.size q) j);refine(zqP c p w.heap.size x b.size Q R.1 (S.1.keep b) 3 (by decide) 3 rfl (zuY t c s L) _ (zwJ HT.1 R.1 h1 h6 V.1) E F _ rfl f).mono ?_;rintro e' w2 ⟨rfl,h⟩;exact D.1 _ _ ⟨h,by rw[show refC c 3 (zwv t c s L) c.costs.length=zwa t c s L 0 from zrt c 3 _]⟩
 case c7=>kernel_rfl
 intro u x j;simp only[rlE,rlF,Act.put,O,↓reduceIte,Nat.reduceEqDiff];intro Y;rw[Y];have HB:=I (ztS (ztT q.heap.size q) j);clear Y j;go_wp2_with fail;go_loopw [7,8] (λv i wr=>∃(k:Nat),k<=L.length/\v=.int .i64 (zwa t c s L k)/\i=.int .i64 k/\ztR (Bw q wr)) (λ_ i _=>L.length-(intOf i).toNat)
 case atStart=>exact⟨0,ztX _,rfl,rfl,HB⟩
 obtain⟨k,hk,rfl,rfl,r⟩:=hrel;by_cases y:k<L.length
 . obtain⟨b1,a7⟩:=a4.1.2 k y;have b2:=a4.1.1 k (by omega);obtain⟨m1,a8⟩:∃m,m=zwa t c s L k+zoy c 1 (zaZ t c (dAt L k)):=⟨_,rfl⟩;have a9:IntKind.i64.wrap (zwa t c s L k+zoy c 1 (zaZ t c (dAt L k)))=m1:=by rw[IntKind.wrap_i64];omega
   obtain⟨m,hm⟩:∃m,m=k+1:=⟨_,rfl⟩;have z:=I hm;have b6:IntKind.i64.wrap ((k:Int)+1)=(m:Int):=by rw[IntKind.wrap_i64];omega
   have U:=I a8;have b3:=I (show -(17592186044416*(2*(k:Int)+2))<=m1/\m1<=17592186044416*(2*(k:Int)+2) by omega);clear a8;have b7:(k:Int)<(L.length:Int):=by omega
   obtain⟨ak,ck,d0,_,ds⟩:=(a6.1.below a0 l.1) k y;have D0:=I d0;have G:=I ds;have B:=G;clear d0 ds;obtain⟨g0,g1,gl⟩:=zuw (d.1 _ r.1).2.2;go_wp2_with fail;clear g0 g1 gl;refine' rely [⟨22, [],.kn _⟩,⟨23, [],.kn _⟩,⟨24, [],.kn _⟩,⟨25, [],.kn _⟩,⟨26, [],.kn _⟩,⟨27, [26],.kn _⟩,⟨28, [],.kn _⟩,⟨29, [27,28],.kn _⟩,⟨30, [29],.kn _⟩,⟨31, [24,25,30],.ow (λv w'=>∃a n,v=.slice a (zaZ t c (dAt L k)).length n/\zcs w' a ((zk 1).zip (zaZ t c (dAt L k)))) (λ_ _ _ ⟨a,n,e,h⟩ h'=>⟨a,n,e,h.below h'⟩)⟩,⟨32, [23,31],.kn (.int .i64 (zoy c 1 (zaZ t c (dAt L k))))⟩,⟨33, [22,32],.kn _⟩,⟨1012, [33],.kn _⟩] [3,4,5,7,8] [1012] (λ_ h=>And.intro (zj D0.1 C (ztS r.1 h)) (And.intro (zdn (d.1 _ (ztS r.1 h)).1) (And.intro (zbZ (d.1 _ (ztS r.1 h)).2.1) (zuw (d.1 _ (ztS r.1 h)).2.2)))) ?h8 ?c8 ?f8
   case h8=>
    intro u;simp only[rlE,↓reduceIte,Nat.reduceEqDiff];intros
    refine⟨?_,?_,?_,?_,?_,?_,?_,?_,?_,?_,?_,?_,?_,trivial⟩
    all_goals try (intros;refine rlK (by assumption) ?_;go_simp <;> rfl)
    . intro A x e j g q0 q1 q2 K D;go_simp;have o:=ztS r.1 j;have b:=ztS l.1 o;refine(zin t c N Z P ac fa fc p x HT.1 R.1 (HZ.1.below b) (HA.1.below b) (HF.1.below b) (dAt L k) ak ck (V.1 k y) (B.1.below o)).mono ?_;rintro e' w2 ⟨v,W,rfl,h1,X,h3⟩;obtain⟨E,F,rfl,f⟩:=zcs.of_own X rfl;exact D.1 _ _ ⟨h3,E,F,rfl,f⟩
    rintro A x e j g q1 ⟨E,F,X,f⟩ K D;go_simp;have b:=ztS l.1 (ztS r.1 j);refine(zqP c p w.heap.size x b.size Q R.1 (S.1.keep b) 1 (by decide) 1 rfl (zaZ t c (dAt L k)) _ (zeU HT.1 R.1 (V.1 k y)).self E F _ rfl f).mono ?_;rintro e' w2 ⟨rfl,h⟩;exact D.1 _ _ ⟨h,by rw[show refC c 1 (zaZ t c (dAt L k)) c.costs.length=zoy c 1 (zaZ t c (dAt L k)) by rw[zrt,zoy,show limV ((1:Nat):Int) (zaZ t c (dAt L k))=(zaZ t c (dAt L k)) from zgX _]]⟩
   case c8=>kernel_rfl
   intro u w3 j;simp only[rlE,rlF,Act.put,O,↓reduceIte,Nat.reduceEqDiff];intro Y;rw[Y];have H:=I (ztS r.1 j);clear Y j B r b1;obtain⟨g0,g1,gl⟩:=zuw (d.1 _ H.1).2.2;by_cases M:m<L.length
   . have b4:decide ((m:Int)<(L.length:Int))=true:=by simp;omega
     have HM:=I (show zwa t c s L m=m1+zoy c 2 (zuh t c s (dAt L k) (dAt L m)) by rw[hm,zwa,if_pos (by omega),U.1]);have b0:=a7 (by omega);rw[<-hm]at b0;have b8:IntKind.i64.wrap (m1+zoy c 2 (zuh t c s (dAt L k) (dAt L m)))=zwa t c s L m:=by have:=b3.1;rw[HM.1,IntKind.wrap_i64];omega
     have b9:(m:Int)<(L.length:Int):=by omega
     obtain⟨aj,cj,d1,_,es⟩:=(a6.1.below a0 l.1) m M;have D1:=I d1;have B:=I (And.intro G.1 es);clear U hm a7 b0 a9 b2 d1 es G;go_wp2_with fail;clear g0 g1 gl;refine' rely [⟨40, [],.kn _⟩,⟨41, [],.kn _⟩,⟨42, [],.kn _⟩,⟨43, [],.kn _⟩,⟨44, [],.kn _⟩,⟨45, [44],.kn _⟩,⟨46, [],.kn _⟩,⟨47, [46],.kn _⟩,⟨48, [],.kn _⟩,⟨49, [47,48],.kn _⟩,⟨50, [49],.kn _⟩,⟨51, [],.kn _⟩,⟨52, [51],.kn _⟩,⟨53, [],.kn _⟩,⟨54, [53],.kn _⟩,⟨55, [52,54],.kn _⟩,⟨56, [55],.kn _⟩,⟨57, [42,43,45,50,56],.ow (λv w'=>∃a n,v=.slice a (zuh t c s (dAt L k) (dAt L m)).length n/\zcs w' a ((zk 2).zip (zuh t c s (dAt L k) (dAt L m)))) (λ_ _ _ ⟨a,n,e,h⟩ h'=>⟨a,n,e,h.below h'⟩)⟩,⟨58, [41,57],.kn (.int .i64 (zoy c 2 (zuh t c s (dAt L k) (dAt L m))))⟩,⟨59, [40,58],.kn _⟩,⟨1020, [59],.kn _⟩] [3,4,5,7,8] [1020] (λ_ h=>And.intro (I (And.intro (zj D0.1 C (ztS H.1 h)) (zj D1.1 C (ztS H.1 h)))) (And.intro (zdn (d.1 _ (ztS H.1 h)).1) (And.intro (zbZ (d.1 _ (ztS H.1 h)).2.1) (zuw (d.1 _ (ztS H.1 h)).2.2)))) ?h9 ?c9 ?f9
     case h9=>
      intro u;simp only[rlE,↓reduceIte,Nat.reduceEqDiff];intros
      refine⟨?_,?_,?_,?_,?_,?_,?_,?_,?_,?_,?_,?_,?_,?_,?_,?_,?_,?_,?_,?_,?_,trivial⟩
      all_goals try (intros;refine rlK (by assumption) ?_;go_simp <;> rfl)
      . intro A x e j g q0 K k;have g2:=g.1.1.1;clear g;refine rlK k ?_;go_simp <;> rfl
      . intro A x e j g q0 K k;have g2:=g.1.1.2;clear g;refine rlK k ?_;go_simp <;> rfl
      . intro A x e j g q0 q1 q2 q3 q4 K D;go_simp;have o:=ztS H.1 j;have b:=ztS l.1 o;refine(zus t c N Z P ac fa fc p x HT.1 R.1 (HZ.1.below b) (HA.1.below b) (HF.1.below b) s (dAt L k) (dAt L m) ak aj ck cj (V.1 k y) (V.1 m M) (B.1.1.below o) (B.1.2.below o)).mono ?_;rintro e' w2 ⟨v,W,rfl,h1,X,h3⟩;obtain⟨E,F,rfl,f⟩:=zcs.of_own X rfl;exact D.1 _ _ ⟨h3,E,F,rfl,f⟩
      rintro A x e j g q1 ⟨E,F,X,f⟩ K D;go_simp;have b:=ztS l.1 (ztS H.1 j);refine(zqP c p w.heap.size x b.size Q R.1 (S.1.keep b) 2 (by decide) 2 rfl (zuh t c s (dAt L k) (dAt L m)) _ (zu8 HT.1 R.1 ⟨V.1 k y,V.1 m M⟩).self E F _ rfl f).mono ?_;rintro e' w2 ⟨rfl,h⟩;exact D.1 _ _ ⟨h,by rw[show refC c 2 (zuh t c s (dAt L k) (dAt L m)) c.costs.length=zoy c 2 (zuh t c s (dAt L k) (dAt L m)) by rw[zrt,zoy,show limV ((2:Nat):Int) (zuh t c s (dAt L k) (dAt L m))=(zuh t c s (dAt L k) (dAt L m)) from zu9 _]]⟩
     case c9=>kernel_rfl
     intro u w4 j;simp only[rlE,rlF,Act.put,O,↓reduceIte,Nat.reduceEqDiff];intro Y;rw[Y];have b5:=I (ztS H.1 j);clear Y j H B;go_wp2_with fail;go_roundw
     case rel=>exact⟨m,by have:=z.1;omega,rfl,by first|rfl|(rw[z.1];try go_num),b5⟩
     case measure=>have:=z.1;simp[intOf];omega
   have b4:decide ((m:Int)<(L.length:Int))=false:=by simp;omega
   have HM:=I (show zwa t c s L m=m1 by rw[hm,zwa,if_neg (by omega),U.1,Int.add_zero]);clear U hm a9;go_wp2_with fail;go_roundw
   case rel=>exact⟨m,by have:=z.1;omega,by rw[HM.1],by first|rfl|(rw[z.1];try go_num),H⟩
   case measure=>have:=z.1;simp[intOf];omega
 obtain rfl:k=L.length:=by omega
 obtain⟨g0,g1,gl⟩:=zuw (d.1 _ r.1).2.2;go_wp2_with fail;go_ret;exact⟨rfl,ztS l.1 r.1⟩
def vioP(t:TTM)(c:ConM)(s:ByteArray)(L:List Duty):Nat->List (Int×Int×ByteArray)
 |0=> []
 |k+1=>vioP t c s L k++((brkV c 1 (zaZ t c (dAt L k))).map λs=>((1:Int),(k:Int),s))++if k+1<L.length then(brkV c 2 (zuh t c s (dAt L k) (dAt L (k+1)))).map λs=>((2:Int),(k:Int),s) else []
theorem zwc{c:ConM}(h:valT c=0)(k:Nat)(q:List Int):(brkV c k q).length<=40:=by
 have a:=zj7 (limV (k:Int) q) (zaR c k) (zaR c k).length;have b:=zl3 c k;have d:=zda h;unfold brkV
 omega
theorem zwp{c:ConM}(h:valT c=0)(t:TTM)(s:ByteArray)(L:List Duty):∀k,k<=L.length->(vioP t c s L k).length<=80*k:=by
 intro k;induction k with
 |zero=>intro _;exact ztY _
 |succ k ih=>
  intro a;have b:=ih (by omega);have d:=zwc h 1 (zaZ t c (dAt L k));have e:=zwc h 2 (zuh t c s (dAt L k) (dAt L (k+1)));rw[vioP,zt2,zt2,List.length_map];split
  . rw[List.length_map];omega
  rw[List.length_nil];omega
theorem zw4(w:World)(x:Nat)(t:TTM)(c:ConM)(P:SetP)(hS:zc6 w x t c P)(hn:P.nights=zma c)(s:ByteArray)(L:List Duty)(a:zua)(cap:Nat)(h1:1<=L.length)(h6:L.length<=6)(hd:∀k,k<L.length->za6 t c (dAt L k)=0)(ha:SlAt dutyRT w a L):
 Calls prog 49 #[.pointer (some ⟨x,0,none⟩),.agg #[.string s,.slice a L.length cap]] w (VOwn w (vioP t c s L L.length++(brkV c 3 (zuY t c s L)).map λs=>(3,0,s))):=by
 have HS:=I hS;have HD:=I hd;have d5:=I hn;have HL:=I ha;have b8:=hS.okT;have Q:=hS.okC;have H:=I (And.intro b8 Q);have cl:=zda Q;obtain⟨y,d,rfl,a3,b9⟩:=zuQ ha (by omega);have c0:=I b9;have a4:=I cl;have c1:=I (zwp Q t s L);clear hS hd hn ha b9 b8 Q;go_enter func49,ntmps49
 go_wp2_with fail;obtain⟨pb,a5⟩:∃pb,pb=w.heap.size:=⟨_,rfl⟩;have R:=I (J w (oP s (some ⟨y,d,none⟩) L.length cap));have hp:=zh w (oP s (some ⟨y,d,none⟩) L.length cap);rw[<-a5]at hp;simp only[<-a5];have c2:=I hp;clear a5 hp;generalize w.alloc (oP s (some ⟨y,d,none⟩) L.length cap)=W0 at*;refine(zu4 W0 x t c P (HS.1.below R.1) s L (some ⟨y,d,none⟩) cap h1 h6 HD.1 (HL.1.below R.1)).mono ?_;rintro e n ⟨g,rfl,hQ,a6⟩;have HQ:=I hQ;have c3:=I (blkA a6 c2.1);have z:=I (ztS R.1 a6);have A:=I (λW' (h:Bw n W')=>HS.1.below (ztS z.1 h));have d6:=I (λW' (h:Bw n W')=>HL.1.below (ztS z.1 h));have d7:=I (ztT n.heap.size n);clear hQ a6 c2 R;clear cl;go_wp2_with fail;go_loopw [5,15] (λv i wr=>∃(k:Nat),k<=L.length/\i=.int .i64 k/\ztR (Bw n wr)/\ztR (wr.ownsRow n.heap.size 94 3 v (vioP t c s L k).length (vRow (vioP t c s L k)))) (λ_ i _=>L.length-(intOf i).toNat)
 case atStart=>exact⟨0,ztX _,rfl,d7,I (World.ownsRow_nil _ _ _ _)⟩
 obtain⟨k,hk,rfl,M,HV⟩:=hrel;by_cases S:k<L.length
 . obtain⟨C,hC,a7⟩:=HQ.1.below M.1;obtain⟨b,e1,e2,e3,e4⟩:=a7 k S;have x0:wr.cell? ⟨g,k,none⟩=some (.slice (some ⟨b,0,none⟩) 11 11):=zm hC e1;have xl:=ztW hC;have d8:=I (show zW wr (some ⟨b,0,none⟩) (zaZ t c (dAt L k)) from .inr ⟨b,0,rfl,e2,λi hi=>by rw[Nat.zero_add];exact e4 i hi⟩);have c4:=I (And.intro hC a7);have c5:=I e1;clear hC a7 e1 e2 e3 e4;have p:=d8;have B:=I (c1.1 k (by omega));have D:=I (zwc H.1.2 1 (zaZ t c (dAt L k)));have T:=I (zrY wr x t c P (A.1 _ M.1) (zaZ t c (dAt L k)) (some ⟨b,0,none⟩) 11 (by rw[zeD];decide) p.1 (by have:=zl3 c 1;have:=a4.1;omega) (by rw[zgX];exact zpt H.1.2 (by decide) (zeU H.1.1 H.1.2 (HD.1 k S))));obtain⟨m,hm⟩:∃m,m=k+1:=⟨_,rfl⟩;have U:=I hm;have f9:IntKind.i64.wrap ((k:Int)+1)=(m:Int):=by rw[IntKind.wrap_i64];omega
   have g2:k<m:=by omega
   go_wp2_with fail;refine T.1.mono ?_;rintro e w7 ⟨v7,rfl,q,l⟩;have a8:=I (ztS M.1 l);obtain⟨na,nc,rfl,hN⟩:=zkk.of_own q;have CV:=I (zib n.heap.size (vioP t c s L k) _ w7 a8.1.size (zbQ HV.1 M.1 l) 1 (k:Int) (brkV c 1 (zaZ t c (dAt L k))) na nc hN (by have:=B.1;have:=D.1;omega));clear q hN l T HV x0 xl p;go_wp2_with fail;refine CV.1.mono ?_;rintro e w8 ⟨v8,rfl,r,u,_⟩;have W:=I (a8.1.trans u);have F:=I r;clear r u CV a8;obtain⟨V1,G⟩:∃V,V=vioP t c s L k++(brkV c 1 (zaZ t c (dAt L k))).map λs=>((1:Int),(k:Int),s):=⟨_,rfl⟩
   rw[<-G]at F;have d9:V1.length<=80*k+40:=by rw[G,zt2,List.length_map];have:=B.1;have:=D.1;omega
   by_cases E:m<L.length
   . have f0:decide ((m:Int)<(L.length:Int))=true:=by simp;omega
     have HM:=I (show vioP t c s L m=V1++(brkV c 2 (zuh t c s (dAt L k) (dAt L m))).map λs=>((2:Int),(k:Int),s) by rw[hm,vioP,if_pos (by omega),G]);clear G hm B D;have g3:(k:Int)<(L.length:Int):=by omega
     have g4:(m:Int)<(L.length:Int):=by omega
     go_wp2_with fail;obtain⟨Wd,X⟩:∃W',w8.drew=W':=⟨_,rfl⟩;have Y:=I (show Bw n Wd by rw[<-X];exact W.1.drew);have c6:=I (show Wd.ownsRow n.heap.size 94 3 v8 V1.length (vRow V1) by rw[<-X];exact F.1.drew);obtain⟨ak,ck,d0,dl,ds⟩:=(c0.1.below a3 z.1) k S;obtain⟨aj,cj,d1,el,es⟩:=(c0.1.below a3 z.1) m E;have a1:=ztU a3 z.1.size;obtain⟨C4,Z,N⟩:=HQ.1;obtain⟨bb,f1,f2,f3,f4⟩:=N k S;obtain⟨b1,k1,k2,k3,k4⟩:=N m E;have f5:=ztW Z;have f6:b=bb:=by
      have z1:=blkA M.1 Z;rw[c4.1.1]at z1;cases z1;have z2:=c5.1;rw[f1]at z2;cases z2;rfl
     subst f6;have a2:n.cell? ⟨x,27,none⟩=some (.bool P.nights):=zm (j:=27) (A.1 _ (ztT _ _)).box rfl;have f7:=(A.1 _ (ztT _ _)).lt;have a9:=I (And.intro ds es);have HI:=I (And.intro (show zW n (some ⟨b,0,none⟩) (zaZ t c (dAt L k)) from .inr ⟨b,0,rfl,f2,λi hi=>by rw[Nat.zero_add];exact f4 i hi⟩) (show zW n (some ⟨b1,0,none⟩) (zaZ t c (dAt L m)) from .inr ⟨b1,0,rfl,k2,λi hi=>by rw[Nat.zero_add];exact k4 i hi⟩));have b0:=I (λW' (h:Bw n W')=>(⟨blkA h c3.1,zj d0 a1 h,zj d1 a1 h,zj (show n.cell? ⟨g,m,none⟩=some (.slice (some ⟨b1,0,none⟩) 11 11) from zm Z k1) f5 h,zj a2 f7 h⟩:W'.heap[pb]?=some (oP s (some ⟨y,d,none⟩) L.length cap)/\W'.cell? ⟨y,d+k,none⟩=some (.slice ak (dAt L k).length ck)/\W'.cell? ⟨y,d+m,none⟩=some (.slice aj (dAt L m).length cj)/\W'.cell? ⟨g,m,none⟩=some (.slice (some ⟨b1,0,none⟩) 11 11)/\W'.cell? ⟨x,27,none⟩=some (.bool P.nights)));have f:=b0.1 _ Y.1;clear d0 d1 ds es Z N f1 f2 f3 f4 k1 k2 k3 k4 a2 c4 c5;refine zbD (λw'=>w'.heap[pb]?=some (oP s (some ⟨y,d,none⟩) L.length cap)/\w'.cell? ⟨y,d+k,none⟩=some (.slice ak (dAt L k).length ck)/\w'.cell? ⟨y,d+m,none⟩=some (.slice aj (dAt L m).length cj)/\w'.cell? ⟨g,m,none⟩=some (.slice (some ⟨b1,0,none⟩) 11 11)/\w'.cell? ⟨x,27,none⟩=some (.bool P.nights)) [] (by kernel_rfl) X ?_;clear X;refine zT (i:=0) (v:=.pointer (some ⟨x,0,none⟩)) rfl (λw'=>?_) ?_
     . go_simp
     try simp only[Act.put,O]
     refine zx (i:=1) (v:=.pointer (some ⟨pb,0,none⟩)) rfl (λw' hS'=>?_) f ?_
     . obtain⟨g0,g1,gl⟩:=zuw hS'.1;clear hS';go_simp
     try simp only[Act.put,O]
     refine zx (i:=2) (v:=.string s) rfl (λw' hS'=>?_) f ?_
     . obtain⟨g0,g1,gl⟩:=zuw hS'.1;clear hS';go_simp
     try simp only[Act.put,O]
     refine zx (i:=3) (v:=.pointer (some ⟨pb,1,none⟩)) rfl (λw' hS'=>?_) f ?_
     . obtain⟨g0,g1,gl⟩:=zuw hS'.1;clear hS';go_simp
     try simp only[Act.put,O]
     refine zx (i:=4) (v:=.slice (some ⟨y,d,none⟩) L.length cap) rfl (λw' hS'=>?_) f ?_
     . obtain⟨g0,g1,gl⟩:=zuw hS'.1;clear hS';go_simp
     try simp only[Act.put,O]
     refine zT (i:=5) (v:=.int .i64 (k:Int)) rfl (λw'=>?_) ?_
     . go_simp
     try simp only[Act.put,O]
     refine zT (i:=6) (v:=.pointer (some ⟨y,d+k,none⟩)) rfl (λw'=>?_) ?_
     . go_simp
     try simp only[Act.put,O]
     refine zx (i:=7) (v:=.slice ak (dAt L k).length ck) rfl (λw' hS'=>?_) f ?_
     . have g0:=hS'.2.1;clear hS';go_simp
     try simp only[Act.put,O]
     refine zx (i:=8) (v:=.pointer (some ⟨pb,1,none⟩)) rfl (λw' hS'=>?_) f ?_
     . obtain⟨g0,g1,gl⟩:=zuw hS'.1;clear hS';go_simp
     try simp only[Act.put,O]
     refine zx (i:=9) (v:=.slice (some ⟨y,d,none⟩) L.length cap) rfl (λw' hS'=>?_) f ?_
     . obtain⟨g0,g1,gl⟩:=zuw hS'.1;clear hS';go_simp
     try simp only[Act.put,O]
     refine zT (i:=10) (v:=.int .i64 (k:Int)) rfl (λw'=>?_) ?_
     . go_simp
     try simp only[Act.put,O]
     refine zT (i:=11) (v:=.int .i64 (m:Int)) rfl (λw'=>?_) ?_
     . go_simp
     try simp only[Act.put,O]
     refine zT (i:=12) (v:=.pointer (some ⟨y,d+m,none⟩)) rfl (λw'=>?_) ?_
     . go_simp
     try simp only[Act.put,O]
     refine zx (i:=13) (v:=.slice aj (dAt L m).length cj) rfl (λw' hS'=>?_) f ?_
     . have g0:=hS'.2.2.1;clear hS';go_simp
     try simp only[Act.put,O]
     refine zT (i:=14) (v:=.slice (some ⟨b,0,none⟩) 11 11) rfl (λw'=>?_) ?_
     . go_simp
     try simp only[Act.put,O]
     refine zT (i:=15) (v:=.slice (some ⟨g,0,none⟩) L.length L.length) rfl (λw'=>?_) ?_
     . go_simp
     try simp only[Act.put,O]
     refine zT (i:=16) (v:=.int .i64 (k:Int)) rfl (λw'=>?_) ?_
     . go_simp
     try simp only[Act.put,O]
     refine zT (i:=17) (v:=.int .i64 (m:Int)) rfl (λw'=>?_) ?_
     . go_simp
     try simp only[Act.put,O]
     refine zT (i:=18) (v:=.pointer (some ⟨g,m,none⟩)) rfl (λw'=>?_) ?_
     . go_simp
     try simp only[Act.put,O]
     refine zx (i:=19) (v:=.slice (some ⟨b1,0,none⟩) 11 11) rfl (λw' hS'=>?_) f ?_
     . have g0:=hS'.2.2.2.1;clear hS';go_simp
     try simp only[Act.put,O]
     refine zT (i:=20) (v:=.pointer (some ⟨x,0,none⟩)) rfl (λw'=>?_) ?_
     . go_simp
     try simp only[Act.put,O]
     refine zT (i:=21) (v:=.pointer (some ⟨x,0,none⟩)) rfl (λw'=>?_) ?_
     . go_simp
     try simp only[Act.put,O]
     refine zT (i:=22) (v:=.pointer (some ⟨x,27,none⟩)) rfl (λw'=>?_) ?_
     . go_simp
     try simp only[Act.put,O]
     refine zx (i:=23) (v:=.bool P.nights) rfl (λw' hS'=>?_) f ?_
     . have g0:=hS'.2.2.2.2;clear hS';go_simp
     try simp only[Act.put,O]
     refine zo (i:=24) (o:={dst:=some 55,op:=Op.call {callee:=Callee.value (Operand.func 95),args:=#[Operand.tmp 31,Operand.tmp 33,Operand.tmp 38,Operand.tmp 44,Operand.tmp 45,Operand.tmp 50,Operand.tmp 54],argTypes:=#[67,9,49,49,72,72,4]},type:=72,pos:= "rules.go:30",after:=_,guard:=none}) (by kernel_rfl) rfl (by rfl) (λK hK=>?_);go_simp;refine(zwO Wd x t c P (A.1 _ Y.1) d5.1 s (dAt L k) (dAt L m) ak aj ck cj (HD.1 k (by omega)) (HD.1 m E) (a9.1.1.below (zwd Y.1)) (a9.1.2.below (zwd Y.1)) (some ⟨b,0,none⟩) (some ⟨b1,0,none⟩) 11 11 (HI.1.1.below (zwd Y.1)) (HI.1.2.below (zwd Y.1))).mono ?_;rintro e w6 ⟨wa,wc,rfl,c7,b2⟩;have c8:=I c7;have a0:=I (ztS Y.1 b2);have c9:=b0.1 _ a0.1;have d2:=I (zbQ c6.1 Y.1 b2);clear b2 c7 f Y c6;have f:=c9;clear c9;refine hK.1 _ _ (λ_ _=>f) ?_;clear hK K;try simp only[Act.put,O]
     refine zo (i:=25) (o:={dst:=some 9,op:=Op.assign (Operand.tmp 55),type:=72,pos:= "rules.go:30",after:=_,guard:=none}) (by kernel_rfl) rfl (by rfl) (λK hK=>?_);go_simp;refine hK.1 _ _ (λ_ h=>h) ?_;clear hK K;try simp only[Act.put,O]
     refine zM (by kernel_rfl) ?_;clear b0 f a9 HI;have p:=c8;have B:=I d9;have D:=I (zwc H.1.2 2 (zuh t c s (dAt L k) (dAt L m)));have T:=I (zv0 w6 x t c P (A.1 _ a0.1) (zwe t c s (dAt L k) (dAt L m)) wa wc (by rw[zwm];decide) p.1 (by have:=zl3 c 2;have:=a4.1;omega) (by rw[zu9];exact zpt H.1.2 (by decide) (zwZ H.1.1 H.1.2 ⟨HD.1 k (by omega),HD.1 m E⟩)));rw[zwm,zxm]at T;go_wp2_with fail;refine T.1.mono ?_;rintro e w9 ⟨v7,rfl,q,l⟩;have b3:=I (ztS a0.1 l);obtain⟨na,nc,rfl,hN⟩:=zkk.of_own q;have CV:=I (zib n.heap.size V1 _ w9 b3.1.size (zbQ d2.1 a0.1 l) 2 (k:Int) (brkV c 2 (zuh t c s (dAt L k) (dAt L m))) na nc hN (by have:=B.1;have:=D.1;omega));clear q hN l T p c8 d2;go_wp2_with fail;refine CV.1.mono ?_;rintro e wz ⟨v8,rfl,r,u,_⟩;have f8:=I (b3.1.trans u);have d3:=I r;clear r u CV b3;rw[<-HM.1]at d3;go_wp2_with fail;go_roundw
     case rel=>exact⟨m,by have:=U.1;omega,by first|rfl|(rw[U.1];try go_num),f8,d3⟩
     case measure=>simp[intOf];omega
   have f0:decide ((m:Int)<(L.length:Int))=false:=by simp;omega
   have HM:=I (show vioP t c s L m=V1 by rw[hm,vioP,if_neg (by omega),G,List.append_nil]);rw[<-HM.1]at F;clear G hm;go_wp2_with fail;go_roundw
   case rel=>exact⟨m,by have:=U.1;omega,by first|rfl|(rw[U.1];try go_num),W,F⟩
   case measure=>simp[intOf];omega
 obtain rfl:k=L.length:=by omega
 obtain⟨p0,p1,pl⟩:=zuw (blkA M.1 c3.1);have CP:=I (zu1 wr x t c P (A.1 _ M.1) s L (some ⟨y,d,none⟩) cap h1 h6 HD.1 (d6.1 _ M.1) g L.length (HQ.1.below M.1));go_wp2_with fail;refine CP.1.mono ?_;rintro e w5 ⟨b5,rfl,hI,b4⟩;have b6:=I (ztS M.1 b4);have d4:=I (zbQ HV.1 M.1 b4);have p:=I hI;have B:=I (c1.1 L.length (ztY _));have D:=I (zwc H.1.2 3 (zuY t c s L));clear hI b4 p0 p1 pl CP HV;have T:=I (broken_3 w5 x t c P (A.1 _ b6.1) (zuY t c s L) (some ⟨b5,0,none⟩) 7 (by show 6<7;decide) (by show 7*8<=_;decide) p.1 (by have:=zl3 c 3;have:=a4.1;omega) (zpt H.1.2 (by decide) (zwj H.1.1 H.1.2 h1 h6 HD.1)));go_wp2_with fail;refine T.1.mono ?_;rintro e w6 ⟨v7,rfl,q,l⟩;have b7:=I (ztS b6.1 l);obtain⟨na,nc,rfl,hN⟩:=zkk.of_own q;have CV:=I (zib n.heap.size (vioP t c s L L.length) _ w6 b7.1.size (zbQ d4.1 b6.1 l) 3 0 (brkV c 3 (zuY t c s L)) na nc hN (by have:=B.1;have:=D.1;omega));clear q hN l T p d4;go_wp2_with fail;refine CV.1.mono ?_;rintro e w8 ⟨v8,rfl,r,u,_⟩;have W:=I (b7.1.trans u);have F:=I r;clear r u CV b7;go_wp2_with fail;go_ret;exact⟨_,n.heap.size,rfl,z.1.size,F.1,ztS z.1 W.1⟩
theorem zwU{P:Program}{w:World}{o:Oper}{a:Act}{K:Act->World->Prop}{Q:Exit->Act->World->Prop}(s x:Operand)(t:TypeId)(G:o.op=.call {callee:=.builtin .append,args:=#[s,x],argTypes:=#[t,t]})(c:Nat)(e:TypeId)(i:TypeInfo)(z:Value)(b d:Nat)(H:P.underlying t=some (.slice e))(L:P.info? e=some i)(S:i.zero=some z) 
 (p:i.size=b) (A:i.bytes=d) (B:z.cells.size=b) (C:0<b) (v:Value) (n:Nat) (xs:List Value) (M:a.eval s=v) (k:w.ownsRow c e b v n xs) (N:Value) (m:Nat) (r:List Value) (T:Nat) (R:a.eval x=N) (f:w.ownsRow T e b N m r) (U:∀u∈r,u.oneCell'=true) (D:n+m<=maxLen) (l:(n+m)*d<=140737488355328) (q:c<=w.heap.size)
 (h:∀v' w',w'.ownsRow c e b v' (n+m) (xs++r)->w.grownBy w' v.ownBlock->K (a.put o.dst v') w'):o.wp P a w K Q:=by
 rcases f.2 with⟨E,V⟩|⟨g,F,W,E,_,X,h5,_,h7,Y⟩
 . subst V;have Z:r= []:=List.eq_nil_of_length_eq_zero (by rw[f.1,Nat.zero_mul]);have y:=run_append_owned_none (P:=P) (w:=w) c t o.type e i b H L v n xs k;have hk:=h v w (by rw[Z,List.append_nil];exact k) ⟨rfl,rfl,rfl,ztY _,λ_ _ _=>rfl⟩;unfold Oper.wp
   simp[execOp,G,resolve,invoke,builtin,M,R,E,y,Result.andThen]
   exact hk
 refine wp_append_own w s x t G c e i z b d H L S p A B C v n xs M k ⟨g,0,none⟩ m F r (R.trans E) f.1 (λj u hj=>?_) U D l q λv' w' k1 k2 _=>h v' w' k1 k2
 rw[show Addr.add ⟨g,0,none⟩ j=⟨g,j,none⟩ by unfold Addr.add;split <;> simp_all];refine zm X ?_;rw[<-Y,List.getElem?_take]at hj;split at hj
 . simpa using hj
 cases hj
theorem zwA(U V:List (Int×Int×ByteArray)):vRow (U++V)=vRow U++vRow V:=by simp[vRow]
theorem zwz(V:List (Int×Int×ByteArray)):∀u∈vRow V,u.oneCell'=true:=by
 intro u a;simp only[vRow,List.mem_flatMap]at a;obtain⟨x,_,b⟩:=a;simp[vCells]at b
 rcases b with rfl|rfl|rfl <;> rfl
theorem zwq(t:TTM)(c:ConM)(Y:zua)(zc:Nat)(Z:zua)(ac:Nat)(fa:zua)(fc:Nat)(p:ConP)(w:World)(hT:zY t=0)(hC:valT c=0)(a0:c.consts.length<=p.cc/\p.cc<=140737488355328)(hz:SlAt zcg w Y t.zones)(ha:SlAt zei w Z t.airs)(hf:SlAt zam w fa t.fls)(hc:zdr w.heap.size w c p)(s:ByteArray)(L:List Duty)(la:zua)(cap:Nat)(N:1<=L.length)(h6:L.length<=6)(hd:∀k,k<L.length->za6 t c (dAt L k)=0)(hs:hasB (t.airs.map AirM.code) s=true)(hl:SlAt dutyRT w la L):
 Calls prog 50 #[aggT t Y zc Z ac fa fc,aggC c p,.agg #[.string s,.slice la L.length cap]] w (VOwn w (vioP t c s L L.length++(brkV c 3 (zuY t c s L)).map λs=>(3,0,s))):=by
 try delta aggC aggT
 obtain⟨i0,hi,a7,a8,a9⟩:=info_parts zqo;have HT:=I hT;have D:=I hC;have HZ:=I hz;have HA:=I ha;have HF:=I hf;have HD:=I hd;have a1:=I hc;have HK:=I hs;have HL:=I hl;obtain⟨db,a3,rfl,b0,b3⟩:=zuQ hl (by omega);have b4:=I b3;clear hT hC hz ha hf hd hc hs hl b3;go_enter func50,ntmps50
 go_wp2_with fail;obtain⟨z,qT,qC,qP⟩:=zvm w t c Y zc Z ac fa fc p (oP s (some ⟨db,a3,none⟩) L.length cap);have q:=I z;obtain⟨cb,b1⟩:∃cb,cb=w.heap.size+1:=⟨_,rfl⟩;obtain⟨pb,b2⟩:∃pb,pb=w.heap.size+1+1:=⟨_,rfl⟩;rw[<-b2]at qP;rw[<-b1]at qC;simp only[<-b2];simp only[<-b1];clear b1 b2 z;generalize ((w.alloc (objT t Y zc Z ac fa fc)).alloc (objC c p)).alloc (oP s (some ⟨db,a3,none⟩) L.length cap)=B at*;have l:=I (λW' (h:Bw B W')=>(⟨blkA h qT,blkA h qC,blkA h qP⟩:W'.heap[w.heap.size]?=some (objT t Y zc Z ac fa fc)/\W'.heap[cb]?=some (objC c p)/\W'.heap[pb]?=some (oP s (some ⟨db,a3,none⟩) L.length cap)));clear qT qC qP;have P:=ztU b0 q.1.size;go_loopw [7,8] (λv i wr=>∃(k:Nat),k<=L.length/\i=.int .i64 k/\ztR (Bw B wr)/\ztR (wr.ownsRow B.heap.size 94 3 v (vioP t c s L k).length (vRow (vioP t c s L k)))) (λ_ i _=>L.length-(intOf i).toNat)
 case atStart=>exact⟨0,ztX _,rfl,I (ztT _ _),I (World.ownsRow_nil _ _ _ _)⟩
 obtain⟨k,hk,rfl,z,hV⟩:=hrel;by_cases Q:k<L.length
 . obtain⟨m,hm⟩:∃m,m=k+1:=⟨_,rfl⟩;have y:=I hm;have c0:IntKind.i64.wrap ((k:Int)+1)=(m:Int):=by rw[IntKind.wrap_i64];omega
   have c1:(k:Int)<(L.length:Int):=by omega
   have C:=I (zwp D.1 t s L k (by omega));have a4:=I (zwc D.1 1 (zaZ t c (dAt L k)));obtain⟨ak,ck,d0,_,ds⟩:=(b4.1.below b0 q.1) k Q;have D0:=I d0;have R:=I ds;have G:=R;clear d0 ds hm;obtain⟨g0,g1,gl⟩:=zuw (l.1 _ z.1).2.2;go_wp2_with fail;clear g0 g1 gl;refine' zxp [⟨16, [],.kn u7⟩,⟨17, [],.kn _⟩,⟨18, [],.kn _⟩,⟨19, [],.kn _⟩,⟨20, [],.kn _⟩,⟨21, [],.kn _⟩,⟨22, [21],.kn _⟩,⟨23, [],.kn _⟩,⟨24, [22,23],.kn _⟩,⟨25, [24],.kn _⟩,⟨26, [19,20,25],.ow (λv w'=>∃a n,v=.slice a (zaZ t c (dAt L k)).length n/\zcs w' a ((zk 1).zip (zaZ t c (dAt L k)))) (λ_ _ _ ⟨a,n,e,h⟩ h'=>⟨a,n,e,h.below h'⟩)⟩,⟨27, [17,18,26],.ow (λv w'=>∃b,B.heap.size<=b/\w'.ownsRow b 94 3 v ((brkV c 1 (zaZ t c (dAt L k))).map λs=>((1:Int),(k:Int),s)).length (vRow ((brkV c 1 (zaZ t c (dAt L k))).map λs=>((1:Int),(k:Int),s)))) (λ_ _ _ ⟨b,N,E⟩ h=>⟨b,N,zcn E h⟩)⟩] [3,4,5,7,8] [16,27] (λ_ h=>And.intro (zj D0.1 P (ztS z.1 h)) (And.intro (zdn (l.1 _ (ztS z.1 h)).1) (And.intro (zbZ (l.1 _ (ztS z.1 h)).2.1) (zuw (l.1 _ (ztS z.1 h)).2.2)))) ?h10 ?c10 ?f10
   case h10=>
    intro u;simp only[rlE,rlL,↓reduceIte,Nat.reduceEqDiff];intros
    refine⟨?_,?_,?_,?_,?_,?_,?_,?_,?_,?_,?_,?_,trivial⟩
    all_goals try (intros;refine rlK (by assumption) ?_;go_simp <;> rfl)
    . intro A H e o g q0 q1 q2 K S;go_simp;have j:=ztS z.1 o;have d:=ztS q.1 j;refine(zin t c Y zc Z ac fa fc p H HT.1 D.1 (HZ.1.below d) (HA.1.below d) (HF.1.below d) (dAt L k) ak ck (HD.1 k Q) (G.1.below j)).mono ?_;rintro e' w2 ⟨v,f,rfl,N,E,T⟩;obtain⟨U,V,rfl,r⟩:=zcs.of_own E rfl;exact S.1 _ _ ⟨T,U,V,rfl,r⟩
    rintro A H e o g q1 q2 ⟨U,V,E,r⟩ K S;go_simp;have j:=ztS z.1 o;have d:=ztS q.1 j;refine(zoQ c p w.heap.size H d.size a0 D.1 (a1.1.keep d) 1 (by decide) 1 rfl (k:Int) (zaZ t c (dAt L k)) (zaZ t c (dAt L k)) (zeU HT.1 D.1 (HD.1 k Q)).self U V _ rfl r).mono ?_;rintro e' w2 ⟨v,f,rfl,T,h4,h5⟩;rw[show refV c 1 (k:Int) (zaZ t c (dAt L k)) c.rules.length=((brkV c 1 (zaZ t c (dAt L k))).map λs=>((1:Int),(k:Int),s)) by rw[refV,zru,brkV,show limV ((1:Nat):Int) (zaZ t c (dAt L k))=(zaZ t c (dAt L k)) from zgX _];rfl]at h4;exact S.1 _ _ ⟨h5,f,ztV j.size T,h4⟩
   case c10=>kernel_rfl
   intro u w3 o;simp only[rlE,rlF,rlL,Act.put,O,↓reduceIte,Nat.reduceEqDiff];rintro e1 ⟨f,e2,e3⟩;have x:=zcn hV.1 o;have F:=ztS z.1 o;refine zwU (Operand.tmp 16) (Operand.tmp 27) 50 rfl B.heap.size 94 i0 (.agg #[.int .i64 0,.int .i64 0,.string ByteArray.empty]) 3 32 underlying50 hi a7 a8 a9 rfl (by decide) u7 _ _ e1 x _ _ _ f rfl e3 (zwz _) (by have:=C.1;have:=a4.1;simp only[List.length_map];unfold maxLen;omega) (by have:=C.1;have:=a4.1;simp only[List.length_map];omega) F.size λv1 w4 o1 o2=>?_
   have a5:=I (F.grown o2 F.size (λk hk=>zaM x k hk));have M:=I (show w4.ownsRow B.heap.size 94 3 v1 ((vioP t c s L k)++((brkV c 1 (zaZ t c (dAt L k))).map λs=>((1:Int),(k:Int),s))).length (vRow ((vioP t c s L k)++((brkV c 1 (zaZ t c (dAt L k))).map λs=>((1:Int),(k:Int),s)))) by rw[zwA,zt2];exact o1);clear o1 o2 x F e1 e2 e3 o;go_simp;have W:=a5;clear G z hV a5;obtain⟨g0,g1,gl⟩:=zuw (l.1 _ W.1).2.2;by_cases X:m<L.length
   . have b8:decide ((m:Int)<(L.length:Int))=true:=by simp;omega
     have HM:=I (show vioP t c s L m=vioP t c s L k++((brkV c 1 (zaZ t c (dAt L k))).map λs=>((1:Int),(k:Int),s))++((brkV c 2 (zuh t c s (dAt L k) (dAt L m))).map λs=>((2:Int),(k:Int),s)) by rw[y.1,vioP,if_pos (by have:=y.1;omega)]);have c3:(m:Int)<(L.length:Int):=by omega
     have b5:=I (zwc D.1 2 (zuh t c s (dAt L k) (dAt L m)));have a6:=I (show(vioP t c s L k++((brkV c 1 (zaZ t c (dAt L k))).map λs=>((1:Int),(k:Int),s))).length<=80*k+40 by rw[zt2,List.length_map];have:=C.1;have:=a4.1;omega);obtain⟨aj,cj,d1,_,es⟩:=(b4.1.below b0 q.1) m X;have D1:=I d1;have G:=I (And.intro R.1 es);clear d1 es R C a4;go_wp2_with fail;clear g0 g1 gl;refine' zxp [⟨35, [],.kn v1⟩,⟨36, [],.kn _⟩,⟨37, [],.kn _⟩,⟨38, [],.kn _⟩,⟨39, [],.kn _⟩,⟨40, [],.kn _⟩,⟨41, [40],.kn _⟩,⟨42, [],.kn _⟩,⟨43, [42],.kn _⟩,⟨44, [],.kn _⟩,⟨45, [43,44],.kn _⟩,⟨46, [45],.kn _⟩,⟨47, [],.kn _⟩,⟨48, [47],.kn _⟩,⟨49, [],.kn _⟩,⟨50, [49],.kn _⟩,⟨51, [48,50],.kn _⟩,⟨52, [51],.kn _⟩,⟨53, [38,39,41,46,52],.ow (λv w'=>∃a n,v=.slice a (zuh t c s (dAt L k) (dAt L m)).length n/\zcs w' a ((zk 2).zip (zuh t c s (dAt L k) (dAt L m)))) (λ_ _ _ ⟨a,n,e,h⟩ h'=>⟨a,n,e,h.below h'⟩)⟩,⟨54, [36,37,53],.ow (λv w'=>∃b,B.heap.size<=b/\w'.ownsRow b 94 3 v ((brkV c 2 (zuh t c s (dAt L k) (dAt L m))).map λs=>((2:Int),(k:Int),s)).length (vRow ((brkV c 2 (zuh t c s (dAt L k) (dAt L m))).map λs=>((2:Int),(k:Int),s)))) (λ_ _ _ ⟨b,N,E⟩ h=>⟨b,N,zcn E h⟩)⟩] [3,4,5,7,8] [35,54] (λ_ h=>And.intro (I (And.intro (zj D0.1 P (ztS W.1 h)) (zj D1.1 P (ztS W.1 h)))) (And.intro (zdn (l.1 _ (ztS W.1 h)).1) (And.intro (zbZ (l.1 _ (ztS W.1 h)).2.1) (zuw (l.1 _ (ztS W.1 h)).2.2)))) ?h11 ?c11 ?f11
     case h11=>
      intro u;simp only[rlE,rlL,↓reduceIte,Nat.reduceEqDiff];intros
      refine⟨?_,?_,?_,?_,?_,?_,?_,?_,?_,?_,?_,?_,?_,?_,?_,?_,?_,?_,?_,?_,trivial⟩
      all_goals try (intros;refine rlK (by assumption) ?_;go_simp <;> rfl)
      . intro A H e o g q0 K k;have g2:=g.1.1.1;clear g;refine rlK k ?_;go_simp <;> rfl
      . intro A H e o g q0 K k;have g2:=g.1.1.2;clear g;refine rlK k ?_;go_simp <;> rfl
      . intro A H e o g q0 q1 q2 q3 q4 K S;go_simp;have j:=ztS W.1 o;have d:=ztS q.1 j;refine(zus t c Y zc Z ac fa fc p H HT.1 D.1 (HZ.1.below d) (HA.1.below d) (HF.1.below d) s (dAt L k) (dAt L m) ak aj ck cj (HD.1 k Q) (HD.1 m X) (G.1.1.below j) (G.1.2.below j)).mono ?_;rintro e' w2 ⟨v,f,rfl,N,E,T⟩;obtain⟨U,V,rfl,r⟩:=zcs.of_own E rfl;exact S.1 _ _ ⟨T,U,V,rfl,r⟩
      rintro A H e o g q1 q2 ⟨U,V,E,r⟩ K S;go_simp;have j:=ztS W.1 o;have d:=ztS q.1 j;refine(zoQ c p w.heap.size H d.size a0 D.1 (a1.1.keep d) 2 (by decide) 2 rfl (k:Int) (zuh t c s (dAt L k) (dAt L m)) (zuh t c s (dAt L k) (dAt L m)) (zu8 HT.1 D.1 ⟨HD.1 k Q,HD.1 m X⟩).self U V _ rfl r).mono ?_;rintro e' w2 ⟨v,f,rfl,T,h4,h5⟩;rw[show refV c 2 (k:Int) (zuh t c s (dAt L k) (dAt L m)) c.rules.length=((brkV c 2 (zuh t c s (dAt L k) (dAt L m))).map λs=>((2:Int),(k:Int),s)) by rw[refV,zru,brkV,show limV ((2:Nat):Int) (zuh t c s (dAt L k) (dAt L m))=(zuh t c s (dAt L k) (dAt L m)) from zu9 _];rfl]at h4;exact S.1 _ _ ⟨h5,f,ztV j.size T,h4⟩
     case c11=>kernel_rfl
     intro u w5 o;simp only[rlE,rlF,rlL,Act.put,O,↓reduceIte,Nat.reduceEqDiff];rintro e1 ⟨f,e2,e3⟩;have x:=zcn M.1 o;have F:=ztS W.1 o;refine zwU (Operand.tmp 35) (Operand.tmp 54) 50 rfl B.heap.size 94 i0 (.agg #[.int .i64 0,.int .i64 0,.string ByteArray.empty]) 3 32 underlying50 hi a7 a8 a9 rfl (by decide) v1 _ _ e1 x _ _ _ f rfl e3 (zwz _) (by have:=a6.1;have:=b5.1;simp only[List.length_map];unfold maxLen;omega) (by have:=a6.1;have:=b5.1;simp only[List.length_map];omega) F.size λv2 w6 o1 o2=>?_
     have b9:=I (F.grown o2 F.size (λk hk=>zaM x k hk));have b6:=I (show w6.ownsRow B.heap.size 94 3 v2 ((vioP t c s L k++((brkV c 1 (zaZ t c (dAt L k))).map λs=>((1:Int),(k:Int),s)))++((brkV c 2 (zuh t c s (dAt L k) (dAt L m))).map λs=>((2:Int),(k:Int),s))).length (vRow ((vioP t c s L k++((brkV c 1 (zaZ t c (dAt L k))).map λs=>((1:Int),(k:Int),s)))++((brkV c 2 (zuh t c s (dAt L k) (dAt L m))).map λs=>((2:Int),(k:Int),s)))) by rw[zwA,zt2];exact o1);clear o1 o2 x F e1 e2 e3 o;go_simp;rw[<-HM.1]at b6;clear W G M;go_wp2_with fail;go_roundw
     case rel=>exact⟨m,by have:=y.1;omega,by first|rfl|(rw[y.1];try go_num),b9,b6⟩
     case measure=>have:=y.1;simp[intOf];omega
   have b8:decide ((m:Int)<(L.length:Int))=false:=by simp;omega
   have HM:=I (show vioP t c s L m=vioP t c s L k++((brkV c 1 (zaZ t c (dAt L k))).map λs=>((1:Int),(k:Int),s)) by rw[y.1,vioP,if_neg (by have:=y.1;omega),List.append_nil]);rw[<-HM.1]at M;go_wp2_with fail;go_roundw
   case rel=>exact⟨m,by have:=y.1;omega,by first|rfl|(rw[y.1];try go_num),W,M⟩
   case measure=>have:=y.1;simp[intOf];omega
 obtain rfl:k=L.length:=by omega
 have C:=I (zwp D.1 t s L L.length (ztY _));have b7:=I (zwc D.1 3 (zuY t c s L));obtain⟨g0,g1,gl⟩:=zuw (l.1 _ z.1).2.2;go_wp2_with fail;clear g0 g1 gl;refine' zxp [⟨56, [],.kn u7⟩,⟨57, [],.kn _⟩,⟨58, [],.kn _⟩,⟨59, [],.kn _⟩,⟨60, [],.kn _⟩,⟨61, [58,59,60],.ow (λv w'=>∃a n,v=.slice a (zuY t c s L).length n/\zcs w' a ((zk 3).zip (zuY t c s L))) (λ_ _ _ ⟨a,n,e,h⟩ h'=>⟨a,n,e,h.below h'⟩)⟩,⟨62, [57,61],.ow (λv w'=>∃b,B.heap.size<=b/\w'.ownsRow b 94 3 v ((brkV c 3 (zuY t c s L)).map λs=>((3:Int),(0:Int),s)).length (vRow ((brkV c 3 (zuY t c s L)).map λs=>((3:Int),(0:Int),s)))) (λ_ _ _ ⟨b,N,E⟩ h=>⟨b,N,zcn E h⟩)⟩] [3,4,5,7] [56,62] (λ_ h=>And.intro (zdn (l.1 _ (ztS z.1 h)).1) (And.intro (zbZ (l.1 _ (ztS z.1 h)).2.1) (zuw (l.1 _ (ztS z.1 h)).2.2))) ?h12 ?c12 ?f12
 case h12=>
  intro u;simp only[rlE,rlL,↓reduceIte,Nat.reduceEqDiff];intros
  refine⟨?_,?_,?_,?_,?_,?_,?_,trivial⟩
  all_goals try (intros;refine rlK (by assumption) ?_;go_simp <;> rfl)
  . intro A H e o g q0 q1 q2 K S;go_simp;have j:=ztS z.1 o;have d:=ztS q.1 j;refine(zu2 t c Y zc Z ac fa fc p H HT.1 D.1 a0 (HZ.1.below d) (HA.1.below d) (HF.1.below d) (TCAt.below (⟨HZ.1,HA.1,HF.1,a1.1⟩:TCAt w t c Y Z fa p) d).c s L (some ⟨db,a3,none⟩) cap N h6 HD.1 HK.1 (HL.1.below d)).mono ?_;rintro e' w2 ⟨v,f,rfl,N,E,T⟩;obtain⟨U,V,rfl,r⟩:=zcs.of_own E rfl;exact S.1 _ _ ⟨T,U,V,rfl,r⟩
  rintro A H e o g q1 ⟨U,V,E,r⟩ K S;go_simp;have j:=ztS z.1 o;have d:=ztS q.1 j;refine(zoQ c p w.heap.size H d.size a0 D.1 (a1.1.keep d) 3 (by decide) 3 rfl 0 (zuY t c s L) (zwv t c s L) (zwJ HT.1 D.1 N h6 HD.1) U V _ rfl r).mono ?_;rintro e' w2 ⟨v,f,rfl,T,h4,h5⟩;rw[show refV c 3 0 (zwv t c s L) c.rules.length=((brkV c 3 (zuY t c s L)).map λs=>((3:Int),(0:Int),s)) by rw[refV,zru];rfl]at h4;exact S.1 _ _ ⟨h5,f,ztV j.size T,h4⟩
 case c12=>kernel_rfl
 intro u w3 o;simp only[rlE,rlF,rlL,Act.put,O,↓reduceIte,Nat.reduceEqDiff];rintro e1 ⟨f,e2,e3⟩;have x:=zcn hV.1 o;have F:=ztS z.1 o;refine zwU (Operand.tmp 56) (Operand.tmp 62) 50 rfl B.heap.size 94 i0 (.agg #[.int .i64 0,.int .i64 0,.string ByteArray.empty]) 3 32 underlying50 hi a7 a8 a9 rfl (by decide) u7 _ _ e1 x _ _ _ f rfl e3 (zwz _) (by have:=C.1;have:=b7.1;simp only[List.length_map];unfold maxLen;omega) (by have:=C.1;have:=b7.1;simp only[List.length_map];omega) F.size λv1 w4 o1 o2=>?_
 have a5:=I (F.grown o2 F.size (λk hk=>zaM x k hk));have M:=I (show w4.ownsRow B.heap.size 94 3 v1 ((vioP t c s L L.length)++((brkV c 3 (zuY t c s L)).map λs=>((3:Int),(0:Int),s))).length (vRow ((vioP t c s L L.length)++((brkV c 3 (zuY t c s L)).map λs=>((3:Int),(0:Int),s)))) by rw[zwA,zt2];exact o1);clear o1 o2 x F e1 e2 e3 o;go_simp;go_wp2_with fail;go_ret;exact⟨v1,B.heap.size,rfl,q.1.size,M.1,ztS q.1 a5.1⟩
def zw3(t:TTM)(c:ConM)(s:ByteArray)(L:List Duty):List (Int×Int×ByteArray):=if pErr t c s L=0 then vioP t c s L L.length++(brkV c 3 (zuY t c s L)).map λs=>(3,0,s) else []
def zw9(t:TTM)(c:ConM)(s:ByteArray)(L:List Duty):Int:=if pErr t c s L=0 then zwa t c s L L.length else 0
theorem zwk{t:TTM}{c:ConM}{s:ByteArray}{L:List Duty}(h:pErr t c s L=0):zw3 t c s L=vioP t c s L L.length++(brkV c 3 (zuY t c s L)).map λs=>(3,0,s):=if_pos h
theorem zwg{t:TTM}{c:ConM}{s:ByteArray}{L:List Duty}(h:pErr t c s L≠0):zw3 t c s L= []:=if_neg h
theorem zwX{t:TTM}{c:ConM}{s:ByteArray}{L:List Duty}(h:pErr t c s L=0):zw9 t c s L=zwa t c s L L.length:=if_pos h
theorem zwK{t:TTM}{c:ConM}{s:ByteArray}{L:List Duty}(h:pErr t c s L≠0):zw9 t c s L=0:=if_neg h
inductive zxu(w:World)(t:TTM)(c:ConM)(s:ByteArray)(L:List Duty)(e:Ending)(w':World):Prop
 |bad (h:pErr t c s L≠0) (he:e=.returned (.tuple #[.pointer none,(pErr t c s L)]))
 |ok (sb:Nat) (P:SetP) (h:pErr t c s L=0) (h1:1<=L.length) (h6:L.length<=6) (hd:∀k,k<L.length->za6 t c (dAt L k)=0) (he:e=.returned (.tuple #[.pointer (some ⟨sb,0,none⟩),.int .i64 0])) (hs:zc6 w' sb t c P) (hn:P.nights=zma c)
theorem zwh(t:TTM)(c:ConM)(m:zua)(u:Nat)(n:zua)(v:Nat)(fa:zua)(fc:Nat)(p:ConP)(H:NewS t c m u n v fa fc p)(w:World)(K:TCAt w t c m n fa p)(s:ByteArray)(L:List Duty)(o:zua)(cap:Nat)(z:L.length<=140737488355328)(M:SlAt dutyRT w o L):Calls prog 48 #[aggT t m u n v fa fc,aggC c p,.agg #[.string s,.slice o L.length cap]] w λe w'=>zxu w t c s L e w'/\Bw w w':=by
 try delta aggC aggT
 have X:=I K;have Y:=I M;have Z:=I H;clear K M H;go_enter func48,ntmps48
 go_wp2_with fail;obtain⟨N,qT,Q,A⟩:=zvm w t c m u n v fa fc p (oP s o L.length cap);have f:=I N;obtain⟨R,g⟩:∃R,R=w.heap.size+1:=⟨_,rfl⟩;obtain⟨S,i⟩:∃S,S=w.heap.size+1+1:=⟨_,rfl⟩;rw[<-i]at A;rw[<-g]at Q;simp only[<-i];simp only[<-g];clear g i N;generalize ((w.alloc (objT t m u n v fa fc)).alloc (objC c p)).alloc (oP s o L.length cap)=W0 at*;have T:=I A;clear qT Q A;refine(Z.1 W0 (X.1.below f.1)).mono ?_;rintro e w1 ⟨q,j⟩;have a:=I (ztS f.1 j);have k:=I (blkA j T.1);clear j f T;rcases q with⟨h,rfl⟩|⟨h,x,rfl⟩|⟨U,P,rfl,y,_,V⟩
 . have W:(zY t !=0)=true:=by simpa using h
   have b:=I (show zY t=pErr t c s L from(tcE_t h).symm);have B:=I h;clear h;go_wp2_with fail;go_ret2;exact⟨.bad (by rw[<-b.1];exact B.1) (ziN b.1),a.1⟩
 . have W:(valT c !=0)=true:=by simpa using x
   have b:=I (show valT c=pErr t c s L from(tcE_c h x).symm);have B:=I x;clear h x;go_wp2_with fail;go_ret2;exact⟨.bad (by rw[<-b.1];exact B.1) (ziN b.1),a.1⟩
 have C:=I y;have b:=I (show pErr t c s L=zuO t c s L from tcE_d y.okT y.okC);obtain⟨g0,g1,gl⟩:=zuw k.1;have D:=I V;clear y V;go_wp2_with fail;refine ca (zuP w1 U t c P C.1 s L o cap z (Y.1.below a.1)) λw2 d=>?_;have r:=I (ztS a.1 d);have E:=I (C.1.below d);have a0:=I (blkA d k.1);clear d a C k g0 g1 gl;by_cases l:zuO t c s L=0
 . have F:=I (zvl l);have HZ:=I (b.1.trans l);rw[l];clear l b;go_wp2_with fail;go_ret2;exact⟨.ok U P HZ.1 F.1.2.1 F.1.2.2.1 F.1.2.2.2 rfl E.1 D.1,r.1⟩
 have W:(zuO t c s L !=0)=true:=by simpa using l
 have G:=I (show pErr t c s L≠0 by rw[b.1];exact l);clear l;go_wp2_with fail;go_ret2;exact⟨.bad G.1 (ziN b.1.symm),r.1⟩
theorem zwo(t:TTM)(c:ConM)(k:zua)(o:Nat)(l:zua)(q:Nat)(fa:zua)(fc:Nat)(p:ConP)(D:NewS t c k o l q fa fc p)(w:World)(E:TCAt w t c k l fa p)(s:ByteArray)(L:List Duty)(m:zua)(cap:Nat)(y:L.length<=140737488355328)(F:SlAt dutyRT w m L):Calls prog 20 #[aggT t k o l q fa fc,aggC c p,.agg #[.string s,.slice m L.length cap]] w (VPost w (zw3 t c s L) (pErr t c s L)):=by
 try delta aggC aggT
 have Y:=I E;have G:=I F;have Z:=I D;clear E F D;go_enter func20,ntmps20
 go_wp2_with fail;obtain⟨H,qT,K,z⟩:=zvm w t c k o l q fa fc p (oP s m L.length cap);have a:=I H;obtain⟨M,d⟩:∃M,M=w.heap.size+1:=⟨_,rfl⟩;obtain⟨N,f⟩:∃N,N=w.heap.size+1+1:=⟨_,rfl⟩;rw[<-f]at z;rw[<-d]at K;simp only[<-f];simp only[<-d];clear d f H;generalize ((w.alloc (objT t k o l q fa fc)).alloc (objC c p)).alloc (oP s m L.length cap)=W0 at*;have Q:=I z;clear qT K z;refine(zwh t c k o l q fa fc p Z.1 W0 (Y.1.below a.1) s L m cap y (G.1.below a.1)).mono ?_;rintro e w1 ⟨r,g⟩;have i:=I (ztS a.1 g);have A:=I (blkA g Q.1);clear g a Q;rcases r with⟨h,rfl⟩|⟨sb,P,h,R,S,T,rfl,U,V⟩
 . have n:=I h;have e1:(pErr t c s L !=0)=true:=by simpa using h
   clear h;go_wp2_with fail;go_ret2;exact⟨none,0,ziM (by rw[zwg n.1];rfl) rfl,.inl (zwg n.1),i.1⟩
 have n:=I h;have W:=I (zw4 w1 sb t c P U V s L m cap R S T (G.1.below i.1));obtain⟨g0,g1,gl⟩:=zuw A.1;clear U V h R S T;go_wp2_with fail;refine W.1.mono ?_;rintro e w2 ⟨v,X,rfl,j,b,u⟩;have B:=I (ztS i.1 u);obtain⟨a3,c3,rfl,x⟩:=zgN.of_own b;have C:=I x;clear u W b j x g0 g1 gl;go_wp2_with fail;go_ret2;exact⟨a3,c3,ziM (by rw[zwk n.1,zt2,List.length_map] <;> rfl) n.1.symm,by rw[zwk n.1];exact C.1,B.1⟩
theorem zxg(t:TTM)(c:ConM)(i:zua)(l:Nat)(j:zua)(m:Nat)(fa:zua)(fc:Nat)(p:ConP)(y:NewS t c i l j m fa fc p)(w:World)(z:TCAt w t c i j fa p)(s:ByteArray)(L:List Duty)(k:zua)(cap:Nat)(r:L.length<=140737488355328)(A:SlAt dutyRT w k L):Calls prog 22 #[aggT t i l j m fa fc,aggC c p,.agg #[.string s,.slice k L.length cap]] w λe w'=>e=.returned (.tuple #[(zw9 t c s L),(pErr t c s L)])/\Bw w w':=by
 try delta aggC aggT
 have S:=I z;have B:=I A;have T:=I y;clear z A y;go_enter func22,ntmps22
 go_wp2_with fail;obtain⟨C,U,D,u⟩:=zvm w t c i l j m fa fc p (oP s k L.length cap);have a:=I C;obtain⟨E,b⟩:∃E,E=w.heap.size+1:=⟨_,rfl⟩;obtain⟨F,d⟩:∃F,F=w.heap.size+1+1:=⟨_,rfl⟩;rw[<-d]at u;rw[<-b]at D;simp only[<-d];simp only[<-b];clear b d C;generalize ((w.alloc (objT t i l j m fa fc)).alloc (objC c p)).alloc (oP s k L.length cap)=V at*;have G:=I u;clear U D u;refine(zwh t c i l j m fa fc p T.1 V (S.1.below a.1) s L k cap r (B.1.below a.1)).mono ?_;rintro e W ⟨n,f⟩;have g:=I (ztS a.1 f);have v:=I (blkA f G.1);clear f a G;rcases n with⟨h,rfl⟩|⟨X,P,h,H,K,M,rfl,N,Q⟩
 . have q:=I h;have e1:(pErr t c s L !=0)=true:=by simpa using h
   clear h;go_wp2_with fail;go_ret2;exact⟨zJ (zwK q.1).symm rfl,g.1⟩
 have q:=I h;have R:=I (zxf W X t c P N Q s L k cap H K M (B.1.below g.1));obtain⟨Y,Z,gl⟩:=zuw v.1;clear N Q h H K M;go_wp2_with fail;refine R.1.mono ?_;rintro e w2 ⟨rfl,o⟩;have x:=I (ztS g.1 o);clear o R Y Z gl;go_wp2_with fail;go_ret2;exact⟨zJ (zwX q.1).symm q.1.symm,x.1⟩
theorem zwn(t:TTM)(c:ConM)(k:zua)(d:Nat)(l:zua)(g:Nat)(fa:zua)(fc:Nat)(p:ConP)(w:World)(A:(t.zones.length<=d/\d<=140737488355328/\t.airs.length<=g/\g<=140737488355328))(B:c.consts.length<=p.cc/\p.cc<=140737488355328)(C:TCAt w t c k l fa p)(s:ByteArray)(L:List Duty)(m:zua)(cap:Nat)(H:L.length<=140737488355328)(V:SlAt dutyRT w m L):
 Calls prog 21 #[aggT t k d l g fa fc,aggC c p,.agg #[.string s,.slice m L.length cap]] w (VPost w (zw3 t c s L) (pErr t c s L)):=by
 try delta aggC aggT
 have W:=I C;have X:=I V;clear C V;go_enter func21,ntmps21
 go_wp2_with fail;obtain⟨Y,Z,K,M⟩:=zvm w t c k d l g fa fc p (oP s m L.length cap);have n:=I Y;obtain⟨N,o⟩:∃N,N=w.heap.size+1:=⟨_,rfl⟩;obtain⟨P,q⟩:∃P,P=w.heap.size+1+1:=⟨_,rfl⟩;rw[<-q]at M;rw[<-o]at K;simp only[<-q];simp only[<-o];clear o q Y;generalize ((w.alloc (objT t k d l g fa fc)).alloc (objC c p)).alloc (oP s m L.length cap)=Q at*;have r:=I (λW' (h:Bw Q W')=>(⟨blkA h Z,blkA h K,blkA h M⟩:W'.heap[w.heap.size]?=some (objT t k d l g fa fc)/\W'.heap[N]?=some (objC c p)/\W'.heap[P]?=some (oP s m L.length cap)));clear Z K M;refine ca (zuW t c k d l g fa fc p Q A B (W.1.below n.1) s L m cap H (X.1.below n.1)) λw1 u=>?_;have R:=I u;have b:=I (ztS n.1 u);clear u;have HE:=I (show tcE t c (zuO t c s L)=pErr t c s L from rfl);rw[HE.1];by_cases x:pErr t c s L=0
 . obtain⟨hT,hC,hP⟩:=zvT x;have G:=I (zvl hP);have i:=I (And.intro hT hC);have S:=I x;obtain⟨x0,x1,x2,xl⟩:=zdn (r.1 _ R.1).1;obtain⟨y0,y1,y2,y3,y4,y5,y6,y7,y8,y9,a1,a3,a4,a5,yl⟩:=zbZ (r.1 _ R.1).2.1;obtain⟨g0,g1,gl⟩:=zuw (r.1 _ R.1).2.2;rw[x];clear x hT hC hP;go_wp2_with fail;have D:=W.1.below b.1;have hs:hasB (t.airs.map AirM.code) s=true:=by rw[<-zuL];exact G.1.1
   refine(zwq t c k d l g fa fc p w1 i.1.1 i.1.2 B D.z D.a D.f D.c s L m cap G.1.2.1 G.1.2.2.1 G.1.2.2.2 hs (X.1.below b.1)).mono ?_;rintro e w3 ⟨v,a0,rfl,y,j,E⟩;have T:=I (ztS b.1 E);obtain⟨a2,c2,rfl,F⟩:=zgN.of_own j;have U:=I F;clear E j y F D;go_wp2_with fail;go_ret2;exact⟨a2,c2,ziM (by rw[zwk S.1,zt2,List.length_map] <;> rfl) S.1.symm,by rw[zwk S.1];exact U.1,T.1⟩
 have h':(pErr t c s L !=0)=true:=by simpa using x
 have HV:=I x;clear x;go_wp2_with fail;go_ret2;exact⟨none,0,ziM (by rw[zwg HV.1];rfl) rfl,.inl (zwg HV.1),b.1⟩
theorem zwD(t:TTM)(c:ConM)(j:zua)(d:Nat)(k:zua)(g:Nat)(fa:zua)(fc:Nat)(p:ConP)(w:World)(v:(t.zones.length<=d/\d<=140737488355328/\t.airs.length<=g/\g<=140737488355328))(x:c.consts.length<=p.cc/\p.cc<=140737488355328)(y:TCAt w t c j k fa p)(s:ByteArray)(L:List Duty)(l:zua)(cap:Nat)(D:L.length<=140737488355328)(P:SlAt dutyRT w l L):
 Calls prog 23 #[aggT t j d k g fa fc,aggC c p,.agg #[.string s,.slice l L.length cap]] w λe w'=>e=.returned (.tuple #[(zw9 t c s L),(pErr t c s L)])/\Bw w w':=by
 try delta aggC aggT
 have Q:=I y;have R:=I P;clear y P;go_enter func23,ntmps23
 go_wp2_with fail;obtain⟨S,T,E,F⟩:=zvm w t c j d k g fa fc p (oP s l L.length cap);have m:=I S;obtain⟨G,n⟩:∃G,G=w.heap.size+1:=⟨_,rfl⟩;obtain⟨H,o⟩:∃H,H=w.heap.size+1+1:=⟨_,rfl⟩;rw[<-o]at F;rw[<-n]at E;simp only[<-o];simp only[<-n];clear n o S;generalize ((w.alloc (objT t j d k g fa fc)).alloc (objC c p)).alloc (oP s l L.length cap)=K at*;have q:=I (λW' (h:Bw K W')=>(⟨blkA h T,blkA h E,blkA h F⟩:W'.heap[w.heap.size]?=some (objT t j d k g fa fc)/\W'.heap[G]?=some (objC c p)/\W'.heap[H]?=some (oP s l L.length cap)));clear T E F;refine ca (zuW t c j d k g fa fc p K v x (Q.1.below m.1) s L l cap D (R.1.below m.1)) λY r=>?_;have M:=I r;have b:=I (ztS m.1 r);clear r;have Z:=I (show tcE t c (zuO t c s L)=pErr t c s L from rfl);rw[Z.1];by_cases u:pErr t c s L=0
 . obtain⟨U,V,W⟩:=zvT u;have C:=I (zvl W);have i:=I (And.intro U V);have X:=I u;obtain⟨x0,x1,x2,xl⟩:=zdn (q.1 _ M.1).1;obtain⟨y0,y1,y2,y3,y4,y5,y6,y7,y8,y9,a0,a1,a2,a3,yl⟩:=zbZ (q.1 _ M.1).2.1;obtain⟨g0,g1,gl⟩:=zuw (q.1 _ M.1).2.2;rw[u];clear u U V W;go_wp2_with fail;have A:=Q.1.below b.1;have hs:hasB (t.airs.map AirM.code) s=true:=by rw[<-zuL];exact C.1.1
   refine ca (zw2 t c j d k g fa fc p Y i.1.1 i.1.2 x A.z A.a A.f A.c s L l cap C.1.2.1 C.1.2.2.1 C.1.2.2.2 hs (R.1.below b.1)) λw3 B=>?_;have N:=I (ztS b.1 B);clear B A;go_wp2_with fail;go_ret2;exact⟨by rw[zwX X.1,X.1];rfl,N.1⟩
 have h':(pErr t c s L !=0)=true:=by simpa using u
 have HV:=I u;clear u;go_wp2_with fail;go_ret2;exact⟨by rw[zwK HV.1];rfl,b.1⟩
end Go.Proofs.YtbhhejkolnigfaaGreat
