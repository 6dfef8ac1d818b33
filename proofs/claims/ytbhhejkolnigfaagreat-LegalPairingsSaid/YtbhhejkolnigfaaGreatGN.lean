/- a part of the proof -/
import Derived.Test.YtbhhejkolnigfaaGreatGM
import Derived.Test.YtbhhejkolnigfaaGreatGR
set_option linter.unusedVariables false
set_option linter.unusedSimpArgs false
set_option maxRecDepth 100000
set_option maxHeartbeats 51200000
namespace Go.Proofs.YtbhhejkolnigfaaGreat
open Go.RowKit Go.Sort Go.Proofs.Tryz
theorem zoC(nm:List UInt8)(o:Int)(l:List (Int×Int))(x y a b:Int):0<=(zaJ nm o l x y a b).1/\(zaJ nm o l x y a b).1<=52596000:=by
 unfold zaJ
 by_cases h:zac nm o l x y a b≠0
 . rw[if_pos h];omega
 rw[if_neg h];obtain⟨_,c,_⟩:=zdb (Classical.not_not.1 h);have:=zj5 (inB o l a b) x (y-x).toNat;simp only;omega
theorem zng(nm:List UInt8)(o:Int)(l:List (Int×Int))(t:Int):-840<=(zaB nm o l t).1/\(zaB nm o l t).1<=840:=by
 by_cases h:(zaB nm o l t).2=0
 . have:=zex h;omega
 unfold zaB at*
 by_cases a:zG nm o l≠0
 . rw[if_pos a];simp
 rw[if_neg a]at h ⊢;by_cases b:insB t=false
 . rw[if_pos b];simp
 rw[if_neg b]at h;exact absurd rfl h
theorem zeS(nm:List UInt8)(o:Int)(l:List (Int×Int))(t:Int):0<=(zbj nm o l t).2.1/\(zbj nm o l t).2.1<1440:=by
 unfold zbj
 split
 . simp
 simp only;omega
theorem zeD(t:TTM)(c:ConM)(d:Duty):(zaZ t c d).length=11:=rfl
theorem zrJ{t:TTM}{c:ConM}{d:Duty}(b:zY t=0)(e:valT c=0)(a:za6 t c d=0):∀i,i<11->0<=iAt (zaZ t c d) i/\iAt (zaZ t c d) i<=100000000:=by
 have f:=DVB.to b e a d.length (ztY _);have x:d.length<=6:=(zcp a).2.1;have g:=znp b e a;have h:(zcK t c d).1=(fAt t.fls (fstN d)).dep-c.report:=rfl;have j:(zcK t c d).2=(fAt t.fls (lstN d)).arr+c.release:=rfl;rw[h,j]at g;obtain⟨k,l,m,n,o,p,q,r,s,u,v⟩:=f;intro i w;match i,w with
 |0,_=>show 0<=(dvTo t d d.length).legs/\(dvTo t d d.length).legs<=_;omega
 |1,_=>show 0<=(dvTo t d d.length).heads/\(dvTo t d d.length).heads<=_;omega
 |2,_=>show 0<=((dvTo t d d.length).kinds.length:Int)/\((dvTo t d d.length).kinds.length:Int)<=_;omega
 |3,_=>show 0<=(dvTo t d d.length).blk/\(dvTo t d d.length).blk<=_;omega
 |4,_=>show 0<=zlR t c (fstN d) (lstN d)/\zlR t c (fstN d) (lstN d)<=_;unfold zlR;omega
 |5,_=>show 0<=zfF t c (fstN d) (lstN d)/\zfF t c (fstN d) (lstN d)<=_;unfold zfF;have:=zoC (zp t (fAt t.fls (fstN d)).frm).name.data.toList (zp t (fAt t.fls (fstN d)).frm).off (zp t (fAt t.fls (fstN d)).frm).sh ((fAt t.fls (fstN d)).dep-c.report) ((fAt t.fls (lstN d)).arr+c.release) c.nf c.nt;omega
 |6,_=>show 0<=(dvTo t d d.length).lng/\(dvTo t d d.length).lng<=_;omega
 |7,_=>show 0<=(dvTo t d d.length).sht/\(dvTo t d d.length).sht<=_;omega
 |8,_=>
  show 0<=zcT t c (fstN d) (lstN d)/\zcT t c (fstN d) (lstN d)<=_
  have y:=zng (zp t (fAt t.fls (fstN d)).frm).name.data.toList (zp t (fAt t.fls (fstN d)).frm).off (zp t (fAt t.fls (fstN d)).frm).sh ((fAt t.fls (fstN d)).dep-c.report);have z:=zng (zp t (fAt t.fls (lstN d)).to).name.data.toList (zp t (fAt t.fls (lstN d)).to).off (zp t (fAt t.fls (lstN d)).to).sh ((fAt t.fls (lstN d)).arr+c.release);unfold zcT zgt zgs mx
  split <;> omega
 |9,_=>
  have:=zeS (zp t (fAt t.fls (fstN d)).frm).name.data.toList (zp t (fAt t.fls (fstN d)).frm).off (zp t (fAt t.fls (fstN d)).frm).sh ((fAt t.fls (fstN d)).dep-c.report);show 0<=zdd t c (fstN d)/\zdd t c (fstN d)<=_;unfold zdd;omega
 |10,_=>
  have:=zeS (zp t (fAt t.fls (lstN d)).to).name.data.toList (zp t (fAt t.fls (lstN d)).to).off (zp t (fAt t.fls (lstN d)).to).sh ((fAt t.fls (lstN d)).arr+c.release);show 0<=endI t c (lstN d)/\endI t c (lstN d)<=_;unfold endI;omega
theorem zot:((List.range 11).all λi=>zad 1 (sAt (zk 1) i) !=4&&(zad 1 (sAt (zk 1) i) !=3 || decide (9<=i)))=true:=by decide+kernel
theorem zqB(t:TTM)(c:ConM)(d:Duty){i:Nat}(b:9<=i)(a:i<11):0<=iAt (zaZ t c d) i/\iAt (zaZ t c d) i<1440:=by
 obtain rfl|rfl:i=9\/i=10:=by omega
 . have:=zeS (zp t (fAt t.fls (fstN d)).frm).name.data.toList (zp t (fAt t.fls (fstN d)).frm).off (zp t (fAt t.fls (fstN d)).frm).sh ((fAt t.fls (fstN d)).dep-c.report);exact this
 have:=zeS (zp t (fAt t.fls (lstN d)).to).name.data.toList (zp t (fAt t.fls (lstN d)).to).off (zp t (fAt t.fls (lstN d)).to).sh ((fAt t.fls (lstN d)).arr+c.release);exact this
theorem zeU{t:TTM}{c:ConM}{d:Duty}(e:zY t=0)(f:valT c=0)(g:za6 t c d=0):QOk 1 (zaZ t c d) where
 len:=rfl
 val:=λi hi=>by
  have a:i<11:=hi;have j:=zrJ e f g i a;have b:=List.all_eq_true.1 zot i (List.mem_range.2 a);simp only[zt5,bne_iff_ne,Bool.or_eq_true,decide_eq_true_eq]at b;refine⟨by unfold inR;omega,λh3=>?_,λh4=>absurd h4 b.1⟩;rcases b.2 with h|h
  . exact absurd h3 h
  exact zqB t c d h a
theorem ziM{v c:Value}{a b:Int}(d:v=c)(h:a=b):Ending.returned (.tuple #[v,a])=.returned (.tuple #[c,b]):=by rw[h,d]
theorem zox{t:TTM}{c:ConM}{d:Duty}(f:zY t=0)(b:valT c=0)(g:za6 t c d=0):∀k,k<(zaI c).length->fok (zaZ t c d) (gAt (zaI c) k):=by
 intro k h;have a:k<c.credit.length:=by simpa[zaI] using h
 have e:gAt (zaI c) k=cmpE (cvC c.consts c.consts.length) 1 (eAt c.credit k):=by
  unfold gAt zaI eAt
  rw[zt0,List.getElem?_map,zt0,zt1 a];rfl
 obtain⟨i,l,j⟩:=zhS b a;rw[e];exact(zlS ((zeU f b g).env (by decide) c.consts c.consts.length) _ i j).1
theorem zow{c:ConM}(a:valT c=0):(zaI c).length<=1:=by
 have h:=(zch (zbV a).g).1;simp only[zdP,zt5,decide_eq_true_eq]at h;simp only[zaI,List.length_map];omega
end Go.Proofs.YtbhhejkolnigfaaGreat
