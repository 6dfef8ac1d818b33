/- a part of the proof -/
import Derived.Test.YtbhhejkolnigfaaGreatGU
import Derived.Test.YtbhhejkolnigfaaGreatGX
set_option linter.unusedVariables false
set_option linter.unusedSimpArgs false
set_option maxRecDepth 100000
set_option maxHeartbeats 51200000
namespace Go.Proofs.YtbhhejkolnigfaaGreat
open Go.RowKit Go.Sort Go.Proofs.Tryz
theorem zvM(nm:List UInt8)(o:Int)(l:List (Int×Int))(x y a b:Int):0<=(zdh nm o l x y a b).1/\(zdh nm o l x y a b).1<=60000000:=by
 unfold zdh
 by_cases h:zac nm o l x y a b=0
 . rw[if_neg (by simpa using h)];obtain⟨_,⟨c,d,e⟩,_⟩:=zdb h;have f:=zog (inB o l a b) x (zap a b) (y-x).toNat;have g:(((y-x).toNat:Nat):Int)<=52596000:=by omega
   simp only;split
   . omega
   unfold zfG;split <;> omega
 rw[if_pos h];simp
theorem zv7(a b:List Int)(k:Nat):iAt (a++b) k=if k<a.length then iAt a k else iAt b (k-a.length):=by
 unfold iAt
 by_cases h:k<a.length
 . rw[if_pos h];simp[List.getD,zt8 h]
 rw[if_neg h];simp[List.getD,zt9 (Nat.le_of_not_lt h)]
theorem zvI:((List.range 25).all λi=>(zad 2 (sAt (zk 2) i) !=4 || decide (i=2))&&(zad 2 (sAt (zk 2) i) !=3 || decide (i=12\/i=13\/i=23\/i=24)))=true:=by decide+kernel
theorem zvX(t:TTM)(c:ConM)(s:ByteArray)(x y:Duty)(i:Nat):iAt (zuh t c s x y) (i+3)=if i<11 then iAt (zaZ t c x) i else iAt (zaZ t c y) (i-11):=by
 show iAt (zaZ t c x++zaZ t c y) i=_
 rw[zv7,zeD]
theorem zu8{t:TTM}{c:ConM}{s:ByteArray}{x y:Duty}(f:zY t=0)(g:valT c=0)(j:za6 t c x=0/\za6 t c y=0):QOk 2 (zuh t c s x y) where
 len:=rfl
 val:=λi hi=>by
  have l:i<25:=hi;have m:=List.all_eq_true.1 zvI i (List.mem_range.2 l);simp only[zt5,bne_iff_ne,Bool.or_eq_true,decide_eq_true_eq]at m;obtain⟨d,b⟩:=m;have r:=zuj f g j.1;have u:=zuj f g j.2;rcases Nat.lt_or_ge i 3 with o|o
  . have p:zad 2 (sAt (zk 2) i)≠3:=by rcases b with h|h;exact h;omega
    refine⟨?_,λh=>absurd h p,λh4=>?_⟩
    . obtain rfl|rfl|rfl:i=0\/i=1\/i=2:=by omega
      . show inR ((zcK t c y).1-(zcK t c x).2);unfold inR;omega
      . show inR (zuK t c x y);have:=zvM (zp t (fAt t.fls (lstN x)).to).name.data.toList (zp t (fAt t.fls (lstN x)).to).off (zp t (fAt t.fls (lstN x)).to).sh (zcK t c x).2 (zcK t c y).1 c.nf c.nt;unfold inR zuK;omega
      show inR (zuM t x s);unfold inR zuM;split <;> omega
    rcases d with h|rfl
    . exact absurd h4 h
    show isB (zuM t x s);unfold isB zuM;split <;> simp
  obtain⟨k,rfl⟩:∃k,i=k+3:=⟨i-3,by omega⟩;have n:zad 2 (sAt (zk 2) (k+3))≠4:=by rcases d with h|h;exact h;omega
  rw[zvX];by_cases a:k<11
  . rw[if_pos a];have q:=zrJ f g j.1 k a;refine⟨by unfold inR;omega,λh=>?_,λh=>absurd h n⟩;rcases b with e|e
    . exact absurd h e
    exact zqB t c x (by omega) a
  rw[if_neg a];have q:=zrJ f g j.2 (k-11) (by omega);refine⟨by unfold inR;omega,λh=>?_,λh=>absurd h n⟩;rcases b with e|e
  . exact absurd h e
  exact zqB t c y (by omega) (by omega)
theorem zu9(q:List Int):limV 2 q=q:=if_neg (by decide)
end Go.Proofs.YtbhhejkolnigfaaGreat
