/- plain facts: segments of a zone -/
import Derived.Test.YtdjhoelbnnljjaaZone2
namespace Go.Proofs.Ytdjhoelbnnljjaa
def mx (a b : Int) : Int := if a < b then b else a
def mn (a b : Int) : Int := if b < a then b else a
/-- one segment, or none -/
def seg1 (fr to o x y : Int) : List (Int × Int × Int) := if mx fr x < mn to y then [(mx fr x, mn to y, o)] else []
/-- the segments behind 'fr' -/
def segsP : Int → Int → List (Int × Int) → Int → Int → List (Int × Int × Int)
  | fr, o, [], x, y => seg1 fr 52596000 o x y
  | fr, o, s :: l, x, y => seg1 fr s.1 o x y ++ segsP s.1 s.2 l x y
def segsK (fr o : Int) (l : List (Int × Int)) (k : Nat) (x y : Int) : List (Int × Int × Int) := if k ≤ l.length then segsP fr o (l.drop k) x y else []
theorem segsK_zero (o : Int) (l : List (Int × Int)) (x y : Int) : segsP 0 o l x y = [] ++ segsK 0 o l 0 x y := by simp [segsK]
theorem segsK_lt {fr o : Int} {l : List (Int × Int)} {k : Nat} {x y : Int} (h : k < l.length) : segsK fr o l k x y = seg1 fr (shAt l k).1 o x y ++ segsK (shAt l k).1 (shAt l k).2 l (k + 1) x y := by
  rw [segsK, if_pos (by omega), segsK, if_pos (by omega), drop_at l k h, segsP]
theorem segsK_len {fr o : Int} {l : List (Int × Int)} {x y : Int} : segsK fr o l l.length x y = seg1 fr 52596000 o x y ++ segsK fr o l (l.length + 1) x y := by
  rw [segsK, if_pos (by omega), segsK, if_neg (by omega), List.drop_length, segsP, List.append_nil]
theorem segsK_end {fr o : Int} {l : List (Int × Int)} {k : Nat} {x y : Int} (h : ¬ k ≤ l.length) : segsK fr o l k x y = [] := by rw [segsK, if_neg h]
theorem seg1_yes {fr to o x y : Int} (h : mx fr x < mn to y) : seg1 fr to o x y = [(mx fr x, mn to y, o)] := if_pos h
theorem seg1_no {fr to o x y : Int} (h : ¬ mx fr x < mn to y) : seg1 fr to o x y = [] := if_neg h
theorem seg1_len (fr to o x y : Int) : (seg1 fr to o x y).length ≤ 1 := by unfold seg1; split <;> simp
theorem segsP_len (l : List (Int × Int)) : ∀ fr o x y, (segsP fr o l x y).length ≤ l.length + 1 := by
  induction l with
  | nil => intro fr o x y; simp [segsP, seg1_len]
  | cons s l ih =>
    intro fr o x y
    have h1 := ih s.1 s.2 x y
    have h2 := seg1_len fr s.1 o x y
    simp [segsP]; omega
end Go.Proofs.Ytdjhoelbnnljjaa
