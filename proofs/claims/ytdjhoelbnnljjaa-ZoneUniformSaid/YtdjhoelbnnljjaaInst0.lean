/- plain facts: instants of a local time -/
import Derived.Test.YtdjhoelbnnljjaaSeg0
namespace Go.Proofs.Ytdjhoelbnnljjaa
def segAt (L : List (Int × Int × Int)) (k : Nat) : Int × Int × Int := L.getD k (0, 0, 0)
theorem seg_drop (L : List (Int × Int × Int)) (k : Nat) (h : k < L.length) : L.drop k = segAt L k :: L.drop (k + 1) := by
  rw [segAt, List.drop_eq_getElem_cons h, List.getD_eq_getElem?_getD, List.getElem?_eq_getElem h]; rfl
theorem segAt_mem (L : List (Int × Int × Int)) (k : Nat) (h : k < L.length) : segAt L k ∈ L := by
  rw [segAt, List.getD_eq_getElem?_getD, List.getElem?_eq_getElem h]; exact List.getElem_mem h
def inst1 (g : Int × Int × Int) (loc : Int) : List Int := if g.1 ≤ loc - g.2.2 ∧ loc - g.2.2 < g.2.1 then [loc - g.2.2] else []
def instsP : List (Int × Int × Int) → Int → List Int
  | [], _ => []
  | g :: L, loc => inst1 g loc ++ instsP L loc
theorem instsP_step {L : List (Int × Int × Int)} {k : Nat} {loc : Int} (h : k < L.length) : instsP (L.drop k) loc = inst1 (segAt L k) loc ++ instsP (L.drop (k + 1)) loc := by
  rw [seg_drop L k h, instsP]
theorem instsP_end {L : List (Int × Int × Int)} {k : Nat} {loc : Int} (h : ¬ k < L.length) : instsP (L.drop k) loc = [] := by
  rw [List.drop_of_length_le (by omega), instsP]
theorem inst1_yes {g : Int × Int × Int} {loc : Int} (h1 : g.1 ≤ loc - g.2.2) (h2 : loc - g.2.2 < g.2.1) : inst1 g loc = [loc - g.2.2] := if_pos ⟨h1, h2⟩
theorem inst1_no {g : Int × Int × Int} {loc : Int} (h : ¬ (g.1 ≤ loc - g.2.2 ∧ loc - g.2.2 < g.2.1)) : inst1 g loc = [] := if_neg h
theorem segsP_off (l : List (Int × Int)) : ∀ (p : Option Int) (fr o x y : Int), valShifts p l = 0 → offB o = true → ∀ g ∈ segsP fr o l x y, offB g.2.2 = true := by
  induction l with
  | nil =>
    intro p fr o x y _ ho g hg
    simp only [segsP, seg1] at hg
    split at hg
    · simp at hg; subst hg; exact ho
    · simp at hg
  | cons s l ih =>
    intro p fr o x y h ho g hg
    rw [valShifts] at h
    split at h
    · omega
    split at h
    · omega
    rename_i h1 h2
    simp at h1
    rw [segsP, List.mem_append] at hg
    rcases hg with hg | hg
    · simp only [seg1] at hg
      split at hg
      · simp at hg; subst hg; exact ho
      · simp at hg
    · exact ih _ _ _ _ _ h h1.2 g hg
def dayB (d : Int) : Bool := decide (d < -2 ∨ 36527 < d)
def instZ (nm : List UInt8) (o : Int) (l : List (Int × Int)) (day clock : Int) : List Int × Int :=
  if valZone nm o l ≠ 0 then ([], valZone nm o l) else if clkB clock = false then ([], 5) else if dayB day = true then ([], 0)
  else (instsP (segsP 0 o l 0 52596000) (day * 1440 + clock), 0)
theorem clkB_iff {n : Int} (h : clkB n = true) : 0 ≤ n ∧ n < 1440 := by simpa [clkB] using h
end Go.Proofs.Ytdjhoelbnnljjaa
