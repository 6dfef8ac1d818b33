/- plain facts: zones -/
import Derived.Test.YtdjhoelbnnljjaaPlain
namespace Go.Proofs.Ytdjhoelbnnljjaa
def offB (n : Int) : Bool := decide (-840 ≤ n ∧ n ≤ 840)
def insB (n : Int) : Bool := decide (0 ≤ n ∧ n < 52596000)
def clkB (n : Int) : Bool := decide (0 ≤ n ∧ n < 1440)
def spnB (a b : Int) : Bool := decide (0 ≤ a ∧ a ≤ b ∧ b ≤ 52596000)
def bandB (c a b : Int) : Bool := if a ≤ b then decide (a ≤ c ∧ c < b) else decide (a ≤ c ∨ c < b)

/-- the error of a list of shifts, behind a shift at p -/
def valShifts : Option Int → List (Int × Int) → Int
  | _, [] => 0
  | p, s :: l => if (insB s.1 && offB s.2) = false then 5 else if p.any (fun q => decide (s.1 ≤ q)) = true then 8 else valShifts (some s.1) l
/-- the error of a zone -/
def valZone (name : List UInt8) (off : Int) (l : List (Int × Int)) : Int :=
  if nameB name = false then 1 else if offB off = false then 5 else if 16 < l.length then 10 else valShifts none l
/-- the shift at place k -/
def shAt (l : List (Int × Int)) (k : Nat) : Int × Int := l.getD k (0, 0)
/-- what stands before place k -/
def prevAt (l : List (Int × Int)) (k : Nat) : Option Int := if k = 0 then none else some (shAt l (k - 1)).1
def ValUpto (l : List (Int × Int)) (k : Nat) : Prop := valShifts none l = valShifts (prevAt l k) (l.drop k)
theorem ValUpto.zero (l : List (Int × Int)) : ValUpto l 0 := rfl
theorem drop_at (l : List (Int × Int)) (k : Nat) (h : k < l.length) : l.drop k = shAt l k :: l.drop (k + 1) := by
  rw [shAt, List.drop_eq_getElem_cons h, List.getD_eq_getElem?_getD, List.getElem?_eq_getElem h]; rfl
theorem ValUpto.bad {l : List (Int × Int)} {k : Nat} (H : ValUpto l k) (h : k < l.length) (hk : insB (shAt l k).1 = false ∨ offB (shAt l k).2 = false) : valShifts none l = 5 := by
  rw [H, drop_at l k h, valShifts, if_pos (by rcases hk with hk | hk <;> simp [hk])]
theorem ValUpto.order {l : List (Int × Int)} {k : Nat} (H : ValUpto l k) (h : k < l.length) (h1 : insB (shAt l k).1 = true) (h2 : offB (shAt l k).2 = true)
    (h0 : 0 < k) (hk : (shAt l k).1 ≤ (shAt l (k - 1)).1) : valShifts none l = 8 := by
  rw [H, drop_at l k h, valShifts, if_neg (by simp [h1, h2]), if_pos (by simp [prevAt, show ¬ k = 0 by omega]; simpa using hk)]
theorem ValUpto.step {l : List (Int × Int)} {k : Nat} (H : ValUpto l k) (h : k < l.length) (h1 : insB (shAt l k).1 = true) (h2 : offB (shAt l k).2 = true)
    (hk : k = 0 ∨ (shAt l (k - 1)).1 < (shAt l k).1) : ValUpto l (k + 1) := by
  unfold ValUpto at *
  rw [H, drop_at l k h, valShifts, if_neg (by simp [h1, h2]), if_neg (by
    rcases hk with hk | hk
    · simp [prevAt, hk]
    · by_cases e : k = 0
      · simp [prevAt, e]
      · simp [prevAt, e]; simpa using hk)]
  simp [prevAt]
theorem ValUpto.done {l : List (Int × Int)} (H : ValUpto l l.length) : valShifts none l = 0 := by
  rw [H, List.drop_length, valShifts]

/-- the offset at t: the first shift behind t ends the search -/
def offP : Int → List (Int × Int) → Int → Int
  | o, [], _ => o
  | o, s :: l, t => if t < s.1 then o else offP s.2 l t
/-- the offset at t: the last shift not behind t -/
def offR : Int → List (Int × Int) → Int → Int
  | o, [], _ => o
  | o, s :: l, t => offR (if s.1 ≤ t then s.2 else o) l t
theorem offR_late (l : List (Int × Int)) : ∀ (p o t : Int), valShifts (some p) l = 0 → t < p → offR o l t = o := by
  induction l with
  | nil => intros; rfl
  | cons s l ih =>
    intro p o t h ht
    rw [valShifts] at h
    split at h
    · omega
    · split at h
      · omega
      · rename_i _ h2
        simp at h2
        rw [offR, if_neg (by omega)]
        exact ih s.1 o t h (by omega)
theorem offP_eq_offR (l : List (Int × Int)) : ∀ (p : Option Int) (o t : Int), valShifts p l = 0 → offP o l t = offR o l t := by
  induction l with
  | nil => intros; rfl
  | cons s l ih =>
    intro p o t h
    rw [valShifts] at h
    split at h
    · omega
    · split at h
      · omega
      · rw [offP, offR]
        split
        · rw [if_neg (by omega)]; exact (offR_late l s.1 o t h (by omega)).symm
        · rw [if_pos (by omega)]; exact ih _ _ _ h
theorem offP_drop_done {l : List (Int × Int)} {k : Nat} {n t : Int} (h : ¬ k < l.length) : offP n (l.drop k) t = n := by
  rw [List.drop_of_length_le (by omega)]; rfl
theorem offP_drop_stop {l : List (Int × Int)} {k : Nat} {n t : Int} (h : k < l.length) (ht : t < (shAt l k).1) : offP n (l.drop k) t = n := by
  rw [drop_at l k h, offP, if_pos ht]
theorem offP_drop_step {l : List (Int × Int)} {k : Nat} {n t : Int} (h : k < l.length) (ht : ¬ t < (shAt l k).1) : offP n (l.drop k) t = offP (shAt l k).2 (l.drop (k + 1)) t := by
  rw [drop_at l k h, offP, if_neg ht]
theorem offR_drop_done {l : List (Int × Int)} {k : Nat} {n t : Int} (h : ¬ k < l.length) : offR n (l.drop k) t = n := by
  rw [List.drop_of_length_le (by omega)]; rfl
theorem offR_drop_yes {l : List (Int × Int)} {k : Nat} {n t : Int} (h : k < l.length) (ht : (shAt l k).1 ≤ t) : offR n (l.drop k) t = offR (shAt l k).2 (l.drop (k + 1)) t := by
  rw [drop_at l k h, offR, if_pos ht]
theorem offR_drop_no {l : List (Int × Int)} {k : Nat} {n t : Int} (h : k < l.length) (ht : ¬ (shAt l k).1 ≤ t) : offR n (l.drop k) t = offR n (l.drop (k + 1)) t := by
  rw [drop_at l k h, offR, if_neg ht]
end Go.Proofs.Ytdjhoelbnnljjaa
