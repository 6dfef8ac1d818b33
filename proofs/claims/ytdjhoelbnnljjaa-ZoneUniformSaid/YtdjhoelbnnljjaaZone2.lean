/- plain facts: offsets and local times -/
import Derived.Test.YtdjhoelbnnljjaaZone
namespace Go.Proofs.Ytdjhoelbnnljjaa

/-- OffsetAt: the offset and the error -/
def offAtZ (nm : List UInt8) (o : Int) (l : List (Int × Int)) (t : Int) : Int × Int :=
  if valZone nm o l ≠ 0 then (0, valZone nm o l) else if insB t = false then (0, 5) else (offP o l t, 0)
def locMinZ (nm : List UInt8) (o : Int) (l : List (Int × Int)) (t : Int) : Int × Int :=
  if (offAtZ nm o l t).2 ≠ 0 then (0, (offAtZ nm o l t).2) else (t + (offAtZ nm o l t).1, 0)
def locTimeZ (nm : List UInt8) (o : Int) (l : List (Int × Int)) (t : Int) : Int × Int × Int :=
  if (locMinZ nm o l t).2 ≠ 0 then (0, 0, (locMinZ nm o l t).2) else ((locMinZ nm o l t).1 / 1440, (locMinZ nm o l t).1 % 1440, 0)

theorem locMinZ_eq (nm : List UInt8) (o : Int) (l : List (Int × Int)) (t : Int) : locMinZ nm o l t = if (offAtZ nm o l t).2 ≠ 0 then (0, (offAtZ nm o l t).2) else (t + (offAtZ nm o l t).1, 0) := rfl
theorem locTimeZ_eq (nm : List UInt8) (o : Int) (l : List (Int × Int)) (t : Int) : locTimeZ nm o l t = if (locMinZ nm o l t).2 ≠ 0 then (0, 0, (locMinZ nm o l t).2) else ((locMinZ nm o l t).1 / 1440, (locMinZ nm o l t).1 % 1440, 0) := rfl
theorem valZone_zero {nm : List UInt8} {o : Int} {l : List (Int × Int)} (h : valZone nm o l = 0) : nameB nm = true ∧ offB o = true ∧ l.length ≤ 16 ∧ valShifts none l = 0 := by
  unfold valZone at h
  split at h
  · omega
  split at h
  · omega
  split at h
  · omega
  · rename_i h1 h2 h3
    exact ⟨by simpa using h1, by simpa using h2, by omega, h⟩
theorem offB_iff {n : Int} (h : offB n = true) : -840 ≤ n ∧ n ≤ 840 := by simpa [offB] using h
theorem insB_iff {n : Int} (h : insB n = true) : 0 ≤ n ∧ n < 52596000 := by simpa [insB] using h
theorem insB_of {n : Int} (h : 0 ≤ n ∧ n < 52596000) : insB n = true := by simpa [insB] using h
theorem offP_bd (l : List (Int × Int)) : ∀ (p : Option Int) (o t : Int), valShifts p l = 0 → offB o = true → offB (offP o l t) = true := by
  induction l with
  | nil => intro p o t _ h; exact h
  | cons s l ih =>
    intro p o t h ho
    rw [valShifts] at h
    split at h
    · omega
    split at h
    · omega
    rename_i h1 h2
    rw [offP]
    split
    · exact ho
    · exact ih _ _ _ h (by simp at h1; exact h1.2)
theorem offAtZ_bd {nm : List UInt8} {o : Int} {l : List (Int × Int)} {t : Int} (h : (offAtZ nm o l t).2 = 0) : 0 ≤ t ∧ t < 52596000 ∧ -840 ≤ (offAtZ nm o l t).1 ∧ (offAtZ nm o l t).1 ≤ 840 := by
  unfold offAtZ at *
  split
  · rename_i h1; rw [if_pos h1] at h; exact absurd h h1
  · rename_i h1
    rw [if_neg h1] at h
    split
    · rename_i h2; rw [if_pos h2] at h; simp at h
    · rename_i h2
      have h1' : valZone nm o l = 0 := by simpa using h1
      obtain ⟨_, h4, _, h6⟩ := valZone_zero h1'
      have := insB_iff (by simpa using h2 : insB t = true)
      have := offB_iff (offP_bd l none o t h6 h4)
      exact ⟨by omega, by omega, by simpa using this⟩
theorem locMinZ_bd {nm : List UInt8} {o : Int} {l : List (Int × Int)} {t : Int} : -840 ≤ (locMinZ nm o l t).1 ∧ (locMinZ nm o l t).1 ≤ 52597000 := by
  unfold locMinZ
  split
  · simp
  · rename_i h
    have := offAtZ_bd (by simpa using h : (offAtZ nm o l t).2 = 0)
    simp; omega
end Go.Proofs.Ytdjhoelbnnljjaa
