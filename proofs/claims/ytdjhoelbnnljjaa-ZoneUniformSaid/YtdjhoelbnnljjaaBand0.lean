/- plain facts: the runs of a band -/
import Derived.Test.YtdjhoelbnnljjaaInst1
namespace Go.Proofs.Ytdjhoelbnnljjaa
def runAt (R : List (Int × Int)) (k : Nat) : Int × Int := R.getD k (0, 0)
/-- a further run; it is joined with the last one where that ends at a -/
def addRun (R : List (Int × Int)) (a b : Int) : List (Int × Int) :=
  if 0 < R.length ∧ (runAt R (R.length - 1)).2 = a then R.set (R.length - 1) ((runAt R (R.length - 1)).1, b) else R ++ [(a, b)]
theorem addRun_join {R : List (Int × Int)} {a b : Int} (h : 0 < R.length) (h' : (runAt R (R.length - 1)).2 = a) : addRun R a b = R.set (R.length - 1) ((runAt R (R.length - 1)).1, b) := if_pos ⟨h, h'⟩
theorem addRun_new {R : List (Int × Int)} {a b : Int} (h : ¬ (0 < R.length ∧ (runAt R (R.length - 1)).2 = a)) : addRun R a b = R ++ [(a, b)] := if_neg h
theorem addRun_len (R : List (Int × Int)) (a b : Int) : (addRun R a b).length ≤ R.length + 1 := by unfold addRun; split <;> simp
/-- the day d of a segment g -/
def dayLo (g : Int × Int × Int) (fr d : Int) : Int := mx (d * 1440 + fr - g.2.2) g.1
def dayHi (g : Int × Int × Int) (fr ln d : Int) : Int := mn (d * 1440 + fr - g.2.2 + ln) g.2.1
def day1 (g : Int × Int × Int) (fr ln d : Int) (R : List (Int × Int)) : List (Int × Int) :=
  if dayLo g fr d < dayHi g fr ln d then addRun R (dayLo g fr d) (dayHi g fr ln d) else R
def dayRuns (g : Int × Int × Int) (fr ln : Int) : Nat → Int → List (Int × Int) → List (Int × Int)
  | 0, _, R => R
  | n + 1, d, R => dayRuns g fr ln n (d + 1) (day1 g fr ln d R)
theorem dayRuns_step {g : Int × Int × Int} {fr ln d : Int} {n : Nat} {R : List (Int × Int)} (h : 0 < n) : dayRuns g fr ln n d R = dayRuns g fr ln (n - 1) (d + 1) (day1 g fr ln d R) := by
  obtain ⟨m, rfl⟩ : ∃ m, n = m + 1 := ⟨n - 1, by omega⟩
  rfl
/-- the first day, less one; how many days -/
def segDay (g : Int × Int × Int) : Int := (g.1 + g.2.2) / 1440 - 1
def segN (g : Int × Int × Int) : Nat := ((g.2.1 - 1 + g.2.2) / 1440 - segDay g + 1).toNat
def segRuns (g : Int × Int × Int) (fr ln : Int) (R : List (Int × Int)) : List (Int × Int) := dayRuns g fr ln (segN g) (segDay g) R
def allRuns (fr ln : Int) : List (Int × Int × Int) → List (Int × Int) → List (Int × Int)
  | [], R => R
  | g :: L, R => allRuns fr ln L (segRuns g fr ln R)
theorem allRuns_step {fr ln : Int} {L : List (Int × Int × Int)} {k : Nat} {R : List (Int × Int)} (h : k < L.length) : allRuns fr ln (L.drop k) R = allRuns fr ln (L.drop (k + 1)) (segRuns (segAt L k) fr ln R) := by
  rw [seg_drop L k h, allRuns]
theorem allRuns_end {fr ln : Int} {L : List (Int × Int × Int)} {k : Nat} {R : List (Int × Int)} (h : ¬ k < L.length) : allRuns fr ln (L.drop k) R = R := by
  rw [List.drop_of_length_le (by omega), allRuns]
/-- a segment's bounds -/
def SegOk (g : Int × Int × Int) : Prop := 0 ≤ g.1 ∧ g.1 < g.2.1 ∧ g.2.1 ≤ 52596000 ∧ -840 ≤ g.2.2 ∧ g.2.2 ≤ 840
theorem seg1_ok {fr to o x y : Int} (h0 : 0 ≤ fr) (h1 : to ≤ 52596000) (ho : offB o = true) : ∀ g ∈ seg1 fr to o x y, SegOk g := by
  intro g hg
  obtain ⟨h, rfl⟩ := mem_seg1.1 hg
  have a := mx_le.1 (Int.le_refl (mx fr x))
  have b : mn to y ≤ to := by unfold mn; split <;> omega
  have := offB_iff ho
  exact ⟨by simp only; omega, h, by simp only; omega, this.1, this.2⟩
theorem segsP_ok (l : List (Int × Int)) : ∀ (fr o x y : Int), Okay fr l → 0 ≤ fr → offB o = true → ∀ g ∈ segsP fr o l x y, SegOk g := by
  induction l with
  | nil => intro fr o x y _ h0 ho g hg; exact seg1_ok h0 (Int.le_refl _) ho g (by simpa [segsP] using hg)
  | cons s l ih =>
    intro fr o x y h h0 ho g hg
    obtain ⟨h1, h2, h3, h4, h5⟩ := h.cons
    rcases List.mem_append.1 (by simpa [segsP] using hg) with hg | hg
    · exact seg1_ok h0 (by omega) ho g hg
    · exact ih s.1 s.2 x y h5 h1 h4 g hg
theorem segDay_bd {g : Int × Int × Int} (h : SegOk g) : -2 ≤ segDay g ∧ segDay g ≤ 36526 ∧ (segN g : Int) = (g.2.1 - 1 + g.2.2) / 1440 - segDay g + 1 ∧ segN g ≤ 40000 ∧ (g.2.1 - 1 + g.2.2) / 1440 ≤ 36527 := by
  obtain ⟨h1, h2, h3, h4, h5⟩ := h
  have a : -2 ≤ segDay g := by unfold segDay; omega
  have b : segDay g ≤ 36526 := by unfold segDay; omega
  have c : segDay g ≤ (g.2.1 - 1 + g.2.2) / 1440 - 1 := by unfold segDay; omega
  have d : (segN g : Int) = (g.2.1 - 1 + g.2.2) / 1440 - segDay g + 1 := by
    unfold segN; rw [Int.toNat_of_nonneg (by omega)]
  exact ⟨a, b, d, by omega, by omega⟩
theorem day1_yes {g : Int × Int × Int} {fr ln d : Int} {R : List (Int × Int)} (h : dayLo g fr d < dayHi g fr ln d) : day1 g fr ln d R = addRun R (dayLo g fr d) (dayHi g fr ln d) := if_pos h
theorem day1_no {g : Int × Int × Int} {fr ln d : Int} {R : List (Int × Int)} (h : ¬ dayLo g fr d < dayHi g fr ln d) : day1 g fr ln d R = R := if_neg h
def bandLen (fr to : Int) : Int := (to - fr + 1440) % 1440
def bandZ (o : Int) (l : List (Int × Int)) (x y fr to : Int) : List (Int × Int) := if bandLen fr to = 0 then [] else allRuns fr (bandLen fr to) (segsP 0 o l x y) []
end Go.Proofs.Ytdjhoelbnnljjaa
