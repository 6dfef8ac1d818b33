/- plain facts for ZoneUniform -/
import Derived.Test.YtdjhoelbnnljjaaBand3
namespace Go.Proofs.Ytdjhoelbnnljjaa
theorem uni_long {S : Int → Bool} {t ln r : Int} (h1 : 0 < ln) (h2 : ln < 1440) (hr : 0 ≤ r ∧ r < 1440) (hS : ∀ u, t ≤ u → u < t + 2880 → S u = decide ((u - t + r) % 1440 < ln)) :
    1 ≤ longTo (runsUp S t (t + 2880)) ln (runsUp S t (t + 2880)).length ∧ longTo (runsUp S t (t + 2880)) ln (runsUp S t (t + 2880)).length ≤ 2 := by
  have s0 : runsUp S t t = [] := by simp [runsUp, runsTo]
  have hyes : ∀ a b : Int, t ≤ a → b ≤ t + 2880 → (∀ u, a ≤ u → u < b → (u - t + r) % 1440 < ln) → a < b → runsUp S t b = addRun (runsUp S t a) a b := fun a b u v z q =>
    runsUp_fill u q (fun c d e => by rw [hS c (by omega) (by omega)]; simpa using z c d e)
  have hno : ∀ a b : Int, t ≤ a → a ≤ b → b ≤ t + 2880 → (∀ u, a ≤ u → u < b → ¬ (u - t + r) % 1440 < ln) → runsUp S t b = runsUp S t a := fun a b u q v z =>
    runsUp_skip u q (fun c d e => by rw [hS c (by omega) (by omega)]; simpa using z c d e)
  by_cases c1 : r = 0
  · have e1 : runsUp S t (t + ln) = [(t, t + ln)] := by rw [hyes t (t + ln) (by omega) (by omega) (by omega) (by omega), s0]; simp [addRun]
    have e2 : runsUp S t (t + 1440) = [(t, t + ln)] := by rw [hno (t + ln) (t + 1440) (by omega) (by omega) (by omega) (by omega), e1]
    have e3 : runsUp S t (t + 1440 + ln) = [(t, t + ln), (t + 1440, t + 1440 + ln)] := by
      rw [hyes (t + 1440) (t + 1440 + ln) (by omega) (by omega) (by omega) (by omega), e2, addRun_new (by simp [runAt]; omega)]; rfl
    have e4 : runsUp S t (t + 2880) = [(t, t + ln), (t + 1440, t + 1440 + ln)] := by rw [hno (t + 1440 + ln) (t + 2880) (by omega) (by omega) (by omega) (by omega), e3]
    rw [e4]
    simp only [List.length_cons, List.length_nil, longTo, runAt, List.getD_cons_zero, List.getD_cons_succ]
    rw [if_pos (by omega), if_pos (by omega)]; omega
  by_cases c2 : r < ln
  · have e1 : runsUp S t (t + (ln - r)) = [(t, t + (ln - r))] := by rw [hyes t (t + (ln - r)) (by omega) (by omega) (by omega) (by omega), s0]; simp [addRun]
    have e2 : runsUp S t (t + 1440 - r) = [(t, t + (ln - r))] := by rw [hno (t + (ln - r)) (t + 1440 - r) (by omega) (by omega) (by omega) (by omega), e1]
    have e3 : runsUp S t (t + 1440 - r + ln) = [(t, t + (ln - r)), (t + 1440 - r, t + 1440 - r + ln)] := by
      rw [hyes (t + 1440 - r) (t + 1440 - r + ln) (by omega) (by omega) (by omega) (by omega), e2, addRun_new (by simp [runAt]; omega)]; rfl
    have e4 : runsUp S t (t + 2880 - r) = [(t, t + (ln - r)), (t + 1440 - r, t + 1440 - r + ln)] := by rw [hno (t + 1440 - r + ln) (t + 2880 - r) (by omega) (by omega) (by omega) (by omega), e3]
    have e5 : runsUp S t (t + 2880) = [(t, t + (ln - r)), (t + 1440 - r, t + 1440 - r + ln), (t + 2880 - r, t + 2880)] := by
      rw [hyes (t + 2880 - r) (t + 2880) (by omega) (by omega) (by omega) (by omega), e4, addRun_new (by simp [runAt]; omega)]; rfl
    rw [e5]
    simp only [List.length_cons, List.length_nil, longTo, runAt, List.getD_cons_zero, List.getD_cons_succ]
    rw [if_neg (by omega), if_pos (by omega), if_neg (by omega)]; omega
  · have e1 : runsUp S t (t + 1440 - r) = [] := by rw [hno t (t + 1440 - r) (by omega) (by omega) (by omega) (by omega), s0]
    have e2 : runsUp S t (t + 1440 - r + ln) = [(t + 1440 - r, t + 1440 - r + ln)] := by rw [hyes (t + 1440 - r) (t + 1440 - r + ln) (by omega) (by omega) (by omega) (by omega), e1]; simp [addRun]
    have e3 : runsUp S t (t + 2880 - r) = [(t + 1440 - r, t + 1440 - r + ln)] := by rw [hno (t + 1440 - r + ln) (t + 2880 - r) (by omega) (by omega) (by omega) (by omega), e2]
    have e4 : runsUp S t (t + 2880 - r + ln) = [(t + 1440 - r, t + 1440 - r + ln), (t + 2880 - r, t + 2880 - r + ln)] := by
      rw [hyes (t + 2880 - r) (t + 2880 - r + ln) (by omega) (by omega) (by omega) (by omega), e3, addRun_new (by simp [runAt]; omega)]; rfl
    have e5 : runsUp S t (t + 2880) = [(t + 1440 - r, t + 1440 - r + ln), (t + 2880 - r, t + 2880 - r + ln)] := by rw [hno (t + 2880 - r + ln) (t + 2880) (by omega) (by omega) (by omega) (by omega), e4]
    rw [e5]
    simp only [List.length_cons, List.length_nil, longTo, runAt, List.getD_cons_zero, List.getD_cons_succ]
    rw [if_pos (by omega), if_pos (by omega)]; omega
theorem uni_val {o : Int} (h : -840 ≤ o ∧ o ≤ 840) : valZone [120] o [] = 0 := by
  have h1 : nameB [120] = true := by decide
  have h2 : offB o = true := by simpa [offB] using h
  simp [valZone, h1, h2, valShifts]
theorem uni_facts {o t fr to : Int} (h : -840 ≤ o ∧ o ≤ 840) (ht : 1440 ≤ t ∧ t < 52591000) (hf : 0 ≤ fr ∧ fr ≤ 1439) (hto : 0 ≤ to ∧ to ≤ 1439) (hne : fr ≠ to) :
    ∃ n : Int, locTimeZ [120] o [] t = ((t + o) / 1440, (t + o) % 1440, 0) ∧ instZ [120] o [] ((t + o) / 1440) ((t + o) % 1440) = ([t], 0) ∧ nightsZ [120] o [] t (t + 2880) fr to = (n, 0) ∧ 1 ≤ n ∧ n ≤ 2 := by
  have hv := uni_val h
  have hoff : ∀ u, offP o [] u = o := fun u => rfl
  have e1 := locTimeZ_ok (t := t) hv (by omega)
  rw [hoff] at e1
  have e2 : instZ [120] o [] ((t + o) / 1440) ((t + o) % 1440) = ([t], 0) := by
    have c1 : clkB ((t + o) % 1440) = true := by simp [clkB]; omega
    have c2 : dayB ((t + o) / 1440) = false := by simp [dayB]; omega
    have c3 : (t + o) / 1440 * 1440 + (t + o) % 1440 = t + o := by omega
    have c4 : segsP 0 o [] 0 52596000 = [(0, 52596000, o)] := by simp [segsP, seg1, mx, mn]
    have c5 : instsP [(0, 52596000, o)] (t + o) = [t] := by
      simp only [instsP, inst1]
      rw [if_pos (by omega)]
      simp
    simp [instZ, hv, c1, c2, c3, c4, c5]
  have hb : bandErr [120] o [] t (t + 2880) fr to = 0 := by
    have d1 : spnB t (t + 2880) = true := by simp [spnB]; omega
    have d2 : clkB fr = true := by simp [clkB]; omega
    have d3 : clkB to = true := by simp [clkB]; omega
    simp [bandErr, hv, d1, d2, d3]
  have hl0 : bandLen fr to ≠ 0 := by unfold bandLen; omega
  have hl1 : 0 < bandLen fr to := by unfold bandLen at *; omega
  have hl2 : bandLen fr to < 1440 := by unfold bandLen; omega
  have e3 := nightsZ_ok hb
  rw [if_neg hl0, nightEnd_runs] at e3
  have e4 := uni_long (S := inB o [] fr to) (t := t) (r := (t + o - fr) % 1440) hl1 hl2 (by omega) (fun u _ _ => by
    unfold inB
    rw [hoff, bandB_mod (by omega) (by omega) (by omega)]
    congr 1; apply propext
    rw [show ((u + o) % 1440 - fr) % 1440 = (u - t + (t + o - fr) % 1440) % 1440 by omega])
  exact ⟨_, e1, e2, e3, e4.1, e4.2⟩
end Go.Proofs.Ytdjhoelbnnljjaa
