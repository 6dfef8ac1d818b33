/- contracts of the small functions -/
import Derived.Test.YtdjhoelbnnljjaaRows
import Derived.Test.YtdjhoelbnnljjaaZone
import Derived.WalkKit
import Derived.Lib.Hide
import Derived.Deep.QuietTactic
import Derived.BigQuiet
import Derived.Outline
import Derived.WalkSpells
import Derived.WalkLawsBesides
namespace Go.Proofs.Ytdjhoelbnnljjaa
open Go.RowKit
set_option linter.unusedSimpArgs false
set_option linter.unusedVariables false


theorem ret_bool {a b : Bool} (h : a = true ↔ b = true) : Ending.returned (.bool a) = .returned (.bool b) := by rw [Bool.eq_iff_iff.2 h]
set_option maxHeartbeats 400000 in
theorem offset_any (n : Int) (w : World) :
    Calls Try.prog 32 #[.int .i64 n] w fun e w' => e = .returned (.bool (offB n)) ∧ w = w' := by
  go_enter Try.func32, Try.ntmps32
  go_wp2
  all_goals (go_ret; exact ⟨by simp [offB]; omega, rfl⟩)
set_option maxHeartbeats 400000 in
theorem instant_any (n : Int) (w : World) :
    Calls Try.prog 33 #[.int .i64 n] w fun e w' => e = .returned (.bool (insB n)) ∧ w = w' := by
  go_enter Try.func33, Try.ntmps33
  go_wp2
  all_goals (go_ret; exact ⟨by simp [insB]; omega, rfl⟩)
set_option maxHeartbeats 400000 in
theorem offsetR_any (n : Int) (w : World) :
    Calls Try.prog 35 #[.int .i64 n] w fun e w' => e = .returned (.bool (offB n)) ∧ w = w' := by
  go_enter Try.func35, Try.ntmps35
  go_wp2
  all_goals (go_ret; exact ⟨by simp [offB]; omega, rfl⟩)
set_option maxHeartbeats 400000 in
theorem instantR_any (n : Int) (w : World) :
    Calls Try.prog 36 #[.int .i64 n] w fun e w' => e = .returned (.bool (insB n)) ∧ w = w' := by
  go_enter Try.func36, Try.ntmps36
  go_wp2
  all_goals (go_ret; exact ⟨by simp [insB]; omega, rfl⟩)
set_option maxHeartbeats 400000 in
theorem clock_any (n : Int) (w : World) :
    Calls Try.prog 42 #[.int .i64 n] w fun e w' => e = .returned (.bool (clkB n)) ∧ w = w' := by
  go_enter Try.func42, Try.ntmps42
  go_wp2
  all_goals (go_ret; exact ⟨by simp [clkB]; omega, rfl⟩)
set_option maxHeartbeats 400000 in
theorem lower_any (n : Int) (w : World) :
    Calls Try.prog 48 #[.int .u8 n] w fun e w' => e = .returned (.bool (lowB n)) ∧ w = w' := by
  go_enter Try.func48, Try.ntmps48
  go_wp2
  all_goals (go_ret; exact ⟨by simp [lowB]; omega, rfl⟩)
set_option maxHeartbeats 400000 in
theorem number_any (n : Int) (w : World) :
    Calls Try.prog 49 #[.int .u8 n] w fun e w' => e = .returned (.bool (numB n)) ∧ w = w' := by
  go_enter Try.func49, Try.ntmps49
  go_wp2
  all_goals (go_ret; exact ⟨by simp [numB]; omega, rfl⟩)
set_option maxHeartbeats 400000 in
theorem band_any (c a b : Int) (w : World) :
    Calls Try.prog 47 #[.int .i64 c, .int .i64 a, .int .i64 b] w fun e w' => e = .returned (.bool (bandB c a b)) ∧ w = w' := by
  go_enter Try.func47, Try.ntmps47
  go_wp2
  all_goals (go_ret; refine ⟨?_, rfl⟩; unfold bandB; split <;> first | omega | (simp; done) | (simp; omega))
set_option maxHeartbeats 400000 in
theorem span_any (a b : Int) (w : World) :
    Calls Try.prog 40 #[.agg #[.int .i64 a, .int .i64 b]] w fun e w' => e = .returned (.bool (spnB a b)) ∧ Below w.heap.size w w' := by
  go_enter Try.func40, Try.ntmps40
  go_wp2
  all_goals (go_ret; exact ⟨ret_bool (by simp only [spnB, decide_eq_true_eq, Bool.false_eq_true, true_iff, false_iff]; omega), (Below.refl _ _).alloc (Nat.le_refl _) _⟩)
set_option maxHeartbeats 400000 in
theorem spanR_any (a b : Int) (w : World) :
    Calls Try.prog 41 #[.agg #[.int .i64 a, .int .i64 b]] w fun e w' => e = .returned (.bool (spnB a b)) ∧ Below w.heap.size w w' := by
  go_enter Try.func41, Try.ntmps41
  go_wp2
  all_goals (go_ret; exact ⟨ret_bool (by simp only [spnB, decide_eq_true_eq, Bool.false_eq_true, true_iff, false_iff]; omega), (Below.refl _ _).alloc (Nat.le_refl _) _⟩)

theorem ret_int {k : IntKind} {a b : Int} (h : a = b) : Ending.returned (.int k a) = .returned (.int k b) := by rw [h]
theorem ret_int2 {k l : IntKind} {a b c d : Int} (h : a = b) (h' : c = d) : Ending.returned (.tuple #[.int k a, .int l c]) = .returned (.tuple #[.int k b, .int l d]) := by rw [h, h']
set_option maxHeartbeats 400000 in
theorem split_any (t : Int) (w : World) (h1 : -9000000000000000000 ≤ t) (h2 : t ≤ 9000000000000000000) :
    Calls Try.prog 30 #[.int .i64 t] w fun e w' => e = .returned (.tuple #[.int .i64 (t / 1440), .int .i64 (t % 1440)]) ∧ w = w' := by
  have hb := tdiv_le t (by omega) (by omega)
  by_cases c : t.tmod 1440 < 0
  · have hc := Lib.hid (tmod_neg t c)
    go_enter Try.func30, Try.ntmps30
    go_wp2
    go_ret2
    exact ⟨ret_int2 hc.out.1 hc.out.2, rfl⟩
  · have hc := Lib.hid (tmod_pos t (by omega))
    go_enter Try.func30, Try.ntmps30
    go_wp2
    go_ret2
    exact ⟨ret_int2 hc.out.1 hc.out.2, rfl⟩
set_option maxHeartbeats 400000 in
theorem floor_any (t : Int) (w : World) (h1 : -9000000000000000000 ≤ t) (h2 : t ≤ 9000000000000000000) :
    Calls Try.prog 50 #[.int .i64 t, .int .i64 1440] w fun e w' => e = .returned (.int .i64 (t / 1440)) ∧ w = w' := by
  have hb := tdiv_le t (by omega) (by omega)
  by_cases c : t.tmod 1440 < 0
  · have hc := Lib.hid (tmod_neg t c)
    go_enter Try.func50, Try.ntmps50
    go_wp2
    go_ret
    exact ⟨ret_int hc.out.1, rfl⟩
  · have hc := Lib.hid (tmod_pos t (by omega))
    go_enter Try.func50, Try.ntmps50
    go_wp2
    go_ret
    exact ⟨ret_int hc.out.1, rfl⟩
set_option maxHeartbeats 400000 in
theorem splitR_any (t : Int) (w : World) (h1 : -9000000000000000000 ≤ t) (h2 : t ≤ 9000000000000000000) :
    Calls Try.prog 39 #[.int .i64 t] w fun e w' => e = .returned (.tuple #[.int .i64 (t / 1440), .int .i64 (t % 1440)]) ∧ w = w' := by
  go_enter Try.func39, Try.ntmps39
  go_wp2_with (go_at_call 50; refine (floor_any _ _ (by omega) (by omega)).mono ?_; rintro e w' ⟨rfl, rfl⟩)
  go_ret2
  exact ⟨ret_int2 rfl (by omega), rfl⟩
end Go.Proofs.Ytdjhoelbnnljjaa
