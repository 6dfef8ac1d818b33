/- awake, and the walk of ZoneValid -/
import Derived.Test.YtdjhoelbnnljjaaLoc
import Derived.Lib.QuietBelow
namespace Go.Proofs.Ytdjhoelbnnljjaa
open Go.RowKit Go.Sort
set_option linter.unusedSimpArgs false
set_option linter.unusedVariables false

set_option maxHeartbeats 400000 in
theorem awake_any (w : World) : Calls Try.prog 11 #[] w fun e w' => e = .returned (.bool true) ∧ Below w.heap.size w w' := by
  have hz : Hid (locTimeZ [97] 60 [] 60 = (0, 120, 0)) := Lib.hid (by decide)
  go_enter Try.func11, Try.ntmps11
  go_wp2_with fail
  refine (LocalTime_any ⟨#[97]⟩ 60 60 [] none 0 _ (by decide) (by decide) (.inl rfl)).mono ?_
  rintro e w1 ⟨rfl, hb1⟩
  have hz := hz.out
  go_wp2_with fail
  go_ret
  exact ⟨rfl, hb1⟩

set_option maxHeartbeats 400000 in
theorem zoneValid_walk (s : ByteArray) (o : Int) (l : List (Int × Int)) (a : Option Addr) (cap : Nat) (w : World) (hs : s.size ≤ maxLen) (hl : l.length ≤ maxLen) (ha : ShAt w a l) :
    Calls Try.prog 3 #[.agg #[.string s, .int .i64 o, .slice a l.length cap]] w fun e w' => e = .returned (.bool true) ∧ Below w.heap.size w w' := by
  unfold maxLen at hl
  by_cases h : 40 < l.length
  · go_enter Try.func3, Try.ntmps3
    go_wp2_with fail
    refine (awake_any _).mono ?_
    rintro e w1 ⟨rfl, hb1⟩
    go_wp2_with fail
    go_ret
    exact ⟨rfl, Below.then ((Below.refl _ _).alloc (Nat.le_refl _) _) hb1⟩
  · go_enter Try.func3, Try.ntmps3
    go_wp2_with fail
    generalize hW : w.alloc (Obj.cells #[Value.string s, Value.int IntKind.i64 o, Value.slice a l.length cap] 24) = W
    have hbW : Below w.heap.size w W := by rw [← hW]; exact (Below.refl _ _).alloc (Nat.le_refl _) _
    have q0 : W.cell? ⟨w.heap.size, 0, none⟩ = some (Value.string s) := by clear hbW; subst hW; go_simp
    have q1 : W.cell? ⟨w.heap.size, 1, none⟩ = some (Value.int .i64 o) := by clear hbW; subst hW; go_simp
    have q2 : W.cell? ⟨w.heap.size, 2, none⟩ = some (Value.slice a l.length cap) := by clear hbW; subst hW; go_simp
    clear hW
    have r0 := fun d os => cell_regrown q0 d os
    have r1 := fun d os => cell_regrown q1 d os
    have r2 := fun d os => cell_regrown q2 d os
    have c1 := Lib.hid (fun d os => Calls.regrown_of (validate_any s o l a cap (grow (redrawn W d) os) hs (by omega) ((ha.below hbW).below (below_regrown W d os))))
    have c2 := Lib.hid (fun d os => Calls.regrown_of (validateR_any s o l a cap (grow (redrawn W d) os) hs (by omega) ((ha.below hbW).below (below_regrown W d os))))
    have c3 := Lib.hid (fun d os => Calls.regrown_of (awake_any (grow (redrawn W d) os)))
    refine wp_region_quiet_below (by kernel_rfl) (by kernel_rfl) ?_
    repeat (quiet_step (first | exact c1.out _ _ | exact c2.out _ _ | exact c3.out _ _))
    refine wpQuiet_nil ?_
    intro _ hw'
    obtain ⟨⟨dq, osq⟩, hw''⟩ := hw'
    subst hw''
    go_wp2
    go_ret
    exact ⟨rfl, Below.then hbW (below_regrown W dq osq)⟩
end Go.Proofs.Ytdjhoelbnnljjaa
