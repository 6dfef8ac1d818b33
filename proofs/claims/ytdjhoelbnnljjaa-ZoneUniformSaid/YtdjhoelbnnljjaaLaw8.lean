/- the walk of ZoneUniform -/
import Derived.Test.YtdjhoelbnnljjaaUni0
import Derived.Test.YtdjhoelbnnljjaaSame
namespace Go.Proofs.Ytdjhoelbnnljjaa
open Go.RowKit Go.Sort
set_option linter.unusedSimpArgs false
set_option linter.unusedVariables false

theorem intRow_one (w : World) (t : Int) : IntRow (w.alloc (Obj.cells #[.int .i64 t] 3)) (.slice (some ⟨w.heap.size, 0, none⟩) 1 1) [t] := by
  refine .inr ⟨w.heap.size, 0, 1, rfl, by simp, fun k hk => ?_⟩
  obtain rfl : k = 0 := by simpa using hk
  rw [World.cell?_alloc_at _ _ _ _ rfl]
  simp [intAt]

set_option maxRecDepth 100000 in
set_option maxHeartbeats 1600000 in
theorem zoneUniform_walk (o t fr to : Int) (w : World) (ho : (Lit.int .i64 o).wf = true) (hx : (Lit.int .i64 t).wf = true) (hfr : (Lit.int .i64 fr).wf = true) (hto : (Lit.int .i64 to).wf = true) :
    Calls Try.prog 10 #[.int .i64 o, .int .i64 t, .int .i64 fr, .int .i64 to] w fun e w' => e = .returned (.bool true) ∧ Below w.heap.size w w' := by
  clear ho hx hfr hto
  by_cases hC : ((-840 ≤ o ∧ o ≤ 840) ∧ (1440 ≤ t ∧ t < 52591000) ∧ (0 ≤ fr ∧ fr ≤ 1439) ∧ (0 ≤ to ∧ to ≤ 1439)) ∧ fr ≠ to
  · obtain ⟨⟨h1, h2, h3, h4⟩, h9⟩ := hC
    obtain ⟨n, k1, k2, k3, k4, k5⟩ := uni_facts h1 h2 h3 h4 h9
    obtain ⟨h1, h2⟩ := h1
    obtain ⟨g1, g2⟩ := ‹1440 ≤ t ∧ t < 52591000›
    obtain ⟨h3, h4⟩ := h3
    obtain ⟨h5, h6⟩ := ‹0 ≤ to ∧ to ≤ 1439›
    have K1 := Lib.hid k1
    have K2 := Lib.hid k2
    have K3 := Lib.hid k3
    have h9' : (fr == to) = false := by simpa using h9
    clear k1 k2 k3 h9
    go_enter Try.func10, Try.ntmps10
    go_wp2_with fail
    have zb := ZBox.new w ⟨#[120]⟩ o none 0 0
    have hbW := below_new w (Obj.cells #[Value.string ⟨#[120]⟩, Value.int IntKind.i64 o, Value.slice none 0 0] 24)
    generalize (w.alloc (Obj.cells #[Value.string ⟨#[120]⟩, Value.int IntKind.i64 o, Value.slice none 0 0] 24)) = W at *
    refine (LocalTime_any ⟨#[120]⟩ o t [] none 0 _ (by decide) (by decide) (.inl rfl)).mono ?_
    rintro e w1 ⟨rfl, hb1⟩
    rw [show locTimeZ (ByteArray.mk #[120]).data.toList o [] t = _ from K1.out]
    have hB1 := Below.then hbW hb1
    replace zb := zb.below hb1
    clear hb1 hbW
    clear W
    obtain ⟨z0, z1, z2, z3⟩ := Lib.hid zb |>.out
    go_wp2_with (go_at_call 30; refine (split_any _ _ (by omega) (by omega)).mono ?_; rintro e w' ⟨rfl, rfl⟩)
    refine (Instants_any ⟨#[120]⟩ o ((t + o) / 1440) ((t + o) % 1440) [] none 0 _ (by decide) (by decide) (.inl rfl)).mono ?_
    rintro e w2 ⟨v, rfl, hown, hb2⟩
    rw [show instZ (ByteArray.mk #[120]).data.toList o [] ((t + o) / 1440) ((t + o) % 1440) = _ from K2.out] at hown ⊢
    have hrow := Lib.hid (intRow_of_own hown)
    have hB2 := Below.then hB1 hb2
    replace zb := zb.below hb2
    clear hb2 hown z0 z1 z2 z3 hB1
    obtain ⟨z0, z1, z2, z3⟩ := Lib.hid zb |>.out
    go_wp2_with fail
    refine (Nights_any ⟨#[120]⟩ o t (t + 2880) fr to [] none 0 _ (by decide) (by decide) (.inl rfl)).mono ?_
    rintro e w3 ⟨rfl, hb3⟩
    rw [show nightsZ (ByteArray.mk #[120]).data.toList o [] t (t + 2880) fr to = _ from K3.out]
    have hrow3 := Lib.hid (hrow.out.below hb3)
    have hB3 := Below.then hB2 hb3
    clear hb3 z0 z1 z2 z3 hB2 zb
    go_wp2_with fail
    refine (same_eq v _ [t] _ (hrow3.out.below (below_new _ _)) (intRow_one w3 t) (by simp)).mono ?_
    rintro e w4 ⟨rfl, hb4⟩
    go_wp2_with (go_at_call 11; refine (awake_any _).mono ?_; rintro e w9 ⟨rfl, hb9⟩)
    go_ret
    exact ⟨rfl, Below.then (Below.then (Below.then hB3 (below_new _ _)) hb4) hb9⟩
  · go_enter Try.func10, Try.ntmps10
    go_wp2_with (go_at_call 11; refine (awake_any _).mono ?_; rintro e w9 ⟨rfl, hb9⟩)
    all_goals first
      | (go_ret; exact ⟨rfl, hb9⟩)
      | (exfalso; simp only [beq_eq_false_iff_ne, ne_eq] at *; omega)
end Go.Proofs.Ytdjhoelbnnljjaa
