/- LegalDuties: for any timetable, contract and duty, CheckDuty and DutyCost return the reference's results or errors. -/
import Derived.Test.YtdolonpblgfjdaaGreatGQ
import Derived.Test.YtdolonpblgfjdaaGreatG9

namespace Go.Proofs.YtdolonpblgfjdaaGreat.legalDutiesP
open Go.ChangeShapes Go.WideShapes Go.ChangeAt Go.RowKit
set_option linter.unusedVariables false

set_option maxRecDepth 100000 in
theorem lifted (S : Os) (c : S.Started) (H : Type) (enc : TypeId × Value → H) :
    ReturnsInHanded {} Tryz.checked S 4 .any (Rows.legalDutiesSpec.pre6 enc Tryz.prog Tryz.f4 Rows.legalDutiesRow.domain false) (Rows.legalDutiesSpec.post enc Tryz.prog Tryz.f4 false true false false) := by
  refine returnsInHanded_of_change_sized (C := Tryz.checked) own c (by kernel_rfl) Tryz.func4
    (ChangeSpec.witness6 (enc := enc) (C := Tryz.checked) false ⟨#[], #[.agg #[.slice none 0 0, .slice none 0 0, .slice none 0 0], .agg #[.int .i64 0, .int .i64 0, .int .i64 0, .int .i64 0, .int .i64 0, .int .i64 0, .int .i64 0, .slice none 0 0, .slice none 0 0, .slice none 0 0, .slice none 0 0, .slice none 0 0, .slice none 0 0, .int .i64 0], .slice none 0 0], []⟩ 8 (by kernel_rfl) (by kernel_rfl) (by kernel_rfl) (by kernel_rfl)) ?_
  intro W g a T gs o d U V i _
  have b : ∀ (j : Nat) t v, Tryz.f4.params[j]? = some t → a[j]? = some v → Value.okWide Tryz.prog W .any g t v := d
  have f : (DataW.weightsEach Tryz.prog (Tryz.f4.params.toList ++ Rows.legalDutiesSpec.plain.varTypes Tryz.prog) (T ++ gs)).all (· ≤ reachBytes) = true := i
  have r := U
  obtain ⟨p, q, k, hV, rfl, a0, a1⟩ := U
  have X : DataW.TrodAll enc Tryz.prog W 0 (fun _ => true) true Tryz.f4.params.toList a.toList T p := k
  rw [Tryz.params4] at X b f
  obtain ⟨Y, a3, d0, a4, p0, q0, s, rfl, rfl, Z, r0⟩ := trodAll_cons X
  obtain ⟨v1, a5, d1, a6, p1, q1, rfl, rfl, rfl, h1, r1⟩ := trodAll_cons r0
  obtain ⟨v2, a7, d2, a8, p2, q2, rfl, rfl, rfl, h2, r2⟩ := trodAll_cons r1
  obtain ⟨rfl, rfl, rfl⟩ := trodAll_nil r2
  obtain rfl : a = #[Y, v1, v2] := by cases a; simp_all
  obtain ⟨rfl, rfl⟩ := trodVars_none hV
  have k0 := Z
  have u : ∀ x ∈ p0, x.block < W.heap.size := by obtain ⟨m, l⟩ := k0; exact DataW.trod_lt m _ _ _ l
  have w0 : ∀ n ∈ DataW.weights Tryz.prog 26 d0, n ≤ reachBytes := fun n hn => by simpa using List.all_eq_true.1 f n (DataW.weights_mem_each (j := 0) rfl rfl n hn)
  obtain ⟨t0, w, y, z, A, B, D, rfl, E, F, G, K⟩ := zpV (b 0 26 Y rfl rfl) Z w0
  have k1 := h1
  have L : ∀ x ∈ p1, x.block < W.heap.size := by obtain ⟨m, l⟩ := k1; exact DataW.trod_lt m _ _ _ l
  have w1 : ∀ n ∈ DataW.weights Tryz.prog 34 d1, n ≤ reachBytes := fun n hn => by simpa using List.all_eq_true.1 f n (DataW.weights_mem_each (j := 1) rfl rfl n hn)
  obtain ⟨c1, Q1, rfl, M, N⟩ := znf (b 1 34 v1 rfl rfl) h1 w1
  have k2 := h2
  have P : ∀ x ∈ p2, x.block < W.heap.size := by obtain ⟨m, l⟩ := k2; exact DataW.trod_lt m _ _ _ l
  have w2 : ∀ n ∈ DataW.weights Tryz.prog 36 d2, n ≤ reachBytes := fun n hn => by simpa using List.all_eq_true.1 f n (DataW.weights_mem_each (j := 2) rfl rfl n hn)
  obtain ⟨l2, a2, c2, rfl, Q, R⟩ := zk4 (b 2 36 v2 rfl rfl) h2 w2
  clear k d
  refine (zgF t0 c1 l2 w y z A B D Q1 a2 c2 W E F G K M N Q R).mono fun e W' ⟨he, bel⟩ => ?_
  subst he
  exact ⟨_, rfl, _, _, _, [], _, [], r, trodAll_mk1 (shut_bool Tryz.underlying4 _), (trodAll_cons_mk (Below.trod zgb (by kernel_rfl) (of_decide_eq_true (by kernel_rfl)) k0 bel u) (trodAll_cons_mk (Below.trod zgb (by kernel_rfl) (of_decide_eq_true (by kernel_rfl)) k1 bel L) (trodAll_cons_mk (Below.trod zgb (by kernel_rfl) (of_decide_eq_true (by kernel_rfl)) k2 bel P) trodAll_mk0))), rfl, bel.frame _, fun h => by cases h⟩

theorem over : Rows.legalDutiesRow.holds Tryz.pinned (OpenSpec.ofChange Rows.legalDutiesSpec) :=
  OpenClaim.holds_of_wide 4 Tryz.f4 rfl rfl rfl rfl rfl rfl rfl ⟨rfl, rfl, rfl, rfl, rfl⟩ rfl rfl rfl rfl rfl (by kernel_rfl) Tryz.func4 (by kernel_rfl)
    (of_decide_eq_true (by kernel_rfl)) (by unfold Func.isWrapper; first | (rw [if_pos (by decide +kernel)]; kernel_rfl) | (rw [if_neg (by decide +kernel)]; exact ⟨rfl, rfl⟩))
    (fun os started H enc _ => lifted os started H enc)
end Go.Proofs.YtdolonpblgfjdaaGreat.legalDutiesP
namespace Go.Proofs.YtdolonpblgfjdaaGreat
theorem legalDuties_holds : Rows.LegalDutiesSaid := legalDutiesP.over
#print axioms legalDuties_holds
end Go.Proofs.YtdolonpblgfjdaaGreat
