/- LegalPairings: CheckPairing and Cost return the specified results or errors for any arguments -/
import Derived.Test.YtbhhejkolnigfaaGreatH8
import Derived.Test.YtbhhejkolnigfaaGreatG9
import Derived.Test.YtbhhejkolnigfaaGreatG1
import Derived.Test.YtbhhejkolnigfaaGreatG4
import Derived.Test.YtbhhejkolnigfaaGreatG5
import Derived.Test.YtbhhejkolnigfaaGreatG7
import Derived.Test.YtbhhejkolnigfaaGreatGD
import Derived.Test.YtbhhejkolnigfaaGreatG3
import Derived.Test.YtbhhejkolnigfaaGreatG6

namespace Go.Proofs.YtbhhejkolnigfaaGreat.legalPairingsP
open Go.ChangeShapes Go.WideShapes Go.ChangeAt Go.RowKit
set_option linter.unusedVariables false

set_option maxRecDepth 100000 in
theorem lifted (T : Os) (c : T.Started) (H : Type) (enc : TypeId × Value → H) :
    ReturnsInHanded {} Tryz.checked T 5 .any (Rows.legalPairingsSpec.pre6 enc Tryz.prog Tryz.f5 Rows.legalPairingsRow.domain false) (Rows.legalPairingsSpec.post enc Tryz.prog Tryz.f5 false true false false) := by
  refine returnsInHanded_of_change_sized (C := Tryz.checked) own c (by kernel_rfl) Tryz.func5
    (ChangeSpec.witness6 (enc := enc) (C := Tryz.checked) false ⟨#[], #[.agg #[.slice none 0 0, .slice none 0 0, .slice none 0 0], .agg #[.int .i64 0, .int .i64 0, .int .i64 0, .int .i64 0, .int .i64 0, .int .i64 0, .int .i64 0, .slice none 0 0, .slice none 0 0, .slice none 0 0, .slice none 0 0, .slice none 0 0, .slice none 0 0, .int .i64 0], .agg #[.string ByteArray.empty, .slice none 0 0]], []⟩ 8 (by kernel_rfl) (by kernel_rfl) (by kernel_rfl) (by kernel_rfl)) ?_
  intro W g a U gs o d V X i _
  have b : ∀ (j : Nat) t v, Tryz.f5.params[j]? = some t → a[j]? = some v → Value.okWide Tryz.prog W .any g t v := d
  have f : (DataW.weightsEach Tryz.prog (Tryz.f5.params.toList ++ Rows.legalPairingsSpec.plain.varTypes Tryz.prog) (U ++ gs)).all (· ≤ reachBytes) = true := i
  have r := V
  obtain ⟨p, q, k, hV, rfl, a0, a1⟩ := V
  have Y : DataW.TrodAll enc Tryz.prog W 0 (fun _ => true) true Tryz.f5.params.toList a.toList U p := k
  rw [Tryz.params5] at Y b f
  obtain ⟨Z, a3, d0, a4, p0, q0, s, rfl, rfl, h0, r0⟩ := trodAll_cons Y
  obtain ⟨v1, a5, d1, a6, p1, q1, rfl, rfl, rfl, h1, r1⟩ := trodAll_cons r0
  obtain ⟨v2, a7, d2, a8, p2, q2, rfl, rfl, rfl, h2, r2⟩ := trodAll_cons r1
  obtain ⟨rfl, rfl, rfl⟩ := trodAll_nil r2
  obtain rfl : a = #[Z, v1, v2] := by cases a; simp_all
  obtain ⟨rfl, rfl⟩ := trodVars_none hV
  have k0 := h0
  have u : ∀ x ∈ p0, x.block < W.heap.size := by obtain ⟨m, l⟩ := k0; exact DataW.trod_lt m _ _ _ l
  have w0 : ∀ n ∈ DataW.weights Tryz.prog 26 d0, n ≤ reachBytes := fun n hn => by simpa using List.all_eq_true.1 f n (DataW.weights_mem_each (j := 0) rfl rfl n hn)
  obtain ⟨t0, w, y, z, A, B, D, rfl, E, F, G, K⟩ := zpV (b 0 26 Z rfl rfl) h0 w0
  have k1 := h1
  have L : ∀ x ∈ p1, x.block < W.heap.size := by obtain ⟨m, l⟩ := k1; exact DataW.trod_lt m _ _ _ l
  have w1 : ∀ n ∈ DataW.weights Tryz.prog 34 d1, n ≤ reachBytes := fun n hn => by simpa using List.all_eq_true.1 f n (DataW.weights_mem_each (j := 1) rfl rfl n hn)
  obtain ⟨c1, Q1, rfl, M, N⟩ := znf (b 1 34 v1 rfl rfl) h1 w1
  have k2 := h2
  have P : ∀ x ∈ p2, x.block < W.heap.size := by obtain ⟨m, l⟩ := k2; exact DataW.trod_lt m _ _ _ l
  have w2 : ∀ n ∈ DataW.weights Tryz.prog 37 d2, n ≤ reachBytes := fun n hn => by simpa using List.all_eq_true.1 f n (DataW.weights_mem_each (j := 2) rfl rfl n hn)
  obtain ⟨s2, l2, a2, c2, rfl, Q, R, S⟩ := zvy (b 2 37 v2 rfl rfl) h2 w2
  clear k d
  refine (zwl t0 c1 s2 l2 w y z A B D Q1 a2 c2 W E F G K M N Q R S).mono fun e W' ⟨he, bel⟩ => ?_
  subst he
  exact ⟨_, rfl, _, _, _, [], _, [], r, trodAll_mk1 (shut_bool Tryz.underlying4 _), (trodAll_cons_mk (Below.trod zgb (by kernel_rfl) (of_decide_eq_true (by kernel_rfl)) k0 bel u) (trodAll_cons_mk (Below.trod zgb (by kernel_rfl) (of_decide_eq_true (by kernel_rfl)) k1 bel L) (trodAll_cons_mk (Below.trod zgb (by kernel_rfl) (of_decide_eq_true (by kernel_rfl)) k2 bel P) trodAll_mk0))), rfl, bel.frame _, fun h => by cases h⟩

theorem aT {a b : Bool} (h : a = true) (k : b = true) : (a && b) = true := by rw [h, k]; rfl
set_option maxHeartbeats 4000000 in
theorem over : Rows.legalPairingsRow.holds Tryz.pinned (OpenSpec.ofChange Rows.legalPairingsSpec) :=
  OpenClaim.holds_of_wide 5 Tryz.f5 rfl rfl rfl rfl rfl rfl rfl ⟨rfl, rfl, rfl, rfl, rfl⟩ rfl rfl rfl rfl rfl (by kernel_rfl) Tryz.func5 (by unfold joinedFacts; (repeat' with_reducible refine aT ?_ ?_); all_goals as_aux_lemma => kernel_rfl)
    (of_decide_eq_true (by kernel_rfl)) (by unfold Func.isWrapper; first | (rw [if_pos (by decide +kernel)]; kernel_rfl) | (rw [if_neg (by decide +kernel)]; exact ⟨rfl, rfl⟩))
    (fun os started H enc _ => lifted os started H enc)
end Go.Proofs.YtbhhejkolnigfaaGreat.legalPairingsP
namespace Go.Proofs.YtbhhejkolnigfaaGreat
theorem legalPairings_holds : Rows.LegalPairingsSaid := legalPairingsP.over
#print axioms legalPairings_holds
end Go.Proofs.YtbhhejkolnigfaaGreat
