/- MeasureSums: MeasureSums returns true for any arguments; no conditions. -/
import Derived.Test.YtafdcbmgdfliiaaGreatN5
import Derived.Test.YtafdcbmgdfliiaaGreatKB

namespace Go.Proofs.YtafdcbmgdfliiaaGreat.measureSumsP
open Go.ChangeShapes Go.WideShapes Go.ChangeAt Go.RowKit
set_option linter.all false

set_option maxRecDepth 100000 in
theorem lifted (A : Os) (b : A.Started) (H : Type) (enc : TypeId × Value → H) :
    ReturnsInHanded {} Tryz.checked A 3 .any (Rows.measureSumsSpec.pre6 enc Tryz.prog Tryz.f3 Rows.measureSumsRow.domain false) (Rows.measureSumsSpec.post enc Tryz.prog Tryz.f3 false true false false) := by
  refine returnsInHanded_of_change_sized (C := Tryz.checked) own b (by kernel_rfl) Tryz.func3
    (ChangeSpec.witness6 (enc := enc) (C := Tryz.checked) false ⟨#[], #[.slice none 0 0, .int .i64 0], []⟩ 8 (by kernel_rfl) (by kernel_rfl) (by kernel_rfl) (by kernel_rfl)) ?_
  intro W g a B Q l c D E i _
  have d : ∀ (j : Nat) t v, Tryz.f3.params[j]? = some t → a[j]? = some v → Value.okWide Tryz.prog W .any g t v := c
  have f : (DataW.weightsEach Tryz.prog (Tryz.f3.params.toList ++ Rows.measureSumsSpec.plain.varTypes Tryz.prog) (B ++ Q)).all (· ≤ reachBytes) = true := i
  have o := D
  obtain ⟨p, q, k, R, rfl, S, T⟩ := D
  have F : DataW.TrodAll enc Tryz.prog W 0 (fun _ => true) true Tryz.f3.params.toList a.toList B p := k
  rw [Tryz.params3] at F d f
  obtain ⟨G, U, V, X, Y, q0, r, rfl, rfl, K, Z⟩ := trodAll_cons F
  obtain ⟨L, a1, d1, a2, p1, q1, rfl, rfl, rfl, M, r1⟩ := trodAll_cons Z
  obtain ⟨rfl, rfl, rfl⟩ := trodAll_nil r1
  obtain rfl : a = #[G, L] := by cases a; simp_all
  obtain ⟨rfl, rfl⟩ := trodVars_none R
  have N := K
  have s : ∀ x ∈ Y, x.block < W.heap.size := by obtain ⟨m, u⟩ := N; exact DataW.trod_lt m _ _ _ u
  have w0 : ∀ n ∈ DataW.weights Tryz.prog 22 V, n ≤ reachBytes := fun n hn => by simpa using List.all_eq_true.1 f n (DataW.weights_mem_each (j := 0) rfl rfl n hn)
  obtain ⟨l0, a0, c0, rfl, w, y⟩ := XY (d 0 22 G rfl rfl) K w0
  have P := M
  have z : ∀ x ∈ p1, x.block < W.heap.size := by obtain ⟨m, u⟩ := P; exact DataW.trod_lt m _ _ _ u
  have w1 : ∀ n ∈ DataW.weights Tryz.prog 3 d1, n ≤ reachBytes := fun n hn => by simpa using List.all_eq_true.1 f n (DataW.weights_mem_each (j := 1) rfl rfl n hn)
  obtain ⟨x1, rfl⟩ := XZ (d 1 3 L rfl rfl) M w1
  clear k c
  refine (zDH l0 x1 a0 c0  W w y).mono fun e W' ⟨he, bel⟩ => ?_
  subst he
  exact ⟨_, rfl, _, _, _, [], _, [], o, trodAll_mk1 (shut_bool Tryz.underlying4 _), (trodAll_cons_mk (Below.trod tV (by kernel_rfl) (of_decide_eq_true (by kernel_rfl)) N bel s) (trodAll_cons_mk (Below.trod tV (by kernel_rfl) (of_decide_eq_true (by kernel_rfl)) P bel z) trodAll_mk0)), rfl, bel.frame _, fun h => by cases h⟩

theorem andT {a b : Bool} (h : a = true) (k : b = true) : (a && b) = true := by rw [h, k]; rfl
set_option maxHeartbeats 4000000 in
theorem over : Rows.measureSumsRow.holds Tryz.pinned (OpenSpec.ofChange Rows.measureSumsSpec) :=
  OpenClaim.holds_of_wide 3 Tryz.f3 rfl rfl rfl rfl rfl rfl rfl ⟨rfl, rfl, rfl, rfl, rfl⟩ rfl rfl rfl rfl rfl (by kernel_rfl) Tryz.func3 (by unfold joinedFacts; (repeat' with_reducible refine andT ?_ ?_); all_goals as_aux_lemma => kernel_rfl)
    (of_decide_eq_true (by kernel_rfl)) (by unfold Func.isWrapper; first | (rw [if_pos (by decide +kernel)]; kernel_rfl) | (rw [if_neg (by decide +kernel)]; exact ⟨rfl, rfl⟩))
    (fun os started H enc _ => lifted os started H enc)
end Go.Proofs.YtafdcbmgdfliiaaGreat.measureSumsP
namespace Go.Proofs.YtafdcbmgdfliiaaGreat
theorem measureSums_holds : Rows.MeasureSumsSaid := measureSumsP.over
#print axioms measureSums_holds
end Go.Proofs.YtafdcbmgdfliiaaGreat
