/- LegalRests: for any timetable, contract, base and two duties, CheckRest and RestCost return the reference's results or errors. -/
import Derived.Test.YtllakjblamfjbaaGreatH7
import Derived.Test.YtllakjblamfjbaaGreatG9

namespace Go.Proofs.YtllakjblamfjbaaGreat.legalRestsP
open Go.ChangeShapes Go.WideShapes Go.ChangeAt Go.RowKit
set_option linter.unusedVariables false

set_option maxRecDepth 100000 in
theorem lifted (X : Os) (d : X.Started) (H : Type) (enc : TypeId × Value → H) :
    ReturnsInHanded {} Tryz.checked X 4 .any (Rows.legalRestsSpec.pre6 enc Tryz.prog Tryz.f4 Rows.legalRestsRow.domain false) (Rows.legalRestsSpec.post enc Tryz.prog Tryz.f4 false true false false) := by
  refine returnsInHanded_of_change_sized (C := Tryz.checked) own d (by kernel_rfl) Tryz.func4
    (ChangeSpec.witness6 (enc := enc) (C := Tryz.checked) false ⟨#[], #[.agg #[.slice none 0 0, .slice none 0 0, .slice none 0 0], .agg #[.int .i64 0, .int .i64 0, .int .i64 0, .int .i64 0, .int .i64 0, .int .i64 0, .int .i64 0, .slice none 0 0, .slice none 0 0, .slice none 0 0, .slice none 0 0, .slice none 0 0, .slice none 0 0, .int .i64 0], .string ByteArray.empty, .slice none 0 0, .slice none 0 0], []⟩ 8 (by kernel_rfl) (by kernel_rfl) (by kernel_rfl) (by kernel_rfl)) ?_
  intro W i b Y gs o f Z a0 k _
  have a : ∀ (j : Nat) t v, Tryz.f4.params[j]? = some t → b[j]? = some v → Value.okWide Tryz.prog W .any i t v := f
  have c : (DataW.weightsEach Tryz.prog (Tryz.f4.params.toList ++ Rows.legalRestsSpec.plain.varTypes Tryz.prog) (Y ++ gs)).all (· ≤ reachBytes) = true := k
  have r := Z
  obtain ⟨p, q, l, hV, rfl, a1, a2⟩ := Z
  have hA : DataW.TrodAll enc Tryz.prog W 0 (fun _ => true) true Tryz.f4.params.toList b.toList Y p := l
  rw [Tryz.params4] at hA a c
  obtain ⟨v0, a5, d0, a6, p0, q0, s, rfl, rfl, h0, r0⟩ := trodAll_cons hA
  obtain ⟨v1, a7, d1, a8, p1, q1, rfl, rfl, rfl, h1, r1⟩ := trodAll_cons r0
  obtain ⟨v2, a9, d2, b0, p2, q2, rfl, rfl, rfl, h2, r2⟩ := trodAll_cons r1
  obtain ⟨v3, b1, d3, b2, p3, q3, rfl, rfl, rfl, h3, r3⟩ := trodAll_cons r2
  obtain ⟨v4, b3, d4, b4, p4, q4, rfl, rfl, rfl, h4, r4⟩ := trodAll_cons r3
  obtain ⟨rfl, rfl, rfl⟩ := trodAll_nil r4
  obtain rfl : b = #[v0, v1, v2, v3, v4] := by cases b; simp_all
  obtain ⟨rfl, rfl⟩ := trodVars_none hV
  have k0 := h0
  have u : ∀ x ∈ p0, x.block < W.heap.size := by obtain ⟨m, g⟩ := k0; exact DataW.trod_lt m _ _ _ g
  have w0 : ∀ n ∈ DataW.weights Tryz.prog 26 d0, n ≤ reachBytes := fun n hn => by simpa using List.all_eq_true.1 c n (DataW.weights_mem_each (j := 0) rfl rfl n hn)
  obtain ⟨t0, w, y, z, A, B, D, rfl, E, F, G, K⟩ := zpV (a 0 26 v0 rfl rfl) h0 w0
  have k1 := h1
  have L : ∀ x ∈ p1, x.block < W.heap.size := by obtain ⟨m, g⟩ := k1; exact DataW.trod_lt m _ _ _ g
  have w1 : ∀ n ∈ DataW.weights Tryz.prog 34 d1, n ≤ reachBytes := fun n hn => by simpa using List.all_eq_true.1 c n (DataW.weights_mem_each (j := 1) rfl rfl n hn)
  obtain ⟨c1, Q1, rfl, M, N⟩ := znf (a 1 34 v1 rfl rfl) h1 w1
  have k2 := h2
  have P : ∀ x ∈ p2, x.block < W.heap.size := by obtain ⟨m, g⟩ := k2; exact DataW.trod_lt m _ _ _ g
  have w2 : ∀ n ∈ DataW.weights Tryz.prog 9 d2, n ≤ reachBytes := fun n hn => by simpa using List.all_eq_true.1 c n (DataW.weights_mem_each (j := 2) rfl rfl n hn)
  obtain ⟨s2, rfl⟩ := okWide_string Tryz.underlying9 (a 2 9 v2 rfl rfl)
  have k3 := h3
  have Q : ∀ x ∈ p3, x.block < W.heap.size := by obtain ⟨m, g⟩ := k3; exact DataW.trod_lt m _ _ _ g
  have w3 : ∀ n ∈ DataW.weights Tryz.prog 49 d3, n ≤ reachBytes := fun n hn => by simpa using List.all_eq_true.1 c n (DataW.weights_mem_each (j := 3) rfl rfl n hn)
  obtain ⟨l3, a3, c3, rfl, R, S⟩ := zk4 (a 3 49 v3 rfl rfl) h3 w3
  have k4 := h4
  have T : ∀ x ∈ p4, x.block < W.heap.size := by obtain ⟨m, g⟩ := k4; exact DataW.trod_lt m _ _ _ g
  have w4 : ∀ n ∈ DataW.weights Tryz.prog 49 d4, n ≤ reachBytes := fun n hn => by simpa using List.all_eq_true.1 c n (DataW.weights_mem_each (j := 4) rfl rfl n hn)
  obtain ⟨l4, a4, c4, rfl, U, V⟩ := zk4 (a 4 49 v4 rfl rfl) h4 w4
  clear l f
  refine (zvd t0 c1 s2 l3 l4 w y z A B D Q1  a3 c3 a4 c4 W E F G K M N R S U V).mono fun e W' ⟨he, bel⟩ => ?_
  subst he
  exact ⟨_, rfl, _, _, _, [], _, [], r, trodAll_mk1 (shut_bool Tryz.underlying4 _), (trodAll_cons_mk (Below.trod zgb (by kernel_rfl) (of_decide_eq_true (by kernel_rfl)) k0 bel u) (trodAll_cons_mk (Below.trod zgb (by kernel_rfl) (of_decide_eq_true (by kernel_rfl)) k1 bel L) (trodAll_cons_mk (Below.trod zgb (by kernel_rfl) (of_decide_eq_true (by kernel_rfl)) k2 bel P) (trodAll_cons_mk (Below.trod zgb (by kernel_rfl) (of_decide_eq_true (by kernel_rfl)) k3 bel Q) (trodAll_cons_mk (Below.trod zgb (by kernel_rfl) (of_decide_eq_true (by kernel_rfl)) k4 bel T) trodAll_mk0))))), rfl, bel.frame _, fun h => by cases h⟩

theorem aT {a b : Bool} (h : a = true) (k : b = true) : (a && b) = true := by rw [h, k]; rfl
set_option maxHeartbeats 4000000 in
theorem over : Rows.legalRestsRow.holds Tryz.pinned (OpenSpec.ofChange Rows.legalRestsSpec) :=
  OpenClaim.holds_of_wide 4 Tryz.f4 rfl rfl rfl rfl rfl rfl rfl ⟨rfl, rfl, rfl, rfl, rfl⟩ rfl rfl rfl rfl rfl (by kernel_rfl) Tryz.func4 (by unfold joinedFacts; (repeat' with_reducible refine aT ?_ ?_); all_goals as_aux_lemma => kernel_rfl)
    (of_decide_eq_true (by kernel_rfl)) (by unfold Func.isWrapper; first | (rw [if_pos (by decide +kernel)]; kernel_rfl) | (rw [if_neg (by decide +kernel)]; exact ⟨rfl, rfl⟩))
    (fun os started H enc _ => lifted os started H enc)
end Go.Proofs.YtllakjblamfjbaaGreat.legalRestsP
namespace Go.Proofs.YtllakjblamfjbaaGreat
theorem legalRests_holds : Rows.LegalRestsSaid := legalRestsP.over
#print axioms legalRests_holds
end Go.Proofs.YtllakjblamfjbaaGreat
