/- NetworkBuilds: NetworkBuilds: for any timetable, contract, base and legs, Build returns the reference's network or error -/
import Derived.Test.YtelojoopofolpaaGreatH4
import Derived.Test.YtelojoopofolpaaGreatM7
import Derived.Test.YtelojoopofolpaaGreatG9
import Derived.Test.YtelojoopofolpaaGreatMO

namespace Go.Proofs.YtelojoopofolpaaGreat.networkBuildsP
open Go.ChangeShapes Go.WideShapes Go.ChangeAt Go.RowKit
set_option linter.all false

set_option maxRecDepth 100000 in
theorem lifted (T : Os) (c : T.Started) (H : Type) (enc : TypeId × Value → H) :
    ReturnsInHanded {} Tryz.checked T 5 .any (Rows.networkBuildsSpec.pre6 enc Tryz.prog Tryz.f5 Rows.networkBuildsRow.domain false) (Rows.networkBuildsSpec.post enc Tryz.prog Tryz.f5 false true false false) := by
  refine returnsInHanded_of_change_sized (C := Tryz.checked) own c (by kernel_rfl) Tryz.func5
    (ChangeSpec.witness6 (enc := enc) (C := Tryz.checked) false ⟨#[], #[.agg #[.slice none 0 0, .slice none 0 0, .slice none 0 0], .agg #[.int .i64 0, .int .i64 0, .int .i64 0, .int .i64 0, .int .i64 0, .int .i64 0, .int .i64 0, .slice none 0 0, .slice none 0 0, .slice none 0 0, .slice none 0 0, .slice none 0 0, .slice none 0 0, .int .i64 0], .string ByteArray.empty, .slice none 0 0], []⟩ 8 (by kernel_rfl) (by kernel_rfl) (by kernel_rfl) (by kernel_rfl)) ?_
  intro W i b U gs o d V X k _
  have a : ∀ (j : Nat) t v, Tryz.f5.params[j]? = some t → b[j]? = some v → Value.okWide Tryz.prog W .any i t v := d
  have f : (DataW.weightsEach Tryz.prog (Tryz.f5.params.toList ++ Rows.networkBuildsSpec.plain.varTypes Tryz.prog) (U ++ gs)).all (· ≤ reachBytes) = true := k
  have r := V
  obtain ⟨p, q, l, hV, rfl, a0, a1⟩ := V
  have Y : DataW.TrodAll enc Tryz.prog W 0 (fun _ => true) true Tryz.f5.params.toList b.toList U p := l
  rw [Tryz.params5] at Y a f
  obtain ⟨Z, a2, d0, a4, p0, q0, s, rfl, rfl, h0, r0⟩ := trodAll_cons Y
  obtain ⟨v1, a5, d1, a6, p1, q1, rfl, rfl, rfl, h1, r1⟩ := trodAll_cons r0
  obtain ⟨v2, a7, d2, a8, p2, q2, rfl, rfl, rfl, h2, r2⟩ := trodAll_cons r1
  obtain ⟨v3, a9, d3, b0, p3, q3, rfl, rfl, rfl, h3, r3⟩ := trodAll_cons r2
  obtain ⟨rfl, rfl, rfl⟩ := trodAll_nil r3
  obtain rfl : b = #[Z, v1, v2, v3] := by cases b; simp_all
  obtain ⟨rfl, rfl⟩ := trodVars_none hV
  have k0 := h0
  have u : ∀ x ∈ p0, x.block < W.heap.size := by obtain ⟨m, g⟩ := k0; exact DataW.trod_lt m _ _ _ g
  have w0 : ∀ n ∈ DataW.weights Tryz.prog 27 d0, n ≤ reachBytes := fun n hn => by simpa using List.all_eq_true.1 f n (DataW.weights_mem_each (j := 0) rfl rfl n hn)
  obtain ⟨t0, w, y, z, A, B, D, rfl, E, F, G, K⟩ := zpV (a 0 27 Z rfl rfl) h0 w0
  have k1 := h1
  have L : ∀ x ∈ p1, x.block < W.heap.size := by obtain ⟨m, g⟩ := k1; exact DataW.trod_lt m _ _ _ g
  have w1 : ∀ n ∈ DataW.weights Tryz.prog 35 d1, n ≤ reachBytes := fun n hn => by simpa using List.all_eq_true.1 f n (DataW.weights_mem_each (j := 1) rfl rfl n hn)
  obtain ⟨c1, Q1, rfl, M, N⟩ := znf (a 1 35 v1 rfl rfl) h1 w1
  have k2 := h2
  have P : ∀ x ∈ p2, x.block < W.heap.size := by obtain ⟨m, g⟩ := k2; exact DataW.trod_lt m _ _ _ g
  have w2 : ∀ n ∈ DataW.weights Tryz.prog 9 d2, n ≤ reachBytes := fun n hn => by simpa using List.all_eq_true.1 f n (DataW.weights_mem_each (j := 2) rfl rfl n hn)
  obtain ⟨s2, rfl⟩ := okWide_string Tryz.underlying9 (a 2 9 v2 rfl rfl)
  have k3 := h3
  have Q : ∀ x ∈ p3, x.block < W.heap.size := by obtain ⟨m, g⟩ := k3; exact DataW.trod_lt m _ _ _ g
  have w3 : ∀ n ∈ DataW.weights Tryz.prog 39 d3, n ≤ reachBytes := fun n hn => by simpa using List.all_eq_true.1 f n (DataW.weights_mem_each (j := 3) rfl rfl n hn)
  obtain ⟨l3, a3, c3, rfl, R, S⟩ := zCj (a 3 39 v3 rfl rfl) h3 w3
  clear l d
  refine (zAo t0 c1 s2 l3 w y z A B D Q1  a3 c3 W E F G K M N R S).mono fun e W' ⟨he, bel⟩ => ?_
  subst he
  exact ⟨_, rfl, _, _, _, [], _, [], r, trodAll_mk1 (shut_bool Tryz.underlying4 _), (trodAll_cons_mk (Below.trod tV (by kernel_rfl) (of_decide_eq_true (by kernel_rfl)) k0 bel u) (trodAll_cons_mk (Below.trod tV (by kernel_rfl) (of_decide_eq_true (by kernel_rfl)) k1 bel L) (trodAll_cons_mk (Below.trod tV (by kernel_rfl) (of_decide_eq_true (by kernel_rfl)) k2 bel P) (trodAll_cons_mk (Below.trod tV (by kernel_rfl) (of_decide_eq_true (by kernel_rfl)) k3 bel Q) trodAll_mk0)))), rfl, bel.frame _, fun h => by cases h⟩

theorem andT {a b : Bool} (h : a = true) (k : b = true) : (a && b) = true := by rw [h, k]; rfl
set_option maxHeartbeats 4000000 in
theorem over : Rows.networkBuildsRow.holds Tryz.pinned (OpenSpec.ofChange Rows.networkBuildsSpec) :=
  OpenClaim.holds_of_wide 5 Tryz.f5 rfl rfl rfl rfl rfl rfl rfl ⟨rfl, rfl, rfl, rfl, rfl⟩ rfl rfl rfl rfl rfl (by kernel_rfl) Tryz.func5 (by unfold joinedFacts; (repeat' with_reducible refine andT ?_ ?_); all_goals as_aux_lemma => kernel_rfl)
    (of_decide_eq_true (by kernel_rfl)) (by unfold Func.isWrapper; first | (rw [if_pos (by decide +kernel)]; kernel_rfl) | (rw [if_neg (by decide +kernel)]; exact ⟨rfl, rfl⟩))
    (fun os started H enc _ => lifted os started H enc)
end Go.Proofs.YtelojoopofolpaaGreat.networkBuildsP
namespace Go.Proofs.YtelojoopofolpaaGreat
theorem networkBuilds_holds : Rows.NetworkBuildsSaid := networkBuildsP.over
#print axioms networkBuilds_holds
end Go.Proofs.YtelojoopofolpaaGreat
