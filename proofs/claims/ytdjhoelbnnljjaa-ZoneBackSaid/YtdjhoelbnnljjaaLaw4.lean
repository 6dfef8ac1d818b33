/- the walk of ZoneInstants -/
import Derived.Test.YtdjhoelbnnljjaaSame
namespace Go.Proofs.Ytdjhoelbnnljjaa
open Go.RowKit Go.Sort
set_option linter.unusedSimpArgs false
set_option linter.unusedVariables false

theorem instsP_len (L : List (Int × Int × Int)) (loc : Int) : (instsP L loc).length ≤ L.length := by
  induction L with
  | nil => simp [instsP]
  | cons g L ih =>
    have : (inst1 g loc).length ≤ 1 := by unfold inst1; split <;> simp
    simp [instsP]; omega
theorem instZ_len (nm : List UInt8) (o : Int) (l : List (Int × Int)) (d c : Int) : (instZ nm o l d c).1.length ≤ l.length + 1 := by
  unfold instZ
  split
  · simp
  split
  · simp
  split
  · simp
  · exact Nat.le_trans (instsP_len _ _) (segsP_len l _ _ _ _)

set_option maxHeartbeats 800000 in
theorem zoneInstants_walk (s : ByteArray) (o : Int) (l : List (Int × Int)) (a : Option Addr) (cap : Nat) (d c : Int) (w : World) (hs : s.size ≤ maxLen) (hl : l.length ≤ maxLen) (ho : (Lit.int .i64 o).wf = true) (ha : ShAt w a l) (hd : (Lit.int .i64 d).wf = true) (hc : (Lit.int .i64 c).wf = true) :
    Calls Try.prog 6 #[.agg #[.string s, .int .i64 o, .slice a l.length cap], .int .i64 d, .int .i64 c] w fun e w' => e = .returned (.bool true) ∧ Below w.heap.size w w' := by
  clear ho hd hc
  unfold maxLen at hl
  have hA := Lib.hid (fun W (h : Below w.heap.size w W) => ha.below h)
  clear ha
  by_cases h : 40 < l.length
  · go_enter Try.func6, Try.ntmps6
    go_wp2_with fail
    refine (awake_any _).mono ?_
    rintro e w1 ⟨rfl, hb1⟩
    go_wp2_with fail
    go_ret
    exact ⟨rfl, Below.then ((Below.refl _ _).alloc (Nat.le_refl _) _) hb1⟩
  · have hl' : l.length ≤ 1000000 := by omega
    go_enter Try.func6, Try.ntmps6
    go_wp2_with fail
    have zb := ZBox.new w s o a l.length cap
    have hbW := below_new w (Obj.cells #[Value.string s, Value.int IntKind.i64 o, Value.slice a l.length cap] 24)
    generalize (w.alloc (Obj.cells #[Value.string s, Value.int IntKind.i64 o, Value.slice a l.length cap] 24)) = W at *
    refine (Instants_any s o d c l a cap _ hs hl' (hA.out _ hbW)).mono ?_
    rintro e w1 ⟨v, rfl, hown, hb1⟩
    have hB1 := Below.then hbW hb1
    replace zb := zb.below hb1
    obtain ⟨z0, z1, z2, z3⟩ := Lib.hid zb |>.out
    go_wp2_with fail
    refine (InstantsR_any s o d c l a cap _ hs hl' (hA.out _ hB1)).mono ?_
    rintro e w2 ⟨u, rfl, hown2, hb2⟩
    have hB2 := Below.then hB1 hb2
    have r1 := Lib.hid ((intRow_of_own hown).below hb2)
    have r2 := Lib.hid (intRow_of_own hown2)
    have hM := instZ_len s.data.toList o l d c
    clear hown hown2
    generalize (instZ s.data.toList o l d c) = p at *
    go_wp2_with fail
    refine (same_eq v u p.1 _ r1.out r2.out (by omega)).mono ?_
    rintro e w3 ⟨rfl, hb3⟩
    go_wp2_with (go_at_call 11; refine (awake_any _).mono ?_; rintro e w7 ⟨rfl, hb7⟩)
    go_ret
    exact ⟨rfl, Below.then (Below.then hB2 hb3) hb7⟩
end Go.Proofs.Ytdjhoelbnnljjaa
