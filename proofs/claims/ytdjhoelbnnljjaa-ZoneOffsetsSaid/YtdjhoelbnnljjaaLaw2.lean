/- the walk of ZoneOffsets -/
import Derived.Test.YtdjhoelbnnljjaaLaw1
namespace Go.Proofs.Ytdjhoelbnnljjaa
open Go.RowKit Go.Sort
set_option linter.unusedSimpArgs false
set_option linter.unusedVariables false

set_option maxRecDepth 100000 in
set_option maxHeartbeats 800000 in
theorem zoneOffsets_walk (s : ByteArray) (o : Int) (l : List (Int × Int)) (a : Option Addr) (cap : Nat) (t : Int) (w : World) (hs : s.size ≤ maxLen) (hl : l.length ≤ maxLen) (ho : (Lit.int .i64 o).wf = true) (ha : ShAt w a l) (ht : (Lit.int .i64 t).wf = true) :
    Calls Try.prog 4 #[.agg #[.string s, .int .i64 o, .slice a l.length cap], .int .i64 t] w fun e w' => e = .returned (.bool true) ∧ Below w.heap.size w w' := by
  unfold maxLen at hl
  clear ho ht
  have hA := Lib.hid (fun W (h : Below w.heap.size w W) => ha.below h)
  clear ha
  by_cases h : 40 < l.length
  · go_enter Try.func4, Try.ntmps4
    go_wp2_with fail
    refine (awake_any _).mono ?_
    rintro e w1 ⟨rfl, hb1⟩
    go_wp2_with fail
    go_ret
    exact ⟨rfl, Below.then ((Below.refl _ _).alloc (Nat.le_refl _) _) hb1⟩
  · have hl' : l.length ≤ 1000000 := by omega
    go_enter Try.func4, Try.ntmps4
    go_wp2_with fail
    generalize hW : w.alloc (Obj.cells #[Value.string s, Value.int IntKind.i64 o, Value.slice a l.length cap] 24) = W
    have hbW : Below w.heap.size w W := by rw [← hW]; exact (Below.refl _ _).alloc (Nat.le_refl _) _
    have q0 : W.cell? ⟨w.heap.size, 0, none⟩ = some (Value.string s) := by clear hbW; subst hW; go_simp
    have q1 : W.cell? ⟨w.heap.size, 1, none⟩ = some (Value.int .i64 o) := by clear hbW; subst hW; go_simp
    have q2 : W.cell? ⟨w.heap.size, 2, none⟩ = some (Value.slice a l.length cap) := by clear hbW; subst hW; go_simp
    have hz0 : w.heap.size < W.heap.size := by rw [← hW]; simp
    clear hW
    refine (OffsetAt_any s o t l a cap _ hs hl' (hA.out _ hbW)).mono ?_
    rintro e w1 ⟨rfl, hb1⟩
    have hB1 := Below.then hbW hb1
    have c10 := (hb1.cell (p := ⟨w.heap.size, 0, none⟩) hz0).trans q0
    have c11 := (hb1.cell (p := ⟨w.heap.size, 1, none⟩) hz0).trans q1
    have c12 := (hb1.cell (p := ⟨w.heap.size, 2, none⟩) hz0).trans q2
    have hz1 : w.heap.size < w1.heap.size := Nat.lt_of_lt_of_le hz0 hb1.size
    go_wp2_with fail
    refine (OffsetAtR_any s o t l a cap _ hs hl' (hA.out _ hB1)).mono ?_
    rintro e w2 ⟨rfl, hb2⟩
    have hB2 := Below.then hB1 hb2
    have c20 := (hb2.cell (p := ⟨w.heap.size, 0, none⟩) hz1).trans c10
    have c21 := (hb2.cell (p := ⟨w.heap.size, 1, none⟩) hz1).trans c11
    have c22 := (hb2.cell (p := ⟨w.heap.size, 2, none⟩) hz1).trans c12
    have hz2 : w.heap.size < w2.heap.size := Nat.lt_of_lt_of_le hz1 hb2.size
    go_wp2_with fail
    refine (LocalMinute_any s o t l a cap _ hs hl' (hA.out _ hB2)).mono ?_
    rintro e w3 ⟨rfl, hb3⟩
    have hB3 := Below.then hB2 hb3
    have c30 := (hb3.cell (p := ⟨w.heap.size, 0, none⟩) hz2).trans c20
    have c31 := (hb3.cell (p := ⟨w.heap.size, 1, none⟩) hz2).trans c21
    have c32 := (hb3.cell (p := ⟨w.heap.size, 2, none⟩) hz2).trans c22
    have hz3 : w.heap.size < w3.heap.size := Nat.lt_of_lt_of_le hz2 hb3.size
    go_wp2_with fail
    refine (LocalMinuteR_any s o t l a cap _ hs hl' (hA.out _ hB3)).mono ?_
    rintro e w4 ⟨rfl, hb4⟩
    have hB4 := Below.then hB3 hb4
    have c40 := (hb4.cell (p := ⟨w.heap.size, 0, none⟩) hz3).trans c30
    have c41 := (hb4.cell (p := ⟨w.heap.size, 1, none⟩) hz3).trans c31
    have c42 := (hb4.cell (p := ⟨w.heap.size, 2, none⟩) hz3).trans c32
    have hz4 : w.heap.size < w4.heap.size := Nat.lt_of_lt_of_le hz3 hb4.size
    go_wp2_with fail
    refine (LocalTime_any s o t l a cap _ hs hl' (hA.out _ hB4)).mono ?_
    rintro e w5 ⟨rfl, hb5⟩
    have hB5 := Below.then hB4 hb5
    have c50 := (hb5.cell (p := ⟨w.heap.size, 0, none⟩) hz4).trans c40
    have c51 := (hb5.cell (p := ⟨w.heap.size, 1, none⟩) hz4).trans c41
    have c52 := (hb5.cell (p := ⟨w.heap.size, 2, none⟩) hz4).trans c42
    have hz5 : w.heap.size < w5.heap.size := Nat.lt_of_lt_of_le hz4 hb5.size
    go_wp2_with fail
    refine (LocalTimeR_any s o t l a cap _ hs hl' (hA.out _ hB5)).mono ?_
    rintro e w6 ⟨rfl, hb6⟩
    have hB6 := Below.then hB5 hb6
    have c60 := (hb6.cell (p := ⟨w.heap.size, 0, none⟩) hz5).trans c50
    have c61 := (hb6.cell (p := ⟨w.heap.size, 1, none⟩) hz5).trans c51
    have c62 := (hb6.cell (p := ⟨w.heap.size, 2, none⟩) hz5).trans c52
    have hz6 : w.heap.size < w6.heap.size := Nat.lt_of_lt_of_le hz5 hb6.size
    generalize (offAtZ s.data.toList o l t) = p1
    generalize (locMinZ s.data.toList o l t) = p2
    generalize (locTimeZ s.data.toList o l t) = p3
    go_wp2_with (go_at_call 11; refine (awake_any _).mono ?_; rintro e w7 ⟨rfl, hb7⟩)
    go_ret
    exact ⟨rfl, Below.then hB6 hb7⟩
end Go.Proofs.Ytdjhoelbnnljjaa
