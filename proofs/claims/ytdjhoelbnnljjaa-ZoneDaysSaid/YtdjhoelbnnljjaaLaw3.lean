/- the walk of ZoneDays -/
import Derived.Test.YtdjhoelbnnljjaaDays
namespace Go.Proofs.Ytdjhoelbnnljjaa
open Go.RowKit Go.Sort
set_option linter.unusedSimpArgs false
set_option linter.unusedVariables false

set_option maxHeartbeats 800000 in
theorem zoneDays_walk (s : ByteArray) (o : Int) (l : List (Int × Int)) (a : Option Addr) (cap : Nat) (x y : Int) (w : World) (hs : s.size ≤ maxLen) (hl : l.length ≤ maxLen) (ho : (Lit.int .i64 o).wf = true) (ha : ShAt w a l) (hx : (Lit.int .i64 x).wf = true) (hy : (Lit.int .i64 y).wf = true) :
    Calls Try.prog 5 #[.agg #[.string s, .int .i64 o, .slice a l.length cap], .agg #[.int .i64 x, .int .i64 y]] w fun e w' => e = .returned (.bool true) ∧ Below w.heap.size w w' := by
  clear ho hx hy
  have hA := Lib.hid (fun W (h : Below w.heap.size w W) => ha.below h)
  clear ha
  go_enter Try.func5, Try.ntmps5
  go_wp2_with fail
  obtain ⟨zb, sb, hbW⟩ := boxes w s o a l.length cap x y
  generalize ((w.alloc (Obj.cells #[Value.string s, Value.int IntKind.i64 o, Value.slice a l.length cap] 24)).alloc (Obj.cells #[Value.int IntKind.i64 x, Value.int IntKind.i64 y] 35)) = W at *
  refine (light_any s o x y l.length a cap _ hl).mono ?_
  rintro e w1 ⟨rfl, hb1⟩
  have hB1 := Below.then hbW hb1
  replace zb := zb.below hb1
  replace sb := sb.below hb1
  obtain ⟨z0, z1, z2, z3⟩ := Lib.hid zb |>.out
  obtain ⟨t0, t1, t2⟩ := Lib.hid sb |>.out
  clear hb1 hbW
  clear W
  cases hli : lightB l.length x y
  · go_wp2_with (go_at_call 11; refine (awake_any _).mono ?_; rintro e w7 ⟨rfl, hb7⟩)
    go_ret
    exact ⟨rfl, Below.then hB1 hb7⟩
  · have hl' : l.length ≤ 1000000 := by have := light_ok hli; omega
    go_wp2_with fail
    refine (LocalDays_any s o x y l a cap _ hs hl' (hA.out _ hB1)).mono ?_
    rintro e w2 ⟨rfl, hb2⟩
    have hB2 := Below.then hB1 hb2
    replace zb := zb.below hb2
    replace sb := sb.below hb2
    clear hb2 z0 z1 z2 z3 t0 t1 t2
    obtain ⟨z0, z1, z2, z3⟩ := Lib.hid zb |>.out
    obtain ⟨t0, t1, t2⟩ := Lib.hid sb |>.out
    go_wp2_with fail
    refine (LocalDaysR_any s o x y l a cap _ hs hl' (hA.out _ hB2)).mono ?_
    rintro e w3 ⟨rfl, hb3⟩
    have hB3 := Below.then hB2 hb3
    generalize (daysZ s.data.toList o l x y) = p
    go_wp2_with (go_at_call 11; refine (awake_any _).mono ?_; rintro e w7 ⟨rfl, hb7⟩)
    go_ret
    exact ⟨rfl, Below.then hB3 hb7⟩
end Go.Proofs.Ytdjhoelbnnljjaa
