/- the walk of ZoneBands -/
import Derived.Test.YtdjhoelbnnljjaaBand3
namespace Go.Proofs.Ytdjhoelbnnljjaa
open Go.RowKit Go.Sort
set_option linter.unusedSimpArgs false
set_option linter.unusedVariables false

set_option maxRecDepth 100000 in
set_option maxHeartbeats 1600000 in
theorem zoneBands_walk (s : ByteArray) (o : Int) (l : List (Int × Int)) (a : Option Addr) (cap : Nat) (x y fr to : Int) (w : World) (hs : s.size ≤ maxLen) (hl : l.length ≤ maxLen) (ho : (Lit.int .i64 o).wf = true) (ha : ShAt w a l) (hx : (Lit.int .i64 x).wf = true) (hy : (Lit.int .i64 y).wf = true) (hfr : (Lit.int .i64 fr).wf = true) (hto : (Lit.int .i64 to).wf = true) :
    Calls Try.prog 9 #[.agg #[.string s, .int .i64 o, .slice a l.length cap], .agg #[.int .i64 x, .int .i64 y], .int .i64 fr, .int .i64 to] w fun e w' => e = .returned (.bool true) ∧ Below w.heap.size w w' := by
  clear ho hx hy hfr hto
  have hA := Lib.hid (fun W (h : Below w.heap.size w W) => ha.below h)
  clear ha
  go_enter Try.func9, Try.ntmps9
  go_wp2_with fail
  obtain ⟨zb, sb, hbW⟩ := boxes w s o a l.length cap x y
  generalize ((w.alloc (Obj.cells #[Value.string s, Value.int IntKind.i64 o, Value.slice a l.length cap] 24)).alloc (Obj.cells #[Value.int IntKind.i64 x, Value.int IntKind.i64 y] 35)) = W at *
  refine (light_any s o x y l.length a cap _ hl).mono ?_
  rintro e w1 ⟨rfl, hb1⟩
  have hB1 := Below.then hbW hb1
  replace zb := zb.below hb1
  replace sb := sb.below hb1
  obtain ⟨z0, z1, z2, z3⟩ := Lib.hid zb |>.out
  obtain ⟨t0, t1, t2⟩ := Lib.hid sb |>.out
  clear hb1 hbW
  clear W
  cases hli : lightB l.length x y
  · go_wp2_with (go_at_call 11; refine (awake_any _).mono ?_; rintro e w7 ⟨rfl, hb7⟩)
    go_ret
    exact ⟨rfl, Below.then hB1 hb7⟩
  · have hl' : l.length ≤ 1000000 := by have := light_ok hli; omega
    go_wp2_with fail
    refine (BandMinutes_any s o x y fr to l a cap _ hs hl' (hA.out _ hB1)).mono ?_
    rintro e w2 ⟨rfl, hb2⟩
    have hB2 := Below.then hB1 hb2
    replace zb := zb.below hb2
    replace sb := sb.below hb2
    clear hb2 z0 z1 z2 z3 t0 t1 t2
    obtain ⟨z0, z1, z2, z3⟩ := Lib.hid zb |>.out
    obtain ⟨t0, t1, t2⟩ := Lib.hid sb |>.out
    go_wp2_with fail
    refine (BandMinutesR_any s o x y fr to l a cap _ hs hl' (hA.out _ hB2)).mono ?_
    rintro e w3 ⟨rfl, hb3⟩
    have hB3 := Below.then hB2 hb3
    replace zb := zb.below hb3
    replace sb := sb.below hb3
    clear hb3 z0 z1 z2 z3 t0 t1 t2
    obtain ⟨z0, z1, z2, z3⟩ := Lib.hid zb |>.out
    obtain ⟨t0, t1, t2⟩ := Lib.hid sb |>.out
    go_wp2_with fail
    refine (Nights_any s o x y fr to l a cap _ hs hl' (hA.out _ hB3)).mono ?_
    rintro e w4 ⟨rfl, hb4⟩
    have hB4 := Below.then hB3 hb4
    replace zb := zb.below hb4
    replace sb := sb.below hb4
    clear hb4 z0 z1 z2 z3 t0 t1 t2
    obtain ⟨z0, z1, z2, z3⟩ := Lib.hid zb |>.out
    obtain ⟨t0, t1, t2⟩ := Lib.hid sb |>.out
    go_wp2_with fail
    refine (NightsR_any s o x y fr to l a cap _ hs hl' (hA.out _ hB4)).mono ?_
    rintro e w5 ⟨rfl, hb5⟩
    have hB5 := Below.then hB4 hb5
    replace zb := zb.below hb5
    replace sb := sb.below hb5
    clear hb5 z0 z1 z2 z3 t0 t1 t2
    obtain ⟨z0, z1, z2, z3⟩ := Lib.hid zb |>.out
    obtain ⟨t0, t1, t2⟩ := Lib.hid sb |>.out
    generalize (bandMinZ s.data.toList o l x y fr to) = p
    generalize (nightsZ s.data.toList o l x y fr to) = q
    go_wp2_with (go_at_call 11; refine (awake_any _).mono ?_; rintro e w7 ⟨rfl, hb7⟩)
    go_ret
    exact ⟨rfl, Below.then hB5 hb7⟩
end Go.Proofs.Ytdjhoelbnnljjaa
