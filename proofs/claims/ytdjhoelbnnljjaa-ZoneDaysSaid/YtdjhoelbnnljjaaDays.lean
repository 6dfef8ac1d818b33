/- contracts of LocalDays -/
import Derived.Test.YtdjhoelbnnljjaaDays0
namespace Go.Proofs.Ytdjhoelbnnljjaa
open Go.RowKit Go.Sort
set_option linter.unusedSimpArgs false
set_option linter.unusedVariables false

theorem same_below {P : Program} {f : FuncId} {args : Array Value} {w : World} {v : Value} (h : Calls P f args w fun e w' => e = .returned v ∧ w = w') : Calls P f args w fun e w' => e = .returned v ∧ Below w.heap.size w w' :=
  h.mono fun _ _ ⟨he, hw⟩ => ⟨he, hw ▸ Below.refl _ _⟩
set_option maxHeartbeats 800000 in
theorem LocalDays_any (s : ByteArray) (o x y : Int) (l : List (Int × Int)) (a : Option Addr) (cap : Nat) (w : World) (hs : s.size ≤ maxLen) (hl : l.length ≤ 1000000) (ha : ShAt w a l) :
    Calls Try.prog 21 #[.agg #[.string s, .int .i64 o, .slice a l.length cap], .agg #[.int .i64 x, .int .i64 y]] w fun e w' => e = .returned (.tuple #[.int .i64 (daysZ s.data.toList o l x y).1, .int .i64 (daysZ s.data.toList o l x y).2.1, .int .i64 (daysZ s.data.toList o l x y).2.2]) ∧ Below w.heap.size w w' := by
  have hA := Lib.hid (fun W (h : Below w.heap.size w W) => ha.below h)
  clear ha
  go_enter Try.func21, Try.ntmps21
  go_wp2_with fail
  obtain ⟨zb, sb, hbW⟩ := boxes w s o a l.length cap x y
  generalize ((w.alloc (Obj.cells #[Value.string s, Value.int IntKind.i64 o, Value.slice a l.length cap] 24)).alloc (Obj.cells #[Value.int IntKind.i64 x, Value.int IntKind.i64 y] 35)) = W at *
  refine (validate_any s o l a cap _ hs hl (hA.out _ hbW)).mono ?_
  rintro e w1 ⟨rfl, hb1⟩
  have hB1 := Below.then hbW hb1
  replace zb := zb.below hb1
  replace sb := sb.below hb1
  obtain ⟨z0, z1, z2, z3⟩ := Lib.hid zb |>.out
  obtain ⟨t0, t1, t2⟩ := Lib.hid sb |>.out
  clear hb1 hbW
  clear W
  by_cases hv : valZone s.data.toList o l = 0
  · have hv0 := Lib.hid hv
    have hn : (valZone s.data.toList o l != 0) = false := by simpa using hv
    cases hi : spnB x y
    · have hz := Lib.hid (show daysZ s.data.toList o l x y = (0, 0, 5) from by simp [daysZ, hv, hi])
      clear hv
      go_wp2_with (go_at_call 40; refine (span_any _ _ _).mono ?_; rintro e w2 ⟨rfl, hb2⟩)
      go_ret3
      exact ⟨ret_int3 (by rw [hz.out]) (by rw [hz.out]) (by rw [hz.out]), Below.then hB1 hb2⟩
    · by_cases he : x = y
      · have hz := Lib.hid (show daysZ s.data.toList o l x y = (0, 0, 8) from by unfold daysZ; rw [if_neg (by simp [hv]), if_neg (by simp [hi]), if_pos he])
        have he' : (x == y) = true := by simpa using he
        clear hv he
        go_wp2_with fail
        refine (span_any _ _ _).mono ?_
        rintro e w2 ⟨rfl, hb2⟩
        obtain ⟨hc, hf⟩ := bcell hb2
        go_wp2_with fail
        go_ret3
        exact ⟨ret_int3 (by rw [hz.out]) (by rw [hz.out]) (by rw [hz.out]), Below.then hB1 hb2⟩
      · have hz := Lib.hid (show daysZ s.data.toList o l x y = ((x + offP o l x) / 1440, (y - 1 + offP o l (y - 1)) / 1440, 0) from by simp [daysZ, hv, hi, he])
        have he' : (x == y) = false := by simpa using he
        have hsp := spnB_iff hi
        have ho1 := off_bd hv x
        have ho2 := off_bd hv (y - 1)
        clear hv 
        go_wp2_with fail
        refine (span_any _ _ _).mono ?_
        rintro e w2 ⟨rfl, hb2⟩
        have hB2 := Below.then hB1 hb2
        replace zb := zb.below hb2
        replace sb := sb.below hb2
        clear hb2 z0 z1 z2 z3 t0 t1 t2 hB1
        clear w1
        obtain ⟨z0, z1, z2, z3⟩ := Lib.hid zb |>.out
        obtain ⟨t0, t1, t2⟩ := Lib.hid sb |>.out
        go_wp2_with fail
        have r1 := fun d os => cell_regrown z1 d os
        have r2 := fun d os => cell_regrown z2 d os
        have r3 := fun d os => cell_regrown z3 d os
        have r4 := fun d os => cell_regrown t1 d os
        have r5 := fun d os => cell_regrown t2 d os
        have c1 := Lib.hid (fun d os t => Calls.regrown_of (offsetAt_any s o t l a cap (grow (redrawn w2 d) os) hl ((hA.out _ hB2).below (below_regrown w2 d os))))
        have c2 := Lib.hid (fun d os t h1 h2 => Calls.regrown_of (same_below (split_any t (grow (redrawn w2 d) os) h1 h2)))
        refine wp_region_quiet_below (by kernel_rfl) (by kernel_rfl) ?_
        repeat (first | go_big_quiet_step (first | exact c1.out _ _ _ | exact c2.out _ _ _ (by omega) (by omega)) | quiet_step (first | exact c1.out _ _ _ | exact c2.out _ _ _ (by omega) (by omega)))
        refine wpQuiet_nil ?_
        intro _ hw'
        obtain ⟨⟨dq, osq⟩, hw''⟩ := hw'
        subst hw''
        have hb3 := below_regrown w2 dq osq
        clear r1 r2 r3 r4 r5
        generalize grow (redrawn w2 dq) osq = w3 at *
        have hB3 := Below.then hB2 hb3
        replace zb := zb.below hb3
        replace sb := sb.below hb3
        clear hb3 z0 z1 z2 z3 t0 t1 t2 hB2 c1 c2
        obtain ⟨z0, z1, z2, z3⟩ := Lib.hid zb |>.out
        obtain ⟨t0, t1, t2⟩ := Lib.hid sb |>.out
        go_wp2_with fail
        have r1 := fun d os => cell_regrown z1 d os
        have r2 := fun d os => cell_regrown z2 d os
        have r3 := fun d os => cell_regrown z3 d os
        have r4 := fun d os => cell_regrown t1 d os
        have r5 := fun d os => cell_regrown t2 d os
        have c1 := Lib.hid (fun d os t => Calls.regrown_of (offsetAt_any s o t l a cap (grow (redrawn w3 d) os) hl ((hA.out _ hB3).below (below_regrown w3 d os))))
        have c2 := Lib.hid (fun d os t h1 h2 => Calls.regrown_of (same_below (split_any t (grow (redrawn w3 d) os) h1 h2)))
        refine wp_region_quiet_below (by kernel_rfl) (by kernel_rfl) ?_
        repeat (first | go_big_quiet_step (first | exact c1.out _ _ _ | exact c2.out _ _ _ (by omega) (by omega)) | quiet_step (first | exact c1.out _ _ _ | exact c2.out _ _ _ (by omega) (by omega)))
        refine wpQuiet_nil ?_
        intro _ hw'
        obtain ⟨⟨dq, osq⟩, hw''⟩ := hw'
        subst hw''
        have hb4 := below_regrown w3 dq osq
        go_wp2_with fail
        go_ret3
        exact ⟨ret_int3 (by rw [hz.out]) (by rw [hz.out]) (by rw [hz.out]), Below.then hB3 hb4⟩
  · have hz := Lib.hid (show daysZ s.data.toList o l x y = (0, 0, valZone s.data.toList o l) from by simp [daysZ, hv])
    have hn : (valZone s.data.toList o l != 0) = true := by simpa using hv
    clear hv
    go_wp2_with fail
    go_ret3
    exact ⟨ret_int3 (by rw [hz.out]) (by rw [hz.out]) (by rw [hz.out]), hB1⟩
set_option maxHeartbeats 800000 in
theorem LocalDaysR_any (s : ByteArray) (o x y : Int) (l : List (Int × Int)) (a : Option Addr) (cap : Nat) (w : World) (hs : s.size ≤ maxLen) (hl : l.length ≤ 1000000) (ha : ShAt w a l) :
    Calls Try.prog 22 #[.agg #[.string s, .int .i64 o, .slice a l.length cap], .agg #[.int .i64 x, .int .i64 y]] w fun e w' => e = .returned (.tuple #[.int .i64 (daysZ s.data.toList o l x y).1, .int .i64 (daysZ s.data.toList o l x y).2.1, .int .i64 (daysZ s.data.toList o l x y).2.2]) ∧ Below w.heap.size w w' := by
  have hA := Lib.hid (fun W (h : Below w.heap.size w W) => ha.below h)
  clear ha
  go_enter Try.func22, Try.ntmps22
  go_wp2_with fail
  obtain ⟨zb, sb, hbW⟩ := boxes w s o a l.length cap x y
  generalize ((w.alloc (Obj.cells #[Value.string s, Value.int IntKind.i64 o, Value.slice a l.length cap] 24)).alloc (Obj.cells #[Value.int IntKind.i64 x, Value.int IntKind.i64 y] 35)) = W at *
  refine (validateR_any s o l a cap _ hs hl (hA.out _ hbW)).mono ?_
  rintro e w1 ⟨rfl, hb1⟩
  have hB1 := Below.then hbW hb1
  replace zb := zb.below hb1
  replace sb := sb.below hb1
  obtain ⟨z0, z1, z2, z3⟩ := Lib.hid zb |>.out
  obtain ⟨t0, t1, t2⟩ := Lib.hid sb |>.out
  clear hb1 hbW
  clear W
  by_cases hv : valZone s.data.toList o l = 0
  · have hv0 := Lib.hid hv
    have hn : (valZone s.data.toList o l != 0) = false := by simpa using hv
    cases hi : spnB x y
    · have hz := Lib.hid (show daysZ s.data.toList o l x y = (0, 0, 5) from by simp [daysZ, hv, hi])
      clear hv
      go_wp2_with (go_at_call 41; refine (spanR_any _ _ _).mono ?_; rintro e w2 ⟨rfl, hb2⟩)
      go_ret3
      exact ⟨ret_int3 (by rw [hz.out]) (by rw [hz.out]) (by rw [hz.out]), Below.then hB1 hb2⟩
    · by_cases he : x = y
      · have hz := Lib.hid (show daysZ s.data.toList o l x y = (0, 0, 8) from by unfold daysZ; rw [if_neg (by simp [hv]), if_neg (by simp [hi]), if_pos he])
        have he' : (x == y) = true := by simpa using he
        clear hv he
        go_wp2_with fail
        refine (spanR_any _ _ _).mono ?_
        rintro e w2 ⟨rfl, hb2⟩
        obtain ⟨hc, hf⟩ := bcell hb2
        go_wp2_with fail
        go_ret3
        exact ⟨ret_int3 (by rw [hz.out]) (by rw [hz.out]) (by rw [hz.out]), Below.then hB1 hb2⟩
      · have hz := Lib.hid (show daysZ s.data.toList o l x y = ((x + offP o l x) / 1440, (y - 1 + offP o l (y - 1)) / 1440, 0) from by simp [daysZ, hv, hi, he])
        have he' : (x == y) = false := by simpa using he
        have hsp := spnB_iff hi
        have ho1 := off_bd hv x
        have ho2 := off_bd hv (y - 1)
        clear hv 
        go_wp2_with fail
        refine (spanR_any _ _ _).mono ?_
        rintro e w2 ⟨rfl, hb2⟩
        have hB2 := Below.then hB1 hb2
        replace zb := zb.below hb2
        replace sb := sb.below hb2
        clear hb2 z0 z1 z2 z3 t0 t1 t2 hB1
        clear w1
        obtain ⟨z0, z1, z2, z3⟩ := Lib.hid zb |>.out
        obtain ⟨t0, t1, t2⟩ := Lib.hid sb |>.out
        go_wp2_with fail
        refine (LocalTimeR_any s o x l a cap _ hs hl (hA.out _ hB2)).mono ?_
        rintro e w3 ⟨rfl, hb3⟩
        have hB3 := Below.then hB2 hb3
        replace zb := zb.below hb3
        replace sb := sb.below hb3
        clear hb3 z0 z1 z2 z3 t0 t1 t2 hB2
        obtain ⟨z0, z1, z2, z3⟩ := Lib.hid zb |>.out
        obtain ⟨t0, t1, t2⟩ := Lib.hid sb |>.out
        have k1 := Lib.hid (locTimeZ_ok (t := x) hv0.out (by omega))
        have k2 := Lib.hid (locTimeZ_ok (t := y - 1) hv0.out (by omega))
        go_wp2_with fail
        refine (LocalTimeR_any s o (y - 1) l a cap _ hs hl (hA.out _ hB3)).mono ?_
        rintro e w4 ⟨rfl, hb4⟩
        go_wp2_with fail
        go_ret3
        exact ⟨ret_int3 (by rw [hz.out, k1.out]) (by rw [hz.out, k2.out]) (by rw [hz.out]), Below.then hB3 hb4⟩
  · have hz := Lib.hid (show daysZ s.data.toList o l x y = (0, 0, valZone s.data.toList o l) from by simp [daysZ, hv])
    have hn : (valZone s.data.toList o l != 0) = true := by simpa using hv
    clear hv
    go_wp2_with fail
    go_ret3
    exact ⟨ret_int3 (by rw [hz.out]) (by rw [hz.out]) (by rw [hz.out]), hB1⟩
end Go.Proofs.Ytdjhoelbnnljjaa
