/- merged texts: ZW7 -/
import Derived.Test.YtpgbckgjlgecpaaGreatG4
/- zone: by conv.py from the texts of the zone seat -/
namespace Go.Proofs.YtpgbckgjlgecpaaGreat
open Go.RowKit Go.Sort
set_option linter.unusedSimpArgs false
set_option linter.unusedVariables false
set_option maxRecDepth 100000

def bandErr (nm : List UInt8) (o : Int) (l : List (Int × Int)) (x y fr to : Int) : Int :=
  if valZone nm o l ≠ 0 then valZone nm o l else if (spnB x y && clkB fr && clkB to) = false then 5 else 0
def bandMinZ (nm : List UInt8) (o : Int) (l : List (Int × Int)) (x y fr to : Int) : Int × Int :=
  if bandErr nm o l x y fr to ≠ 0 then (0, bandErr nm o l x y fr to) else (cntTo (inB o l fr to) x (y - x).toNat, 0)
def nightsZ (nm : List UInt8) (o : Int) (l : List (Int × Int)) (x y fr to : Int) : Int × Int :=
  if bandErr nm o l x y fr to ≠ 0 then (0, bandErr nm o l x y fr to) else (if bandLen fr to = 0 then 0 else nightEnd (inB o l fr to) x (bandLen fr to) (y - x).toNat, 0)
theorem bandErr_ok {nm : List UInt8} {o : Int} {l : List (Int × Int)} {x y fr to : Int} (h : bandErr nm o l x y fr to = 0) : valZone nm o l = 0 ∧ (0 ≤ x ∧ x ≤ y ∧ y ≤ 52596000) ∧ (0 ≤ fr ∧ fr < 1440) ∧ (0 ≤ to ∧ to < 1440) := by
  unfold bandErr at h
  split at h
  · rename_i h1; exact absurd h h1
  split at h
  · omega
  · rename_i h1 h2
    have h2' : (spnB x y && clkB fr && clkB to) = true := Bool.not_eq_false _ |>.mp h2
    simp only [Bool.and_eq_true] at h2'
    exact ⟨by simpa using h1, spnB_iff h2'.1.1, clkB_iff h2'.1.2, clkB_iff h2'.2⟩
theorem bandMinZ_ok {nm : List UInt8} {o : Int} {l : List (Int × Int)} {x y fr to : Int} (h : bandErr nm o l x y fr to = 0) : bandMinZ nm o l x y fr to = (cntTo (inB o l fr to) x (y - x).toNat, 0) := if_neg (by simp [h])
theorem nightsZ_ok {nm : List UInt8} {o : Int} {l : List (Int × Int)} {x y fr to : Int} (h : bandErr nm o l x y fr to = 0) : nightsZ nm o l x y fr to = (if bandLen fr to = 0 then 0 else nightEnd (inB o l fr to) x (bandLen fr to) (y - x).toNat, 0) := if_neg (by simp [h])

set_option maxHeartbeats 800000 in
theorem checkBand_any (s : ByteArray) (o x y fr to : Int) (l : List (Int × Int)) (a : Option Addr) (cap : Nat) (w : World) (hs : s.size ≤ maxLen) (hl : l.length ≤ 1000000) (ha : ShAt w a l) :
    Calls Tryz.prog 190 #[.agg #[.string s, .int .i64 o, .slice a l.length cap], .agg #[.int .i64 x, .int .i64 y], .int .i64 fr, .int .i64 to] w fun e w' => e = .returned (.int .i64 (bandErr s.data.toList o l x y fr to)) ∧ Below w.heap.size w w' := by
  have hA := Lib.hid (fun W (h : Below w.heap.size w W) => ha.below h)
  clear ha
  go_enter Tryz.func190, Tryz.ntmps190
  go_wp2_with fail
  obtain ⟨zb, sb, hbW⟩ := boxes w s o a l.length cap x y
  generalize ((w.alloc (Obj.cells #[Value.string s, Value.int IntKind.i64 o, Value.slice a l.length cap] 85)).alloc (Obj.cells #[Value.int IntKind.i64 x, Value.int IntKind.i64 y] 50)) = W at *
  refine (validate_any s o l a cap _ hs hl (hA.out _ hbW)).mono ?_
  rintro e w1 ⟨rfl, hb1⟩
  have hB1 := Below.then hbW hb1
  replace sb := sb.below hb1
  obtain ⟨t0, t1, t2⟩ := Lib.hid sb |>.out
  clear hb1 hbW zb
  clear W
  by_cases hv : valZone s.data.toList o l = 0
  · have hn : (valZone s.data.toList o l != 0) = false := by simpa using hv
    cases hi : spnB x y
    · have hz := Lib.hid (show bandErr s.data.toList o l x y fr to = 5 from by simp [bandErr, hv, hi])
      clear hv
      go_wp2_with (first | (go_at_call 171; refine (span_any _ _ _).mono ?_; rintro e w2 ⟨rfl, hb2⟩) | (go_at_call 215; refine (clock_any _ _).mono ?_; rintro e w' ⟨rfl, rfl⟩))
      go_ret
      exact ⟨ret_int hz.out.symm, Below.then hB1 hb2⟩
    cases hj : clkB fr
    · have hz := Lib.hid (show bandErr s.data.toList o l x y fr to = 5 from by simp [bandErr, hv, hi, hj])
      clear hv
      go_wp2_with (first | (go_at_call 171; refine (span_any _ _ _).mono ?_; rintro e w2 ⟨rfl, hb2⟩) | (go_at_call 215; refine (clock_any _ _).mono ?_; rintro e w' ⟨rfl, rfl⟩))
      go_ret
      exact ⟨ret_int hz.out.symm, Below.then hB1 hb2⟩
    cases hk : clkB to
    · have hz := Lib.hid (show bandErr s.data.toList o l x y fr to = 5 from by simp [bandErr, hv, hi, hj, hk])
      clear hv
      go_wp2_with (first | (go_at_call 171; refine (span_any _ _ _).mono ?_; rintro e w2 ⟨rfl, hb2⟩) | (go_at_call 215; refine (clock_any _ _).mono ?_; rintro e w' ⟨rfl, rfl⟩))
      go_ret
      exact ⟨ret_int hz.out.symm, Below.then hB1 hb2⟩
    · have hz := Lib.hid (show bandErr s.data.toList o l x y fr to = 0 from by simp [bandErr, hv, hi, hj, hk])
      clear hv
      go_wp2_with (first | (go_at_call 171; refine (span_any _ _ _).mono ?_; rintro e w2 ⟨rfl, hb2⟩) | (go_at_call 215; refine (clock_any _ _).mono ?_; rintro e w' ⟨rfl, rfl⟩))
      go_ret
      exact ⟨ret_int hz.out.symm, Below.then hB1 hb2⟩
  · have hz := Lib.hid (show bandErr s.data.toList o l x y fr to = valZone s.data.toList o l from by simp [bandErr, hv])
    have hn : (valZone s.data.toList o l != 0) = true := by simpa using hv
    clear hv
    go_wp2_with fail
    go_ret
    exact ⟨ret_int hz.out.symm, hB1⟩

set_option maxHeartbeats 800000 in
theorem bandRef_any (s : ByteArray) (o x y fr to : Int) (l : List (Int × Int)) (a : Option Addr) (cap : Nat) (w : World) (hs : s.size ≤ maxLen) (hl : l.length ≤ 1000000) (ha : ShAt w a l) :
    Calls Tryz.prog 167 #[.agg #[.string s, .int .i64 o, .slice a l.length cap], .agg #[.int .i64 x, .int .i64 y], .int .i64 fr, .int .i64 to] w fun e w' => e = .returned (.int .i64 (bandErr s.data.toList o l x y fr to)) ∧ Below w.heap.size w w' := by
  have hA := Lib.hid (fun W (h : Below w.heap.size w W) => ha.below h)
  clear ha
  go_enter Tryz.func167, Tryz.ntmps167
  go_wp2_with fail
  obtain ⟨zb, sb, hbW⟩ := boxes w s o a l.length cap x y
  generalize ((w.alloc (Obj.cells #[Value.string s, Value.int IntKind.i64 o, Value.slice a l.length cap] 85)).alloc (Obj.cells #[Value.int IntKind.i64 x, Value.int IntKind.i64 y] 50)) = W at *
  refine (validateR_any s o l a cap _ hs hl (hA.out _ hbW)).mono ?_
  rintro e w1 ⟨rfl, hb1⟩
  have hB1 := Below.then hbW hb1
  replace sb := sb.below hb1
  obtain ⟨t0, t1, t2⟩ := Lib.hid sb |>.out
  clear hb1 hbW zb
  clear W
  by_cases hv : valZone s.data.toList o l = 0
  · have hn : (valZone s.data.toList o l != 0) = false := by simpa using hv
    cases hi : spnB x y
    · have hz := Lib.hid (show bandErr s.data.toList o l x y fr to = 5 from by simp [bandErr, hv, hi])
      clear hv
      go_wp2_with (first | (go_at_call 174; refine (spanR_any _ _ _).mono ?_; rintro e w2 ⟨rfl, hb2⟩))
      go_ret
      exact ⟨ret_int hz.out.symm, Below.then hB1 hb2⟩
    by_cases hc : (0 ≤ fr ∧ fr < 1440) ∧ (0 ≤ to ∧ to < 1440)
    · have hz := Lib.hid (show bandErr s.data.toList o l x y fr to = 0 from by simp [bandErr, hv, hi, clkB]; omega)
      obtain ⟨⟨h1, h2⟩, h3, h4⟩ := hc
      clear hv
      go_wp2_with (first | (go_at_call 174; refine (spanR_any _ _ _).mono ?_; rintro e w2 ⟨rfl, hb2⟩))
      go_ret
      exact ⟨ret_int hz.out.symm, Below.then hB1 hb2⟩
    · have hz := Lib.hid (show bandErr s.data.toList o l x y fr to = 5 from by simp [bandErr, hv, hi, clkB]; omega)
      clear hv
      by_cases h1 : fr < 0
      · go_wp2_with (first | (go_at_call 174; refine (spanR_any _ _ _).mono ?_; rintro e w2 ⟨rfl, hb2⟩))
        go_ret
        exact ⟨ret_int hz.out.symm, Below.then hB1 hb2⟩
      by_cases h2 : 1439 < fr
      · go_wp2_with (first | (go_at_call 174; refine (spanR_any _ _ _).mono ?_; rintro e w2 ⟨rfl, hb2⟩))
        go_ret
        exact ⟨ret_int hz.out.symm, Below.then hB1 hb2⟩
      by_cases h3 : to < 0
      · go_wp2_with (first | (go_at_call 174; refine (spanR_any _ _ _).mono ?_; rintro e w2 ⟨rfl, hb2⟩))
        go_ret
        exact ⟨ret_int hz.out.symm, Below.then hB1 hb2⟩
      · have h4 : 1439 < to := by omega
        go_wp2_with (first | (go_at_call 174; refine (spanR_any _ _ _).mono ?_; rintro e w2 ⟨rfl, hb2⟩))
        go_ret
        exact ⟨ret_int hz.out.symm, Below.then hB1 hb2⟩
  · have hz := Lib.hid (show bandErr s.data.toList o l x y fr to = valZone s.data.toList o l from by simp [bandErr, hv])
    have hn : (valZone s.data.toList o l != 0) = true := by simpa using hv
    clear hv
    go_wp2_with fail
    go_ret
    exact ⟨ret_int hz.out.symm, hB1⟩

/-- the cells of a row of runs -/
def RunRow (w : World) (g : Nat) (R : List (Int × Int)) : Prop :=
  g < w.heap.size ∧ ∀ k, k < R.length → w.cell? ⟨g, k * 2, none⟩ = some (.int .i64 (runAt R k).1) ∧ w.cell? ⟨g, k * 2 + 1, none⟩ = some (.int .i64 (runAt R k).2)
theorem RunRow.below {w w' : World} {g : Nat} {R : List (Int × Int)} (h : RunRow w g R) (hb : Below w.heap.size w w') : RunRow w' g R :=
  ⟨Nat.lt_of_lt_of_le h.1 hb.size, fun k hk => ⟨(hb.cell (p := ⟨g, k * 2, none⟩) h.1).trans (h.2 k hk).1, (hb.cell (p := ⟨g, k * 2 + 1, none⟩) h.1).trans (h.2 k hk).2⟩⟩
theorem runs_of_own {w : World} {base : Nat} {v : Value} {R : List (Int × Int)} (h : w.ownsRow base 50 2 v R.length (runCells R)) :
    (v = .slice none 0 0 ∧ R = []) ∨ ∃ g cap, v = .slice (some ⟨g, 0, none⟩) R.length cap ∧ RunRow w g R := by
  rcases h.2 with ⟨hv, hn⟩ | ⟨g, cap, cur, hv, hr⟩
  · exact .inl ⟨hv, List.length_eq_zero_iff.1 hn⟩
  · have hown : v.ownBlock = some g := by rw [hv]; rfl
    have hlt := (h.lt g hown).2
    have hc := h.cells hown
    refine .inr ⟨g, cap, hv, hlt, fun k hk => ?_⟩
    obtain ⟨h1, h2⟩ := runCells_at R k hk
    have c1 := hc _ _ h1
    have c2 := hc _ _ h2
    rw [add_zero_off] at c1 c2
    exact ⟨c1, c2⟩
theorem addRun_le (R : List (Int × Int)) (a b : Int) : (addRun R a b).length ≤ R.length + 1 := by unfold addRun; split <;> simp
theorem runsTo_len (S : Int → Bool) (x : Int) : ∀ n : Nat, (runsTo S x n).length ≤ n := by
  intro n
  induction n with
  | zero => simp [runsTo]
  | succ n ih => rw [runsTo]; split; exact Nat.le_trans (addRun_le _ _ _) (by omega); omega
theorem bandLen_none {o : Int} {l : List (Int × Int)} {fr to x : Int} {n : Nat} (h : bandLen fr to = 0) (hf : 0 ≤ fr ∧ fr < 1440) (ht : 0 ≤ to ∧ to < 1440) : runsTo (inB o l fr to) x n = [] := by
  have := runsTo_skip (S := inB o l fr to) (x := x) 0 n (fun t _ _ => by
    unfold inB
    rw [bandB_mod (by omega) hf ht, h]
    simp; omega)
  simpa [runsTo] using this
/-- all that the walks want of the runs -/
theorem runs_facts {nm : List UInt8} {o : Int} {l : List (Int × Int)} {x y fr to : Int} (h : bandErr nm o l x y fr to = 0) :
    bandZ o l x y fr to = runsTo (inB o l fr to) x (y - x).toNat ∧ (bandZ o l x y fr to).length ≤ 52596000 ∧
    (∀ k, k < (bandZ o l x y fr to).length → 0 ≤ (runAt (bandZ o l x y fr to) k).1 ∧ (runAt (bandZ o l x y fr to) k).1 < (runAt (bandZ o l x y fr to) k).2 ∧ (runAt (bandZ o l x y fr to) k).2 ≤ 52596000) ∧
    (∀ k, k ≤ (bandZ o l x y fr to).length → 0 ≤ sumTo (bandZ o l x y fr to) k ∧ sumTo (bandZ o l x y fr to) k ≤ 52596000) := by
  obtain ⟨hv, ⟨h1, h2, h3⟩, hf, ht⟩ := bandErr_ok h
  have e : bandZ o l x y fr to = runsTo (inB o l fr to) x (y - x).toNat := bandZ_runs hv h1 h2 h3 hf ht
  have hin := runsTo_in (inB o l fr to) x (y - x).toNat
  have hsum := runsTo_sum (inB o l fr to) x (y - x).toNat
  have hcnt := cntTo_bd (inB o l fr to) x (y - x).toNat
  have hlen := runsTo_len (inB o l fr to) x (y - x).toNat
  rw [e]
  generalize runsTo (inB o l fr to) x (y - x).toNat = R at *
  refine ⟨rfl, by omega, fun k hk => by have := hin k hk; omega, fun k hk => ?_⟩
  have m1 := sumTo_mono (fun j hj => (hin j hj).2.1) 0 k (Nat.zero_le _) hk
  have m2 := sumTo_mono (fun j hj => (hin j hj).2.1) k R.length hk (Nat.le_refl _)
  simp only [sumTo] at m1
  omega

set_option maxHeartbeats 800000 in
theorem BandMinutes_any (s : ByteArray) (o x y fr to : Int) (l : List (Int × Int)) (a : Option Addr) (cap : Nat) (w : World) (hs : s.size ≤ maxLen) (hl : l.length ≤ 1000000) (ha : ShAt w a l) :
    Calls Tryz.prog 145 #[.agg #[.string s, .int .i64 o, .slice a l.length cap], .agg #[.int .i64 x, .int .i64 y], .int .i64 fr, .int .i64 to] w fun e w' => e = .returned (.tuple #[.int .i64 (bandMinZ s.data.toList o l x y fr to).1, .int .i64 (bandMinZ s.data.toList o l x y fr to).2]) ∧ Below w.heap.size w w' := by
  have hA := Lib.hid (fun W (h : Below w.heap.size w W) => ha.below h)
  clear ha
  go_enter Tryz.func145, Tryz.ntmps145
  go_wp2_with fail
  obtain ⟨zb, sb, hbW⟩ := boxes w s o a l.length cap x y
  generalize ((w.alloc (Obj.cells #[Value.string s, Value.int IntKind.i64 o, Value.slice a l.length cap] 85)).alloc (Obj.cells #[Value.int IntKind.i64 x, Value.int IntKind.i64 y] 50)) = W at *
  refine (checkBand_any s o x y fr to l a cap _ hs hl (hA.out _ hbW)).mono ?_
  rintro e w1 ⟨rfl, hb1⟩
  have hB1 := Below.then hbW hb1
  replace sb := sb.below hb1
  replace zb := zb.below hb1
  obtain ⟨t0, t1, t2⟩ := Lib.hid sb |>.out
  obtain ⟨z0, z1, z2, z3⟩ := Lib.hid zb |>.out
  clear hb1 hbW
  clear W
  by_cases hv : bandErr s.data.toList o l x y fr to = 0
  · have hn : (bandErr s.data.toList o l x y fr to != 0) = false := by simpa using hv
    obtain ⟨hvz, ⟨h1, h2, h3⟩, hf, ht⟩ := bandErr_ok hv
    obtain ⟨f1, f2, f3, f4⟩ := runs_facts hv
    have hzz := Lib.hid (bandMinZ_ok hv)
    have hvz := Lib.hid hvz
    have Hf := Lib.hid hf
    have Ht := Lib.hid ht
    clear hv hf ht
    go_wp2_with fail
    refine (bandRuns_any s o x y fr to l a cap _ hl (hA.out _ hB1) hvz.out Hf.out Ht.out).mono ?_
    rintro e w2 ⟨v, rfl, hown, hb2⟩
    have hB2 := Below.then hB1 hb2
    clear hb2 z0 z1 z2 z3 t0 t1 t2 zb sb hB1
    generalize hR : bandZ o l x y fr to = R at *
    clear hR
    have F1 := Lib.hid f1
    have F3 := Lib.hid f3
    have F4 := Lib.hid f4
    clear f1 f3 f4
    have hfin : Hid ((bandMinZ s.data.toList o l x y fr to).1 = sumTo R R.length ∧ (bandMinZ s.data.toList o l x y fr to).2 = 0) := Lib.hid (by
      rw [hzz.out]
      refine ⟨?_, rfl⟩
      rw [F1.out, runsTo_sum])
    rcases runs_of_own hown with ⟨rfl, rfl⟩ | ⟨g, cap', rfl, hrow⟩
    · clear hown
      go_wp2_with fail
      go_loop [13, 34] (fun m i => m = .int .i64 0 ∧ i = .int .i64 0) (fun _ _ => 0)
      case atStart => exact ⟨rfl, rfl⟩
      case round =>
        obtain ⟨rfl, rfl⟩ := hrel
        go_wp2
        go_ret2
        exact ⟨ret_int2 (by rw [hfin.out.1]; rfl) (by rw [hfin.out.2]), hB2⟩
    clear hown
    go_wp2_with fail
    go_loopw [13, 34] (fun m i wr => ∃ k : Nat, k ≤ R.length ∧ i = .int .i64 k ∧ m = .int .i64 (sumTo R k) ∧ Below w2.heap.size w2 wr) (fun _ i _ => R.length - (intOf i).toNat)
    case atStart => exact ⟨0, Nat.zero_le _, rfl, rfl, Below.refl _ _⟩
    case round =>
      obtain ⟨k, hk, rfl, rfl, hbel⟩ := hrel
      by_cases hlt : k < R.length
      · obtain ⟨c1, c2⟩ := (hrow.below hbel).2 k hlt
        have hgr := (hrow.below hbel).1
        have b1 := F3.out k hlt
        have b2 := F4.out k (by omega)
        have b3 := F4.out (k + 1) (by omega)
        have hst := Lib.hid (show sumTo R (k + 1) = sumTo R k + ((runAt R k).2 - (runAt R k).1) from rfl)
        go_wp2_with fail
        go_roundw
        case rel => exact ⟨k + 1, by omega, by go_num, by rw [hst.out], hbel.alloc hbel.size _⟩
        case measure => simp [intOf]; omega
      · obtain rfl : k = R.length := by omega
        go_wp2_with fail
        go_ret2
        exact ⟨ret_int2 (by rw [hfin.out.1]) (by rw [hfin.out.2]), Below.then hB2 hbel⟩
  · have hz := Lib.hid (show bandMinZ s.data.toList o l x y fr to = (0, bandErr s.data.toList o l x y fr to) from by simp [bandMinZ, hv])
    have hn : (bandErr s.data.toList o l x y fr to != 0) = true := by simpa using hv
    clear hv
    go_wp2_with fail
    go_ret2
    exact ⟨ret_int2 (by rw [hz.out]) (by rw [hz.out]), hB1⟩

set_option maxHeartbeats 800000 in
theorem Nights_any (s : ByteArray) (o x y fr to : Int) (l : List (Int × Int)) (a : Option Addr) (cap : Nat) (w : World) (hs : s.size ≤ maxLen) (hl : l.length ≤ 1000000) (ha : ShAt w a l) :
    Calls Tryz.prog 166 #[.agg #[.string s, .int .i64 o, .slice a l.length cap], .agg #[.int .i64 x, .int .i64 y], .int .i64 fr, .int .i64 to] w fun e w' => e = .returned (.tuple #[.int .i64 (nightsZ s.data.toList o l x y fr to).1, .int .i64 (nightsZ s.data.toList o l x y fr to).2]) ∧ Below w.heap.size w w' := by
  have hA := Lib.hid (fun W (h : Below w.heap.size w W) => ha.below h)
  clear ha
  go_enter Tryz.func166, Tryz.ntmps166
  go_wp2_with fail
  obtain ⟨zb, sb, hbW⟩ := boxes w s o a l.length cap x y
  generalize ((w.alloc (Obj.cells #[Value.string s, Value.int IntKind.i64 o, Value.slice a l.length cap] 85)).alloc (Obj.cells #[Value.int IntKind.i64 x, Value.int IntKind.i64 y] 50)) = W at *
  refine (checkBand_any s o x y fr to l a cap _ hs hl (hA.out _ hbW)).mono ?_
  rintro e w1 ⟨rfl, hb1⟩
  have hB1 := Below.then hbW hb1
  replace sb := sb.below hb1
  replace zb := zb.below hb1
  obtain ⟨t0, t1, t2⟩ := Lib.hid sb |>.out
  obtain ⟨z0, z1, z2, z3⟩ := Lib.hid zb |>.out
  clear hb1 hbW
  clear W
  by_cases hv : bandErr s.data.toList o l x y fr to = 0
  · have hn : (bandErr s.data.toList o l x y fr to != 0) = false := by simpa using hv
    obtain ⟨hvz, ⟨h1, h2, h3⟩, hf, ht⟩ := bandErr_ok hv
    obtain ⟨f1, f2, f3, f4⟩ := runs_facts hv
    have hzz := Lib.hid (nightsZ_ok hv)
    have hvz := Lib.hid hvz
    have Hf := Lib.hid hf
    have Ht := Lib.hid ht
    clear hv hf ht
    go_wp2_with fail
    refine (bandRuns_any s o x y fr to l a cap _ hl (hA.out _ hB1) hvz.out Hf.out Ht.out).mono ?_
    rintro e w2 ⟨v, rfl, hown, hb2⟩
    have hB2 := Below.then hB1 hb2
    clear hb2 z0 z1 z2 z3 t0 t1 t2 zb sb hB1
    generalize hR : bandZ o l x y fr to = R at *
    clear hR
    have F1 := Lib.hid f1
    have F3 := Lib.hid f3
    have F4 := Lib.hid f4
    clear f1 f3 f4
    have hfin : Hid ((nightsZ s.data.toList o l x y fr to).1 = longTo R (bandLen fr to) R.length ∧ (nightsZ s.data.toList o l x y fr to).2 = 0) := Lib.hid (by
      rw [hzz.out]
      refine ⟨?_, rfl⟩
      by_cases h0 : bandLen fr to = 0
      · rw [if_pos h0, F1.out, bandLen_none h0 Hf.out Ht.out]; rfl
      · rw [if_neg h0, F1.out, nightEnd_runs])
    rcases runs_of_own hown with ⟨rfl, rfl⟩ | ⟨g, cap', rfl, hrow⟩
    · clear hown
      go_wp2_with fail
      go_loop [13, 34] (fun m i => m = .int .i64 0 ∧ i = .int .i64 0) (fun _ _ => 0)
      case atStart => exact ⟨rfl, rfl⟩
      case round =>
        obtain ⟨rfl, rfl⟩ := hrel
        go_wp2
        go_ret2
        exact ⟨ret_int2 (by rw [hfin.out.1]; rfl) (by rw [hfin.out.2]), hB2⟩
    clear hown
    go_wp2_with fail
    go_loopw [13, 34] (fun m i wr => ∃ k : Nat, k ≤ R.length ∧ i = .int .i64 k ∧ m = .int .i64 (longTo R (bandLen fr to) k) ∧ Below w2.heap.size w2 wr) (fun _ i _ => R.length - (intOf i).toNat)
    case atStart => exact ⟨0, Nat.zero_le _, rfl, rfl, Below.refl _ _⟩
    case round =>
      obtain ⟨k, hk, rfl, rfl, hbel⟩ := hrel
      by_cases hlt : k < R.length
      · obtain ⟨c1, c2⟩ := (hrow.below hbel).2 k hlt
        have hgr := (hrow.below hbel).1
        have b1 := F3.out k hlt
        have b2 := F4.out k (by omega)
        have b3 := F4.out (k + 1) (by omega)
        have b4 := longTo_bd R (bandLen fr to) k
        by_cases hlong : bandLen fr to ≤ (runAt R k).2 - (runAt R k).1
        · have hst := Lib.hid (show longTo R (bandLen fr to) (k + 1) = longTo R (bandLen fr to) k + 1 from by rw [longTo, if_pos hlong])
          go_wp2_with fail
          go_roundw
          case rel => exact ⟨k + 1, by omega, by go_num, by rw [hst.out], hbel.alloc hbel.size _⟩
          case measure => simp [intOf]; omega
        · have hst := Lib.hid (show longTo R (bandLen fr to) (k + 1) = longTo R (bandLen fr to) k from by rw [longTo, if_neg hlong]; omega)
          go_wp2_with fail
          go_roundw
          case rel => exact ⟨k + 1, by omega, by go_num, by rw [hst.out], hbel.alloc hbel.size _⟩
          case measure => simp [intOf]; omega
      · obtain rfl : k = R.length := by omega
        go_wp2_with fail
        go_ret2
        exact ⟨ret_int2 (by rw [hfin.out.1]) (by rw [hfin.out.2]), Below.then hB2 hbel⟩
  · have hz := Lib.hid (show nightsZ s.data.toList o l x y fr to = (0, bandErr s.data.toList o l x y fr to) from by simp [nightsZ, hv])
    have hn : (bandErr s.data.toList o l x y fr to != 0) = true := by simpa using hv
    clear hv
    go_wp2_with fail
    go_ret2
    exact ⟨ret_int2 (by rw [hz.out]) (by rw [hz.out]), hB1⟩
theorem inB_ref {nm : List UInt8} {o : Int} {l : List (Int × Int)} (h : valZone nm o l = 0) (fr to t : Int) : bandB ((t + offR o l t) % 1440) fr to = inB o l fr to t := by
  rw [← offP_eq_offR l none o t (valZone_zero h).2.2.2]; rfl
/-- where the reference's loop over the minutes stands -/
def NightAt (S : Int → Bool) (x ln : Int) (N k : Nat) (p : Int × Int) : Prop := (k ≤ N ∧ p = nightTo S x ln k) ∨ (k = N + 1 ∧ p.1 = nightEnd S x ln N)
theorem NightAt.yes {S : Int → Bool} {x ln : Int} {N k : Nat} {p : Int × Int} (h : NightAt S x ln N k p) (hk : k < N) (hb : S (x + k) = true) : NightAt S x ln N (k + 1) (p.1, p.2 + 1) := by
  rcases h with ⟨_, rfl⟩ | ⟨h, _⟩
  · exact .inl ⟨by omega, by rw [nightTo, if_pos hb]⟩
  · omega
theorem NightAt.no {S : Int → Bool} {x ln : Int} {N k : Nat} {p : Int × Int} (h : NightAt S x ln N k p) (hk : k < N) (hb : S (x + k) = false) : NightAt S x ln N (k + 1) (p.1 + (if ln ≤ p.2 ∧ 0 < p.2 then 1 else 0), 0) := by
  rcases h with ⟨_, rfl⟩ | ⟨h, _⟩
  · exact .inl ⟨by omega, by rw [nightTo]; exact (if_neg (by rw [hb]; decide)).symm⟩
  · omega
theorem NightAt.close {S : Int → Bool} {x ln : Int} {N : Nat} {p : Int × Int} (h : NightAt S x ln N N p) : NightAt S x ln N (N + 1) (p.1 + (if ln ≤ p.2 ∧ 0 < p.2 then 1 else 0), 0) := by
  rcases h with ⟨_, rfl⟩ | ⟨h, _⟩
  · exact .inr ⟨rfl, rfl⟩
  · omega
theorem NightAt.fin {S : Int → Bool} {x ln : Int} {N k : Nat} {p : Int × Int} (h : NightAt S x ln N k p) (hk : N < k) : p.1 = nightEnd S x ln N := by
  rcases h with ⟨_, _⟩ | ⟨_, h⟩
  · omega
  · exact h
theorem offR_bd {nm : List UInt8} {o : Int} {l : List (Int × Int)} (h : valZone nm o l = 0) (t : Int) : -840 ≤ offR o l t ∧ offR o l t ≤ 840 := by
  rw [← offP_eq_offR l none o t (valZone_zero h).2.2.2]; exact off_bd h t

set_option maxHeartbeats 1600000 in
theorem BandMinutesR_any (s : ByteArray) (o x y fr to : Int) (l : List (Int × Int)) (a : Option Addr) (cap : Nat) (w : World) (hs : s.size ≤ maxLen) (hl : l.length ≤ 1000000) (ha : ShAt w a l) :
    Calls Tryz.prog 148 #[.agg #[.string s, .int .i64 o, .slice a l.length cap], .agg #[.int .i64 x, .int .i64 y], .int .i64 fr, .int .i64 to] w fun e w' => e = .returned (.tuple #[.int .i64 (bandMinZ s.data.toList o l x y fr to).1, .int .i64 (bandMinZ s.data.toList o l x y fr to).2]) ∧ Below w.heap.size w w' := by
  have hA := Lib.hid (fun W (h : Below w.heap.size w W) => ha.below h)
  clear ha
  go_enter Tryz.func148, Tryz.ntmps148
  go_wp2_with fail
  obtain ⟨zb, sb, hbW⟩ := boxes w s o a l.length cap x y
  generalize ((w.alloc (Obj.cells #[Value.string s, Value.int IntKind.i64 o, Value.slice a l.length cap] 85)).alloc (Obj.cells #[Value.int IntKind.i64 x, Value.int IntKind.i64 y] 50)) = W at *
  refine (bandRef_any s o x y fr to l a cap _ hs hl (hA.out _ hbW)).mono ?_
  rintro e w1 ⟨rfl, hb1⟩
  have hB1 := Below.then hbW hb1
  replace sb := sb.below hb1
  replace zb := zb.below hb1
  obtain ⟨t0, t1, t2⟩ := Lib.hid sb |>.out
  obtain ⟨z0, z1, z2, z3⟩ := Lib.hid zb |>.out
  clear hb1 hbW
  clear W
  by_cases hv : bandErr s.data.toList o l x y fr to = 0
  · have hn : (bandErr s.data.toList o l x y fr to != 0) = false := by simpa using hv
    obtain ⟨hvz, ⟨h1, h2, h3⟩, ⟨hf1, hf2⟩, ⟨ht1, ht2⟩⟩ := bandErr_ok hv
    have hzz := Lib.hid (bandMinZ_ok hv)
    have hin := Lib.hid (inB_ref hvz fr to)
    have hob := Lib.hid (offR_bd hvz)
    clear hv hvz
    obtain ⟨N, hN⟩ : ∃ N : Nat, (y - x).toNat = N := ⟨_, rfl⟩
    rw [hN] at hzz
    have hN1 : y - x ≤ N := by omega
    have hN2 : (N : Int) ≤ y - x := by omega
    clear hN
    go_wp2_with fail
    go_loopw [11, 12] (fun m i wr => ∃ k : Nat, k ≤ N ∧ i = .int .i64 (x + k) ∧ m = .int .i64 (cntTo (inB o l fr to) x k) ∧ Below w1.heap.size w1 wr) (fun _ i _ => (y - intOf i).toNat)
    case atStart => exact ⟨0, Nat.zero_le _, by simp, rfl, Below.refl _ _⟩
    case round =>
      obtain ⟨k, hk, rfl, rfl, hbel⟩ := hrel
      obtain ⟨t0, t1, t2⟩ := Lib.hid (sb.below hbel) |>.out
      obtain ⟨z0, z1, z2, z3⟩ := Lib.hid (zb.below hbel) |>.out
      have b1 := cntTo_bd (inB o l fr to) x k
      by_cases hlt : k < N
      · have b2 := hob.out (x + k)
        have hi := Lib.hid (hin.out (x + k))
        have E1 := Lib.hid (show x + (k : Int) + 1 = x + ((k + 1 : Nat) : Int) from by omega)
        cases hb : inB o l fr to (x + k)
        · have hst := Lib.hid (show cntTo (inB o l fr to) x (k + 1) = cntTo (inB o l fr to) x k from by rw [cntTo, if_neg (by rw [hb]; decide)]; omega)
          have hbb : bandB ((x + (k : Int) + offR o l (x + k)) % 1440) fr to = false := hi.out.trans hb
          clear hb
          go_wp2_with (first | (go_at_call 149; refine (offsetRef_any s o _ l a cap _ hl (hA.out _ (Below.then hB1 hbel))).mono ?_; rintro e w2 ⟨rfl, hb2⟩) | (go_at_call 168; refine (splitR_any _ _ (by omega) (by omega)).mono ?_; rintro e w' ⟨rfl, rfl⟩) | (go_at_call 169; refine (band_any _ _ _ _).mono ?_; rintro e w' ⟨rfl, rfl⟩))
          go_roundw
          case rel => exact ⟨k + 1, by omega, by go_num, by rw [hst.out], hbel.trans (hb2.mono hbel.size)⟩
          case measure => simp [intOf]; omega
        · have hst := Lib.hid (show cntTo (inB o l fr to) x (k + 1) = cntTo (inB o l fr to) x k + 1 from by rw [cntTo, if_pos hb])
          have hbb : bandB ((x + (k : Int) + offR o l (x + k)) % 1440) fr to = true := hi.out.trans hb
          clear hb
          go_wp2_with (first | (go_at_call 149; refine (offsetRef_any s o _ l a cap _ hl (hA.out _ (Below.then hB1 hbel))).mono ?_; rintro e w2 ⟨rfl, hb2⟩) | (go_at_call 168; refine (splitR_any _ _ (by omega) (by omega)).mono ?_; rintro e w' ⟨rfl, rfl⟩) | (go_at_call 169; refine (band_any _ _ _ _).mono ?_; rintro e w' ⟨rfl, rfl⟩))
          go_roundw
          case rel => exact ⟨k + 1, by omega, by go_num, by rw [hst.out], hbel.trans (hb2.mono hbel.size)⟩
          case measure => simp [intOf]; omega
      · obtain rfl : k = N := by omega
        go_wp2_with fail
        go_ret2
        exact ⟨ret_int2 (by rw [hzz.out]) (by rw [hzz.out]), Below.then hB1 hbel⟩
  · have hz := Lib.hid (show bandMinZ s.data.toList o l x y fr to = (0, bandErr s.data.toList o l x y fr to) from by simp [bandMinZ, hv])
    have hn : (bandErr s.data.toList o l x y fr to != 0) = true := by simpa using hv
    clear hv
    go_wp2_with fail
    go_ret2
    exact ⟨ret_int2 (by rw [hz.out]) (by rw [hz.out]), hB1⟩

set_option maxHeartbeats 1600000 in
theorem NightsR_any (s : ByteArray) (o x y fr to : Int) (l : List (Int × Int)) (a : Option Addr) (cap : Nat) (w : World) (hs : s.size ≤ maxLen) (hl : l.length ≤ 1000000) (ha : ShAt w a l) :
    Calls Tryz.prog 126 #[.agg #[.string s, .int .i64 o, .slice a l.length cap], .agg #[.int .i64 x, .int .i64 y], .int .i64 fr, .int .i64 to] w fun e w' => e = .returned (.tuple #[.int .i64 (nightsZ s.data.toList o l x y fr to).1, .int .i64 (nightsZ s.data.toList o l x y fr to).2]) ∧ Below w.heap.size w w' := by
  have hA := Lib.hid (fun W (h : Below w.heap.size w W) => ha.below h)
  clear ha
  go_enter Tryz.func126, Tryz.ntmps126
  go_wp2_with fail
  obtain ⟨zb, sb, hbW⟩ := boxes w s o a l.length cap x y
  generalize ((w.alloc (Obj.cells #[Value.string s, Value.int IntKind.i64 o, Value.slice a l.length cap] 85)).alloc (Obj.cells #[Value.int IntKind.i64 x, Value.int IntKind.i64 y] 50)) = W at *
  refine (bandRef_any s o x y fr to l a cap _ hs hl (hA.out _ hbW)).mono ?_
  rintro e w1 ⟨rfl, hb1⟩
  have hB1 := Below.then hbW hb1
  replace sb := sb.below hb1
  replace zb := zb.below hb1
  obtain ⟨t0, t1, t2⟩ := Lib.hid sb |>.out
  obtain ⟨z0, z1, z2, z3⟩ := Lib.hid zb |>.out
  clear hb1 hbW
  clear W
  by_cases hv : bandErr s.data.toList o l x y fr to = 0
  · have hn : (bandErr s.data.toList o l x y fr to != 0) = false := by simpa using hv
    obtain ⟨hvz, ⟨h1, h2, h3⟩, ⟨hf1, hf2⟩, ⟨ht1, ht2⟩⟩ := bandErr_ok hv
    have hzz := Lib.hid (nightsZ_ok hv)
    have hin := Lib.hid (inB_ref hvz fr to)
    have hob := Lib.hid (offR_bd hvz)
    clear hv hvz
    obtain ⟨N, hN⟩ : ∃ N : Nat, (y - x).toNat = N := ⟨_, rfl⟩
    rw [hN] at hzz
    have hN1 : y - x ≤ N := by omega
    have hN2 : (N : Int) ≤ y - x := by omega
    clear hN
    obtain ⟨ln, hln⟩ : ∃ ln : Int, bandLen fr to = ln := ⟨_, rfl⟩
    have Hln := Lib.hid hln
    have hlb : 0 ≤ ln ∧ ln < 1440 := by rw [← hln]; unfold bandLen; omega
    obtain ⟨hl1, hl2⟩ := hlb
    rw [hln] at hzz
    clear hln
    go_wp2_with fail
    rw [show (to - fr + 1440) % 1440 = ln from Hln.out]
    have hS := Lib.hid (fun k => nightTo_bd (inB o l fr to) x ln k)
    go_loopw [12, 13, 14] (fun m r i wr => ∃ (k : Nat) (p : Int × Int), k ≤ N + 1 ∧ i = .int .i64 (x + k) ∧ m = .int .i64 p.1 ∧ r = .int .i64 p.2 ∧ Hid (NightAt (inB o l fr to) x ln N k p) ∧ (0 ≤ p.1 ∧ p.1 ≤ 60000000 + k ∧ 0 ≤ p.2 ∧ p.2 ≤ k) ∧ Below w1.heap.size w1 wr) (fun _ _ i _ => (y + 1 - intOf i).toNat)
    case atStart => exact ⟨0, (0, 0), Nat.zero_le _, by simp, rfl, rfl, Lib.hid (.inl ⟨Nat.zero_le _, rfl⟩), by simp, Below.refl _ _⟩
    case round =>
      obtain ⟨k, p, hk, rfl, rfl, rfl, hnat, hbd, hbel⟩ := hrel
      obtain ⟨bd1, bd2, bd3, bd4⟩ := hbd
      obtain ⟨t0, t1, t2⟩ := Lib.hid (sb.below hbel) |>.out
      obtain ⟨z0, z1, z2, z3⟩ := Lib.hid (zb.below hbel) |>.out
      by_cases hlt : k < N
      · have b2 := hob.out (x + k)
        have hi := Lib.hid (hin.out (x + k))
        cases hb : inB o l fr to (x + k)
        · have hnn := Lib.hid (hnat.out.no hlt hb)
          have hbb : bandB ((x + (k : Int) + offR o l (x + k)) % 1440) fr to = false := hi.out.trans hb
          clear hb
          by_cases q1 : ln ≤ p.2
          · by_cases q2 : 0 < p.2
            · have hn3 : (p.1 + (if ln ≤ p.2 ∧ 0 < p.2 then 1 else 0), (0 : Int)) = (p.1 + 1, 0) := by rw [if_pos ⟨q1, q2⟩]
              have hn3 := Lib.hid hn3
              go_wp2_with (first | (go_at_call 149; refine (offsetRef_any s o _ l a cap _ hl (hA.out _ (Below.then hB1 hbel))).mono ?_; rintro e w2 ⟨rfl, hb2⟩) | (go_at_call 168; refine (splitR_any _ _ (by omega) (by omega)).mono ?_; rintro e w' ⟨rfl, rfl⟩) | (go_at_call 169; refine (band_any _ _ _ _).mono ?_; rintro e w' ⟨rfl, rfl⟩))
              go_roundw
              case rel => exact ⟨k + 1, (p.1 + 1, 0), by omega, by go_num, by go_num, rfl, Lib.hid (hn3.out ▸ hnn.out), by simp only; omega, hbel.trans (hb2.mono hbel.size)⟩
              case measure => simp [intOf]; omega
            · have hn3 := Lib.hid (show (p.1 + (if ln ≤ p.2 ∧ 0 < p.2 then 1 else 0), (0 : Int)) = (p.1, 0) from by rw [if_neg (fun h => q2 h.2), Int.add_zero])
              go_wp2_with (first | (go_at_call 149; refine (offsetRef_any s o _ l a cap _ hl (hA.out _ (Below.then hB1 hbel))).mono ?_; rintro e w2 ⟨rfl, hb2⟩) | (go_at_call 168; refine (splitR_any _ _ (by omega) (by omega)).mono ?_; rintro e w' ⟨rfl, rfl⟩) | (go_at_call 169; refine (band_any _ _ _ _).mono ?_; rintro e w' ⟨rfl, rfl⟩))
              go_roundw
              case rel => exact ⟨k + 1, (p.1, 0), by omega, by go_num, rfl, rfl, Lib.hid (hn3.out ▸ hnn.out), by simp only; omega, hbel.trans (hb2.mono hbel.size)⟩
              case measure => simp [intOf]; omega
          · have hn3 := Lib.hid (show (p.1 + (if ln ≤ p.2 ∧ 0 < p.2 then 1 else 0), (0 : Int)) = (p.1, 0) from by rw [if_neg (fun h => q1 h.1), Int.add_zero])
            go_wp2_with (first | (go_at_call 149; refine (offsetRef_any s o _ l a cap _ hl (hA.out _ (Below.then hB1 hbel))).mono ?_; rintro e w2 ⟨rfl, hb2⟩) | (go_at_call 168; refine (splitR_any _ _ (by omega) (by omega)).mono ?_; rintro e w' ⟨rfl, rfl⟩) | (go_at_call 169; refine (band_any _ _ _ _).mono ?_; rintro e w' ⟨rfl, rfl⟩))
            go_roundw
            case rel => exact ⟨k + 1, (p.1, 0), by omega, by go_num, rfl, rfl, Lib.hid (hn3.out ▸ hnn.out), by simp only; omega, hbel.trans (hb2.mono hbel.size)⟩
            case measure => simp [intOf]; omega
        · have hnn := Lib.hid (hnat.out.yes hlt hb)
          have hbb : bandB ((x + (k : Int) + offR o l (x + k)) % 1440) fr to = true := hi.out.trans hb
          clear hb
          go_wp2_with (first | (go_at_call 149; refine (offsetRef_any s o _ l a cap _ hl (hA.out _ (Below.then hB1 hbel))).mono ?_; rintro e w2 ⟨rfl, hb2⟩) | (go_at_call 168; refine (splitR_any _ _ (by omega) (by omega)).mono ?_; rintro e w' ⟨rfl, rfl⟩) | (go_at_call 169; refine (band_any _ _ _ _).mono ?_; rintro e w' ⟨rfl, rfl⟩))
          go_roundw
          case rel => exact ⟨k + 1, (p.1, p.2 + 1), by omega, by go_num, rfl, rfl, hnn, by simp only; omega, hbel.trans (hb2.mono hbel.size)⟩
          case measure => simp [intOf]; omega
      · by_cases hkN : k ≤ N
        · obtain rfl : k = N := by omega
          have hnn := Lib.hid (hnat.out.close)
          by_cases q1 : ln ≤ p.2
          · by_cases q2 : 0 < p.2
            · have hn3 : (p.1 + (if ln ≤ p.2 ∧ 0 < p.2 then 1 else 0), (0 : Int)) = (p.1 + 1, 0) := by rw [if_pos ⟨q1, q2⟩]
              have hn3 := Lib.hid hn3
              go_wp2_with (first | (go_at_call 149; refine (offsetRef_any s o _ l a cap _ hl (hA.out _ (Below.then hB1 hbel))).mono ?_; rintro e w2 ⟨rfl, hb2⟩) | (go_at_call 168; refine (splitR_any _ _ (by omega) (by omega)).mono ?_; rintro e w' ⟨rfl, rfl⟩) | (go_at_call 169; refine (band_any _ _ _ _).mono ?_; rintro e w' ⟨rfl, rfl⟩))
              go_roundw
              case rel => exact ⟨k + 1, (p.1 + 1, 0), by omega, by go_num, by go_num, rfl, Lib.hid (hn3.out ▸ hnn.out), by simp only; omega, hbel⟩
              case measure => simp [intOf]; omega
            · have hn3 := Lib.hid (show (p.1 + (if ln ≤ p.2 ∧ 0 < p.2 then 1 else 0), (0 : Int)) = (p.1, 0) from by rw [if_neg (fun h => q2 h.2), Int.add_zero])
              go_wp2_with (first | (go_at_call 149; refine (offsetRef_any s o _ l a cap _ hl (hA.out _ (Below.then hB1 hbel))).mono ?_; rintro e w2 ⟨rfl, hb2⟩) | (go_at_call 168; refine (splitR_any _ _ (by omega) (by omega)).mono ?_; rintro e w' ⟨rfl, rfl⟩) | (go_at_call 169; refine (band_any _ _ _ _).mono ?_; rintro e w' ⟨rfl, rfl⟩))
              go_roundw
              case rel => exact ⟨k + 1, (p.1, 0), by omega, by go_num, rfl, rfl, Lib.hid (hn3.out ▸ hnn.out), by simp only; omega, hbel⟩
              case measure => simp [intOf]; omega
          · have hn3 := Lib.hid (show (p.1 + (if ln ≤ p.2 ∧ 0 < p.2 then 1 else 0), (0 : Int)) = (p.1, 0) from by rw [if_neg (fun h => q1 h.1), Int.add_zero])
            go_wp2_with (first | (go_at_call 149; refine (offsetRef_any s o _ l a cap _ hl (hA.out _ (Below.then hB1 hbel))).mono ?_; rintro e w2 ⟨rfl, hb2⟩) | (go_at_call 168; refine (splitR_any _ _ (by omega) (by omega)).mono ?_; rintro e w' ⟨rfl, rfl⟩) | (go_at_call 169; refine (band_any _ _ _ _).mono ?_; rintro e w' ⟨rfl, rfl⟩))
            go_roundw
            case rel => exact ⟨k + 1, (p.1, 0), by omega, by go_num, rfl, rfl, Lib.hid (hn3.out ▸ hnn.out), by simp only; omega, hbel⟩
            case measure => simp [intOf]; omega
        · have hfin := Lib.hid (hnat.out.fin (by omega))
          by_cases h0 : ln = 0
          · have h0' : (ln == 0) = true := by simpa using h0
            have hz0 := Lib.hid h0
            clear h0
            go_wp2_with fail
            go_ret2
            exact ⟨ret_int2 (by rw [hzz.out, hz0.out]; rfl) (by rw [hzz.out]), Below.then hB1 hbel⟩
          · have h0' : (ln == 0) = false := by simpa using h0
            have hz0 := Lib.hid h0
            clear h0
            go_wp2_with fail
            go_ret2
            exact ⟨ret_int2 (by rw [hzz.out, hfin.out, if_neg hz0.out]) (by rw [hzz.out]), Below.then hB1 hbel⟩
  · have hz := Lib.hid (show nightsZ s.data.toList o l x y fr to = (0, bandErr s.data.toList o l x y fr to) from by simp [nightsZ, hv])
    have hn : (bandErr s.data.toList o l x y fr to != 0) = true := by simpa using hv
    clear hv
    go_wp2_with fail
    go_ret2
    exact ⟨ret_int2 (by rw [hz.out]) (by rw [hz.out]), hB1⟩
end Go.Proofs.YtpgbckgjlgecpaaGreat
