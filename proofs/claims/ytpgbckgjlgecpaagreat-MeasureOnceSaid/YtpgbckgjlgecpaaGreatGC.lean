/- merged texts: Ix Rv Rw0 Rw -/
import Derived.Sort.Walk0
import Derived.Lib.QuietBelow
import Derived.Test.YtpgbckgjlgecpaaGreatG2
import Derived.Test.YtpgbckgjlgecpaaGreatG5
import Derived.Test.YtpgbckgjlgecpaaGreatG6
/- contracts of the reference's look-ups by name -/
namespace Go.Proofs.YtpgbckgjlgecpaaGreat
open Go.RowKit Go.Sort
set_option linter.unusedVariables false
set_option linter.unusedSimpArgs false
set_option maxRecDepth 100000
/-- the place of the first element with the name, -1 if there is none -/
def ixF {X : Type} (nm : X → ByteArray) (s : ByteArray) : Nat → List X → Int
  | _, [] => -1
  | k, x :: l => if nm x = s then (k : Int) else ixF nm s (k + 1) l
theorem ixF_neg {X : Type} (nm : X → ByteArray) (s : ByteArray) : ∀ (k : Nat) (l : List X), (ixF nm s k l < 0 ∧ hasB (l.map nm) s = false) ∨ (∃ j : Nat, j < l.length ∧ ixF nm s k l = (k + j : Nat) ∧ (l[j]?).map nm = some s ∧ ∀ i, i < j → (l[i]?).map nm ≠ some s) ∧ hasB (l.map nm) s = true
  | k, [] => .inl ⟨by simp [ixF], rfl⟩
  | k, x :: l => by
    rw [ixF]
    by_cases h : nm x = s
    · rw [if_pos h]
      exact .inr ⟨⟨0, by simp, by simp, by simp [h], fun i hi => by omega⟩, by simp [hasB, h]⟩
    · rw [if_neg h]
      rcases ixF_neg nm s (k + 1) l with ⟨h1, h2⟩ | ⟨⟨j, h1, h2, h3, h4⟩, h5⟩
      · refine .inl ⟨h1, ?_⟩
        simp only [hasB, List.map_cons, List.any_cons] at h2 ⊢
        rw [h2]; simp; exact fun e => h e.symm
      · refine .inr ⟨⟨j + 1, by simp; omega, by rw [h2]; congr 1; omega, by simpa using h3, fun i hi => ?_⟩, ?_⟩
        · cases i with
          | zero => simpa using h
          | succ i => simpa using h4 i (by omega)
        · simp only [hasB, List.map_cons, List.any_cons] at h5 ⊢
          rw [h5]; simp
theorem ixF_has {X : Type} (nm : X → ByteArray) (s : ByteArray) (k : Nat) (l : List X) : decide (0 ≤ ixF nm s k l) = hasB (l.map nm) s := by
  rcases ixF_neg nm s k l with ⟨h1, h2⟩ | ⟨⟨j, _, h2, _⟩, h5⟩
  · rw [h2]; simp; omega
  · rw [h5, h2]; simp; omega
def zoneIx (l : List ZoneM) (s : ByteArray) : Int := ixF ZoneM.name s 0 l
theorem zoneIx_hit {l : List ZoneM} {s : ByteArray} {k : Nat} (h : k < l.length) (e : (zAt l k).name = s) : ixF ZoneM.name s k (l.drop k) = k := by rw [z_drop l k h, ixF, if_pos e]
theorem zoneIx_go {l : List ZoneM} {s : ByteArray} {k : Nat} (h : k < l.length) (e : (zAt l k).name ≠ s) : ixF ZoneM.name s k (l.drop k) = ixF ZoneM.name s (k + 1) (l.drop (k + 1)) := by rw [z_drop l k h, ixF, if_neg e]
set_option maxHeartbeats 400000 in
theorem zoneIx_any (l : List ZoneM) (s : ByteArray) (a : Option Addr) (cap : Nat) (w : World) (ha : SlAt zoneRT w a l) (hl : l.length ≤ 140737488355328) : Calls Tryz.prog 52 #[.slice a l.length cap, .string s] w fun e w' => e = .returned (.int .i64 (zoneIx l s)) ∧ w = w' := by
  have HA := Lib.hid ha
  clear ha
  go_enter Tryz.func52, Tryz.ntmps52
  go_wp2_with fail
  go_loop [5] (fun i => ∃ k : Nat, k ≤ l.length ∧ i = .int .i64 k ∧ Hid (zoneIx l s = ixF ZoneM.name s k (l.drop k))) (fun i => l.length - (intOf i).toNat)
  case atStart => exact ⟨0, Nat.zero_le _, rfl, Lib.hid rfl⟩
  case round =>
    obtain ⟨k, hk, rfl, hF⟩ := hrel
    by_cases hlt : k < l.length
    · obtain ⟨b, off, rfl, hb, hcs⟩ := zone_cells HA.out (by omega)
      obtain ⟨sa, scap, c0, _⟩ := hcs k hlt
      clear hcs
      by_cases e : (zAt l k).name = s
      · have e' : ((zAt l k).name.toList == s.toList) = true := by rw [ba_toList_eq]; simpa using e
        have HE := Lib.hid (hF.out.trans (zoneIx_hit hlt e))
        clear e
        go_wp2_with fail
        go_ret
        exact ⟨ret_int HE.out.symm, rfl⟩
      · have e' : ((zAt l k).name.toList == s.toList) = false := by rw [ba_toList_eq]; simpa using e
        have HE := Lib.hid (hF.out.trans (zoneIx_go hlt e))
        clear e
        go_wp2_with fail
        go_round
        case rel => exact ⟨k + 1, by omega, by go_num, HE⟩
        case measure => simp [intOf]; omega
    · obtain rfl : k = l.length := by omega
      have HE := Lib.hid (hF.out.trans (by rw [List.drop_length, ixF]))
      go_wp2_with fail
      go_ret
      exact ⟨ret_int HE.out.symm, rfl⟩
def airIx (l : List AirM) (s : ByteArray) : Int := ixF AirM.code s 0 l
theorem airIx_hit {l : List AirM} {s : ByteArray} {k : Nat} (h : k < l.length) (e : (aAt l k).code = s) : ixF AirM.code s k (l.drop k) = k := by rw [a_drop l k h, ixF, if_pos e]
theorem airIx_go {l : List AirM} {s : ByteArray} {k : Nat} (h : k < l.length) (e : (aAt l k).code ≠ s) : ixF AirM.code s k (l.drop k) = ixF AirM.code s (k + 1) (l.drop (k + 1)) := by rw [a_drop l k h, ixF, if_neg e]
set_option maxHeartbeats 400000 in
theorem airIx_any (l : List AirM) (s : ByteArray) (a : Option Addr) (cap : Nat) (w : World) (ha : SlAt airRT w a l) (hl : l.length ≤ 140737488355328) : Calls Tryz.prog 54 #[.slice a l.length cap, .string s] w fun e w' => e = .returned (.int .i64 (airIx l s)) ∧ w = w' := by
  have HA := Lib.hid ha
  clear ha
  go_enter Tryz.func54, Tryz.ntmps54
  go_wp2_with fail
  go_loop [5] (fun i => ∃ k : Nat, k ≤ l.length ∧ i = .int .i64 k ∧ Hid (airIx l s = ixF AirM.code s k (l.drop k))) (fun i => l.length - (intOf i).toNat)
  case atStart => exact ⟨0, Nat.zero_le _, rfl, Lib.hid rfl⟩
  case round =>
    obtain ⟨k, hk, rfl, hF⟩ := hrel
    by_cases hlt : k < l.length
    · obtain ⟨b, off, rfl, hb, hcs⟩ := air_cells HA.out (by omega)
      obtain ⟨c0, _⟩ := hcs k hlt
      clear hcs
      by_cases e : (aAt l k).code = s
      · have e' : ((aAt l k).code.toList == s.toList) = true := by rw [ba_toList_eq]; simpa using e
        have HE := Lib.hid (hF.out.trans (airIx_hit hlt e))
        clear e
        go_wp2_with fail
        go_ret
        exact ⟨ret_int HE.out.symm, rfl⟩
      · have e' : ((aAt l k).code.toList == s.toList) = false := by rw [ba_toList_eq]; simpa using e
        have HE := Lib.hid (hF.out.trans (airIx_go hlt e))
        clear e
        go_wp2_with fail
        go_round
        case rel => exact ⟨k + 1, by omega, by go_num, HE⟩
        case measure => simp [intOf]; omega
    · obtain rfl : k = l.length := by omega
      have HE := Lib.hid (hF.out.trans (by rw [List.drop_length, ixF]))
      go_wp2_with fail
      go_ret
      exact ⟨ret_int HE.out.symm, rfl⟩
end Go.Proofs.YtpgbckgjlgecpaaGreat
/- contract of the reference's flight -/
namespace Go.Proofs.YtpgbckgjlgecpaaGreat
open Go.RowKit Go.Sort
set_option linter.unusedVariables false
set_option linter.unusedSimpArgs false
set_option maxRecDepth 100000
theorem bl_total {a b : List UInt8} (h1 : Op.bytesLess a b = false) (h2 : (a == b) = false) : Op.bytesLess b a = true := by
  rw [bytesLess_eq] at h1 ⊢
  have h1' : ¬ a < b := by simpa using h1
  have h2' : a ≠ b := by simpa using h2
  exact decide_eq_true (Classical.byContradiction fun h3 => h2' (List.le_antisymm (List.not_lt.1 h3) (List.not_lt.1 h1')))
theorem bl_asymm {a b : List UInt8} (h : Op.bytesLess a b = true ∨ (a == b) = true) : Op.bytesLess b a = false := by
  rw [bytesLess_eq] at h ⊢
  rcases h with h | h
  · have h' : a < b := by simpa using h
    exact decide_eq_false (fun h2 => List.lt_asymm h' h2)
  · have h' : a = b := by simpa using h
    subst h'
    exact decide_eq_false (fun h2 => List.lt_irrefl _ h2)
theorem before_eq {f g : FlightM} (h : f.dep = g.dep) : beforeB f g = Op.bytesLess f.num.toList g.num.toList := by unfold beforeB; rw [if_neg (by simpa using h)]
theorem before_ne {f g : FlightM} (h : ¬ f.dep = g.dep) : beforeB f g = decide (f.dep < g.dep) := by unfold beforeB; rw [if_pos h]
def codesT (t : TTM) : List ByteArray := t.airs.map AirM.code
/-- the error of one flight -/
def flErr (t : TTM) (i : Nat) : Int := if valFl (codesT t) (fAt t.fls i) ≠ 0 then valFl (codesT t) (fAt t.fls i) else if 0 < i ∧ beforeB (fAt t.fls (i - 1)) (fAt t.fls i) = false then 8 else 0
theorem flErr_bad {t : TTM} {i : Nat} {n : Int} (h : valFl (codesT t) (fAt t.fls i) = n) (hn : n ≠ 0) : flErr t i = n := by
  unfold flErr; rw [if_pos (by rw [h]; exact hn), h]
theorem air_no {t : TTM} {s : ByteArray} (h : airIx t.airs s < 0) : hasB (codesT t) s = false := by
  rw [codesT, ← ixF_has AirM.code s 0]; simpa [airIx] using h
theorem air_yes {t : TTM} {s : ByteArray} (h : ¬ airIx t.airs s < 0) : hasB (codesT t) s = true := by
  rw [codesT, ← ixF_has AirM.code s 0]; simpa [airIx] using h
set_option maxHeartbeats 3200000 in
theorem flightR_any (t : TTM) (za aa fa : Option Addr) (zc ac fc : Nat) (w : World) (hl2 : t.airs.length ≤ 140737488355328) (ha : SlAt airRT w aa t.airs) (hf : SlAt flightRT w fa t.fls) (i : Nat) (hi : i < t.fls.length) (hl3 : t.fls.length ≤ 140737488355328) :
    Calls Tryz.prog 55 #[.agg #[.slice za t.zones.length zc, .slice aa t.airs.length ac, .slice fa t.fls.length fc], .int .i64 i] w fun e w' => e = .returned (.int .i64 (flErr t i)) ∧ Below w.heap.size w w' := by
  obtain ⟨b, off, rfl, hb, hcs⟩ := flight_cells hf (by omega)
  obtain ⟨⟨d0, d1, d2, d3, d4, d5, d6, d7, d8⟩, h1, h2, h3, h4⟩ := hcs i hi
  have HCS := Lib.hid hcs
  replace h4 : (fAt t.fls i).typ.size ≤ maxLen := by unfold maxLen; omega
  have HBW := Lib.hid (Below.then (below_new w (Obj.cells #[.slice za t.zones.length zc, .slice aa t.airs.length ac, .slice (some ⟨b, off, none⟩) t.fls.length fc] 26)) (below_new _ (Obj.cells #[.string (fAt t.fls i).num, .string (fAt t.fls i).frm, .string (fAt t.fls i).to, .int .i64 (fAt t.fls i).dep, .int .i64 (fAt t.fls i).arr, .string (fAt t.fls i).typ, .int .i64 (fAt t.fls i).n0, .int .i64 (fAt t.fls i).n1, .int .i64 (fAt t.fls i).n2] 107)))
  have HAA := Lib.hid (ha.below HBW.out)
  clear ha hf hcs
  cases b1 : codeB (fAt t.fls i).num.data.toList
  · have hz := Lib.hid (flErr_bad (t := t) (i := i) (n := 1) (by simp [valFl, b1]) (by decide))
    go_enter Tryz.func55, Tryz.ntmps55
    go_wp2_with (first | (go_at_call 104; refine (isCodeR_any _ _ h1).mono ?_; rintro e w' ⟨rfl, rfl⟩) | (go_at_call 100; refine (isNameR_any _ _ h4).mono ?_; rintro e w' ⟨rfl, rfl⟩) | (go_at_call 54; refine (airIx_any t.airs _ aa ac _ HAA.out hl2).mono ?_; rintro e w' ⟨rfl, rfl⟩))
    go_ret
    exact ⟨ret_int hz.out.symm, HBW.out⟩
  cases b2 : nameB (fAt t.fls i).typ.data.toList
  · have hz := Lib.hid (flErr_bad (t := t) (i := i) (n := 1) (by simp [valFl, b2]) (by decide))
    go_enter Tryz.func55, Tryz.ntmps55
    go_wp2_with (first | (go_at_call 104; refine (isCodeR_any _ _ h1).mono ?_; rintro e w' ⟨rfl, rfl⟩) | (go_at_call 100; refine (isNameR_any _ _ h4).mono ?_; rintro e w' ⟨rfl, rfl⟩) | (go_at_call 54; refine (airIx_any t.airs _ aa ac _ HAA.out hl2).mono ?_; rintro e w' ⟨rfl, rfl⟩))
    go_ret
    exact ⟨ret_int hz.out.symm, HBW.out⟩
  have Hv := Lib.hid (show valFl (codesT t) (fAt t.fls i) = if (hasB (codesT t) (fAt t.fls i).frm && hasB (codesT t) (fAt t.fls i).to) = false then 6 else if ((fAt t.fls i).frm.toList == (fAt t.fls i).to.toList) = true then 14 else if flTime (fAt t.fls i) = false then 5 else if (needOk (fAt t.fls i).n0 && needOk (fAt t.fls i).n1 && needOk (fAt t.fls i).n2) = false then 5 else 0 by simp [valFl, b1, b2])
  by_cases b3 : airIx t.airs (fAt t.fls i).frm < 0
  · have hz := Lib.hid (flErr_bad (t := t) (i := i) (n := 6) (Hv.out.trans (by simp [air_no b3])) (by decide))
    go_enter Tryz.func55, Tryz.ntmps55
    go_wp2_with (first | (go_at_call 104; refine (isCodeR_any _ _ h1).mono ?_; rintro e w' ⟨rfl, rfl⟩) | (go_at_call 100; refine (isNameR_any _ _ h4).mono ?_; rintro e w' ⟨rfl, rfl⟩) | (go_at_call 54; refine (airIx_any t.airs _ aa ac _ HAA.out hl2).mono ?_; rintro e w' ⟨rfl, rfl⟩))
    go_ret
    exact ⟨ret_int hz.out.symm, HBW.out⟩
  by_cases b4 : airIx t.airs (fAt t.fls i).to < 0
  · have hz := Lib.hid (flErr_bad (t := t) (i := i) (n := 6) (Hv.out.trans (by simp [air_no b4])) (by decide))
    go_enter Tryz.func55, Tryz.ntmps55
    go_wp2_with (first | (go_at_call 104; refine (isCodeR_any _ _ h1).mono ?_; rintro e w' ⟨rfl, rfl⟩) | (go_at_call 100; refine (isNameR_any _ _ h4).mono ?_; rintro e w' ⟨rfl, rfl⟩) | (go_at_call 54; refine (airIx_any t.airs _ aa ac _ HAA.out hl2).mono ?_; rintro e w' ⟨rfl, rfl⟩))
    go_ret
    exact ⟨ret_int hz.out.symm, HBW.out⟩
  cases b5 : ((fAt t.fls i).frm.toList == (fAt t.fls i).to.toList)
  case true =>
    have hz := Lib.hid (flErr_bad (t := t) (i := i) (n := 14) (Hv.out.trans (by simp [air_yes b3, air_yes b4, b5])) (by decide))
    go_enter Tryz.func55, Tryz.ntmps55
    go_wp2_with (first | (go_at_call 104; refine (isCodeR_any _ _ h1).mono ?_; rintro e w' ⟨rfl, rfl⟩) | (go_at_call 100; refine (isNameR_any _ _ h4).mono ?_; rintro e w' ⟨rfl, rfl⟩) | (go_at_call 54; refine (airIx_any t.airs _ aa ac _ HAA.out hl2).mono ?_; rintro e w' ⟨rfl, rfl⟩))
    go_ret
    exact ⟨ret_int hz.out.symm, HBW.out⟩
  case false =>
    have Hv2 := Lib.hid (show valFl (codesT t) (fAt t.fls i) = if flTime (fAt t.fls i) = false then 5 else if (needOk (fAt t.fls i).n0 && needOk (fAt t.fls i).n1 && needOk (fAt t.fls i).n2) = false then 5 else 0 from Hv.out.trans (by rw [air_yes b3, air_yes b4, b5]; rfl))
    clear Hv
    cases b6 : flTime (fAt t.fls i)
    · have hz := Lib.hid (flErr_bad (t := t) (i := i) (n := 5) (Hv2.out.trans (by rw [b6]; rfl)) (by decide))
      have hn : ¬ (2880 ≤ (fAt t.fls i).dep ∧ (fAt t.fls i).arr ≤ 52593120 ∧ (fAt t.fls i).dep < (fAt t.fls i).arr ∧ (fAt t.fls i).arr - (fAt t.fls i).dep ≤ 1440) := by simpa [flTime] using b6
      clear b6
      by_cases t1 : (fAt t.fls i).dep < 2880
      · skip
        go_enter Tryz.func55, Tryz.ntmps55
        go_wp2_with (first | (go_at_call 104; refine (isCodeR_any _ _ h1).mono ?_; rintro e w' ⟨rfl, rfl⟩) | (go_at_call 100; refine (isNameR_any _ _ h4).mono ?_; rintro e w' ⟨rfl, rfl⟩) | (go_at_call 54; refine (airIx_any t.airs _ aa ac _ HAA.out hl2).mono ?_; rintro e w' ⟨rfl, rfl⟩))
        go_ret
        exact ⟨ret_int hz.out.symm, HBW.out⟩
      by_cases t2 : 52593120 < (fAt t.fls i).arr
      · skip
        go_enter Tryz.func55, Tryz.ntmps55
        go_wp2_with (first | (go_at_call 104; refine (isCodeR_any _ _ h1).mono ?_; rintro e w' ⟨rfl, rfl⟩) | (go_at_call 100; refine (isNameR_any _ _ h4).mono ?_; rintro e w' ⟨rfl, rfl⟩) | (go_at_call 54; refine (airIx_any t.airs _ aa ac _ HAA.out hl2).mono ?_; rintro e w' ⟨rfl, rfl⟩))
        go_ret
        exact ⟨ret_int hz.out.symm, HBW.out⟩
      by_cases t3 : (fAt t.fls i).arr ≤ (fAt t.fls i).dep
      · skip
        go_enter Tryz.func55, Tryz.ntmps55
        go_wp2_with (first | (go_at_call 104; refine (isCodeR_any _ _ h1).mono ?_; rintro e w' ⟨rfl, rfl⟩) | (go_at_call 100; refine (isNameR_any _ _ h4).mono ?_; rintro e w' ⟨rfl, rfl⟩) | (go_at_call 54; refine (airIx_any t.airs _ aa ac _ HAA.out hl2).mono ?_; rintro e w' ⟨rfl, rfl⟩))
        go_ret
        exact ⟨ret_int hz.out.symm, HBW.out⟩
      · have t4 : 1440 < (fAt t.fls i).arr - (fAt t.fls i).dep := by omega
        go_enter Tryz.func55, Tryz.ntmps55
        go_wp2_with (first | (go_at_call 104; refine (isCodeR_any _ _ h1).mono ?_; rintro e w' ⟨rfl, rfl⟩) | (go_at_call 100; refine (isNameR_any _ _ h4).mono ?_; rintro e w' ⟨rfl, rfl⟩) | (go_at_call 54; refine (airIx_any t.airs _ aa ac _ HAA.out hl2).mono ?_; rintro e w' ⟨rfl, rfl⟩))
        go_ret
        exact ⟨ret_int hz.out.symm, HBW.out⟩
    · have Hv3 := Lib.hid (show valFl (codesT t) (fAt t.fls i) = if (needOk (fAt t.fls i).n0 && needOk (fAt t.fls i).n1 && needOk (fAt t.fls i).n2) = false then 5 else 0 from Hv2.out.trans (by rw [b6]; rfl))
      obtain ⟨t1, t2, t3, t4⟩ : 2880 ≤ (fAt t.fls i).dep ∧ (fAt t.fls i).arr ≤ 52593120 ∧ (fAt t.fls i).dep < (fAt t.fls i).arr ∧ (fAt t.fls i).arr - (fAt t.fls i).dep ≤ 1440 := by simpa [flTime] using b6
      clear b6 Hv2
      go_enter Tryz.func55, Tryz.ntmps55
      go_wp2_with (first | (go_at_call 104; refine (isCodeR_any _ _ h1).mono ?_; rintro e w' ⟨rfl, rfl⟩) | (go_at_call 100; refine (isNameR_any _ _ h4).mono ?_; rintro e w' ⟨rfl, rfl⟩) | (go_at_call 54; refine (airIx_any t.airs _ aa ac _ HAA.out hl2).mono ?_; rintro e w' ⟨rfl, rfl⟩))
      go_loop [6] (fun q => q = .int .i64 0 ∨ (q = .int .i64 1 ∧ needOk (fAt t.fls i).n0 = true) ∨ (q = .int .i64 2 ∧ needOk (fAt t.fls i).n0 = true ∧ needOk (fAt t.fls i).n1 = true) ∨ (q = .int .i64 3 ∧ needOk (fAt t.fls i).n0 = true ∧ needOk (fAt t.fls i).n1 = true ∧ needOk (fAt t.fls i).n2 = true)) (fun q => (3 - intOf q).toNat)
      case atStart => exact .inl rfl
      case round =>
        rcases hrel with rfl | ⟨rfl, n0⟩ | ⟨rfl, n0, n1⟩ | ⟨rfl, n0, n1, n2⟩
        · cases hq : needOk (fAt t.fls i).n0
          · have hz := Lib.hid (flErr_bad (t := t) (i := i) (n := 5) (Hv3.out.trans (by rw [hq]; simp)) (by decide))
            have hn : ¬ (0 ≤ (fAt t.fls i).n0 ∧ (fAt t.fls i).n0 ≤ 8) := by simpa [needOk] using hq
            by_cases u1 : (fAt t.fls i).n0 < 0
            · go_wp2_with fail
              go_ret
              exact ⟨ret_int hz.out.symm, HBW.out⟩
            · have u2 : 8 < (fAt t.fls i).n0 := by omega
              go_wp2_with fail
              go_ret
              exact ⟨ret_int hz.out.symm, HBW.out⟩
          · obtain ⟨u1, u2⟩ : 0 ≤ (fAt t.fls i).n0 ∧ (fAt t.fls i).n0 ≤ 8 := by simpa [needOk] using hq
            go_wp2_with fail
            go_round
            case rel => exact (.inr (.inl ⟨rfl, trivial⟩))
            case measure => simp [intOf]
        · cases hq : needOk (fAt t.fls i).n1
          · have hz := Lib.hid (flErr_bad (t := t) (i := i) (n := 5) (Hv3.out.trans (by rw [hq]; simp)) (by decide))
            have hn : ¬ (0 ≤ (fAt t.fls i).n1 ∧ (fAt t.fls i).n1 ≤ 8) := by simpa [needOk] using hq
            by_cases u1 : (fAt t.fls i).n1 < 0
            · go_wp2_with fail
              go_ret
              exact ⟨ret_int hz.out.symm, HBW.out⟩
            · have u2 : 8 < (fAt t.fls i).n1 := by omega
              go_wp2_with fail
              go_ret
              exact ⟨ret_int hz.out.symm, HBW.out⟩
          · obtain ⟨u1, u2⟩ : 0 ≤ (fAt t.fls i).n1 ∧ (fAt t.fls i).n1 ≤ 8 := by simpa [needOk] using hq
            go_wp2_with fail
            go_round
            case rel => exact (.inr (.inr (.inl ⟨rfl, n0, trivial⟩)))
            case measure => simp [intOf]
        · cases hq : needOk (fAt t.fls i).n2
          · have hz := Lib.hid (flErr_bad (t := t) (i := i) (n := 5) (Hv3.out.trans (by rw [hq]; simp)) (by decide))
            have hn : ¬ (0 ≤ (fAt t.fls i).n2 ∧ (fAt t.fls i).n2 ≤ 8) := by simpa [needOk] using hq
            by_cases u1 : (fAt t.fls i).n2 < 0
            · go_wp2_with fail
              go_ret
              exact ⟨ret_int hz.out.symm, HBW.out⟩
            · have u2 : 8 < (fAt t.fls i).n2 := by omega
              go_wp2_with fail
              go_ret
              exact ⟨ret_int hz.out.symm, HBW.out⟩
          · obtain ⟨u1, u2⟩ : 0 ≤ (fAt t.fls i).n2 ∧ (fAt t.fls i).n2 ≤ 8 := by simpa [needOk] using hq
            go_wp2_with fail
            go_round
            case rel => exact (.inr (.inr (.inr ⟨rfl, n0, n1, trivial⟩)))
            case measure => simp [intOf]
        · have Hv4 := Lib.hid (show valFl (codesT t) (fAt t.fls i) = 0 from Hv3.out.trans (by rw [n0, n1, n2]; rfl))
          by_cases hi0 : i = 0
          · subst hi0
            have hz := Lib.hid (show flErr t 0 = 0 by unfold flErr; rw [if_neg (by rw [Hv4.out]; simp), if_neg (by simp)])
            go_wp2_with fail
            go_ret
            exact ⟨ret_int hz.out.symm, HBW.out⟩
          · have hi1 : 0 < i := by omega
            obtain ⟨j, rfl⟩ : ∃ j, i = j + 1 := ⟨i - 1, by omega⟩
            obtain ⟨⟨p0, p1, p2, p3, p4, p5, p6, p7, p8⟩, _⟩ := (HCS.out.below hb HBW.out) j (by omega)
            have hE := Lib.hid (show flErr t (j + 1) = if beforeB (fAt t.fls j) (fAt t.fls (j + 1)) = false then 8 else 0 by unfold flErr; rw [if_neg (by rw [Hv4.out]; simp), Nat.add_sub_cancel]; simp)
            have hjc : ((j + 1 : Nat) : Int) - 1 = (j : Int) := by omega
            have HB3 := Lib.hid (fun o1 o2 => Below.then (Below.then (below_new w (Obj.cells #[.slice za t.zones.length zc, .slice aa t.airs.length ac, .slice (some ⟨b, off, none⟩) t.fls.length fc] 26)) (below_new _ o1)) (below_new _ o2))
            go_wp2_with fail
            · next q1 q2 q3 _ =>
              go_ret
              exact ⟨ret_int (by rw [hE.out, before_eq q2.symm, if_pos (bl_asymm q3)]), HB3.out _ _⟩
            · next q1 q2 q3 _ =>
              go_ret
              exact ⟨ret_int (by rw [hE.out, before_eq q2.symm, if_neg (by rw [bl_total q3.1 q3.2]; simp)]), HB3.out _ _⟩
            · next q1 q2 q3 _ =>
              go_ret
              exact ⟨ret_int (by rw [hE.out, before_ne (fun h => q2 h.symm), if_neg (by simp; omega)]), HB3.out _ _⟩
            · next _ q1 =>
              go_ret
              exact ⟨ret_int (by rw [hE.out, before_ne (by omega), if_pos (by simp; omega)]), HB3.out _ _⟩
end Go.Proofs.YtpgbckgjlgecpaaGreat
/- plain facts for the reference's Validate -/
namespace Go.Proofs.YtpgbckgjlgecpaaGreat
open Go.RowKit Go.Sort
set_option linter.unusedVariables false
set_option linter.unusedSimpArgs false
set_option maxRecDepth 100000
theorem SlAt.take {A : Type} {r : RT A} {w : World} {a : Option Addr} {l : List A} (h : SlAt r w a l) (k : Nat) : SlAt r w a (l.take k) := by
  rcases h with rfl | ⟨b, off, h1, h2, h3⟩
  · exact .inl (by simp)
  · refine .inr ⟨b, off, h1, h2, fun i hi => ?_⟩
    have hi' : i < l.length := by rw [List.length_take] at hi; omega
    obtain ⟨cs, g1, g2⟩ := h3 i hi'
    exact ⟨cs, g1, by rw [List.getElem_take]; exact g2⟩
theorem valZ_acc : ∀ (l : List ZoneM) (acc : List ByteArray), (valZ acc l).1 = 0 → (valZ acc l).2 = acc ++ l.map ZoneM.name
  | [], acc, _ => by simp [valZ]
  | z :: l, acc, h => by
    rw [valZ] at h ⊢
    by_cases h1 : zval z ≠ 0
    · rw [if_pos h1] at h; exact absurd h h1
    rw [if_neg h1] at h ⊢
    by_cases h2 : hasB acc z.name = true
    · rw [if_pos h2] at h; simp at h
    rw [if_neg h2] at h ⊢
    rw [valZ_acc l _ h]; simp
theorem valA_acc (zs : List ByteArray) : ∀ (l : List AirM) (acc : List ByteArray), (valA zs acc l).1 = 0 → (valA zs acc l).2 = acc ++ l.map AirM.code
  | [], acc, _ => by simp [valA]
  | z :: l, acc, h => by
    rw [valA] at h ⊢
    by_cases h1 : airB z.code.data.toList = false
    · rw [if_pos h1] at h; simp at h
    rw [if_neg h1] at h ⊢
    by_cases h2 : hasB acc z.code = true
    · rw [if_pos h2] at h; simp at h
    rw [if_neg h2] at h ⊢
    by_cases h3 : hasB zs z.zone = false
    · rw [if_pos h3] at h; simp at h
    rw [if_neg h3] at h ⊢
    rw [valA_acc zs l _ h]; simp
/-- the flights' errors one after another -/
theorem valF_flErr (t : TTM) : ∀ (m k : Nat), k + m = t.fls.length → valF (codesT t) (prevF t.fls k) (t.fls.drop k) = fstE (flErr t) k m
  | 0, k, h => by
    have e : k = t.fls.length := by omega
    subst e
    rw [List.drop_length, valF, fstE]
  | m + 1, k, h => by
    have hk : k < t.fls.length := by omega
    rw [fstE]
    by_cases h1 : valFl (codesT t) (fAt t.fls k) ≠ 0
    · rw [valF_bad hk h1]
      have e : flErr t k = valFl (codesT t) (fAt t.fls k) := flErr_bad rfl h1
      rw [e, if_pos h1]
    · have h1' : valFl (codesT t) (fAt t.fls k) = 0 := Classical.not_not.1 h1
      cases k with
      | zero =>
        have e : flErr t 0 = 0 := by unfold flErr; rw [if_neg h1, if_neg (by simp)]
        rw [e, if_neg (by simp), valF_zero hk h1']
        exact valF_flErr t m 1 (by omega)
      | succ k =>
        cases h2 : beforeB (fAt t.fls k) (fAt t.fls (k + 1))
        · have e : flErr t (k + 1) = 8 := by unfold flErr; rw [if_neg h1, if_pos (by rw [Nat.add_sub_cancel]; exact ⟨by omega, h2⟩)]
          rw [e, if_pos (by decide), valF_ord hk h1' h2]
        · have e : flErr t (k + 1) = 0 := by unfold flErr; rw [if_neg h1, if_neg (by rw [Nat.add_sub_cancel, h2]; simp)]
          rw [e, if_neg (by simp), valF_go hk h1' h2]
          exact valF_flErr t m (k + 1 + 1) (by omega)
end Go.Proofs.YtpgbckgjlgecpaaGreat
/- contract of the reference's Validate -/
namespace Go.Proofs.YtpgbckgjlgecpaaGreat
open Go.RowKit Go.Sort
set_option linter.unusedVariables false
set_option linter.unusedSimpArgs false
set_option maxRecDepth 100000
theorem Calls.still {f : Nat} {vs : Array Value} {w : World} {r : Ending} (h : Calls Tryz.prog f vs w fun e w' => e = r ∧ w = w') : Calls Tryz.prog f vs w fun e w' => e = r ∧ Below w.heap.size w w' := h.mono fun e w' h => ⟨h.1, h.2 ▸ Below.refl _ _⟩
set_option maxHeartbeats 800000 in
theorem validateR_wide (s : ByteArray) (o : Int) (l : List (Int × Int)) (a : Option Addr) (cap : Nat) (w : World) (hs : s.size ≤ maxLen) (hl : l.length ≤ 140737488355328) (ha : ShAt w a l) :
    Calls Tryz.prog 51 #[.agg #[.string s, .int .i64 o, .slice a l.length cap]] w fun e w' => e = .returned (.int .i64 (valZone s.data.toList o l)) ∧ Below w.heap.size w w' := by
  by_cases hb : l.length ≤ 1000000
  · exact validateR_any s o l a cap w hs hb ha
  have h3 : 16 < l.length := by omega
  cases h1 : nameB s.data.toList
  · have hf := Lib.hid (show valZone s.data.toList o l = 1 from by simp [valZone, h1])
    go_enter Tryz.func51, Tryz.ntmps51
    go_wp2_with (first | (go_at_call 100; refine (isNameR_any _ _ hs).mono ?_; rintro e w' ⟨rfl, rfl⟩) | (go_at_call 101; refine (offsetR_any _ _).mono ?_; rintro e w' ⟨rfl, rfl⟩))
    go_ret
    exact ⟨ret_int hf.out.symm, (Below.refl _ _).alloc (Nat.le_refl _) _⟩
  cases h2 : offB o
  · have hf := Lib.hid (show valZone s.data.toList o l = 5 from by simp [valZone, h1, h2])
    go_enter Tryz.func51, Tryz.ntmps51
    go_wp2_with (first | (go_at_call 100; refine (isNameR_any _ _ hs).mono ?_; rintro e w' ⟨rfl, rfl⟩) | (go_at_call 101; refine (offsetR_any _ _).mono ?_; rintro e w' ⟨rfl, rfl⟩))
    go_ret
    exact ⟨ret_int hf.out.symm, (Below.refl _ _).alloc (Nat.le_refl _) _⟩
  · have hf := Lib.hid (show valZone s.data.toList o l = 10 from by simp [valZone, h1, h2, h3])
    go_enter Tryz.func51, Tryz.ntmps51
    go_wp2_with (first | (go_at_call 100; refine (isNameR_any _ _ hs).mono ?_; rintro e w' ⟨rfl, rfl⟩) | (go_at_call 101; refine (offsetR_any _ _).mono ?_; rintro e w' ⟨rfl, rfl⟩))
    go_ret
    exact ⟨ret_int hf.out.symm, (Below.refl _ _).alloc (Nat.le_refl _) _⟩
set_option maxHeartbeats 3200000 in
theorem validateR9_any (t : TTM) (za aa fa : Option Addr) (zc ac fc : Nat) (w : World) (hcap : t.zones.length ≤ zc ∧ zc ≤ 140737488355328 ∧ t.airs.length ≤ ac ∧ ac ≤ 140737488355328) (hz : SlAt zoneRT w za t.zones) (ha : SlAt airRT w aa t.airs) (hf : SlAt flightRT w fa t.fls) :
    Calls Tryz.prog 14 #[.agg #[.slice za t.zones.length zc, .slice aa t.airs.length ac, .slice fa t.fls.length fc]] w fun e w' => e = .returned (.int .i64 (valTT t)) ∧ Below w.heap.size w w' := by
  by_cases g1 : 16 < t.zones.length
  · have hv := Lib.hid (show valTT t = 10 from if_pos (.inl g1))
    go_enter Tryz.func14, Tryz.ntmps14
    go_wp2_with fail
    go_ret
    exact ⟨ret_int hv.out.symm, below_new _ _⟩
  by_cases g2 : 64 < t.airs.length
  · have hv := Lib.hid (show valTT t = 10 from if_pos (.inr (.inl g2)))
    go_enter Tryz.func14, Tryz.ntmps14
    go_wp2_with fail
    go_ret
    exact ⟨ret_int hv.out.symm, below_new _ _⟩
  by_cases g3 : 200 < t.fls.length
  · have hv := Lib.hid (show valTT t = 10 from if_pos (.inr (.inr g3)))
    go_enter Tryz.func14, Tryz.ntmps14
    go_wp2_with fail
    go_ret
    exact ⟨ret_int hv.out.symm, below_new _ _⟩
  have hv : valTT t = if (valZ [] t.zones).1 ≠ 0 then (valZ [] t.zones).1
    else if (valA (valZ [] t.zones).2 [] t.airs).1 ≠ 0 then (valA (valZ [] t.zones).2 [] t.airs).1
    else valF (valA (valZ [] t.zones).2 [] t.airs).2 none t.fls := if_neg (by omega)
  have Hv := Lib.hid hv
  clear hv
  have HZ := Lib.hid hz
  have HA := Lib.hid ha
  have HF := Lib.hid hf
  clear hz ha hf
  go_enter Tryz.func14, Tryz.ntmps14
  go_wp2_with fail
  have HT := Lib.hid (TBox.new w za aa fa t.zones.length zc t.airs.length ac t.fls.length fc)
  have HB := Lib.hid (below_new w (Obj.cells #[.slice za t.zones.length zc, .slice aa t.airs.length ac, .slice fa t.fls.length fc] 26))
  generalize w.alloc (Obj.cells #[.slice za t.zones.length zc, .slice aa t.airs.length ac, .slice fa t.fls.length fc] 26) = W at *
  go_loopw [3] (fun i wr => ∃ (k : Nat), k ≤ t.zones.length ∧ i = .int .i64 k ∧ Hid (valZ [] t.zones = valZ ((t.zones.take k).map ZoneM.name) (t.zones.drop k)) ∧ Hid (TBox wr w.heap.size za t.zones.length zc aa t.airs.length ac fa t.fls.length fc) ∧ Hid (Below w.heap.size w wr)) (fun i _ => t.zones.length - (intOf i).toNat)
  case atStart => exact ⟨0, Nat.zero_le _, rfl, Lib.hid rfl, HT, HB⟩
  clear HT HB
  case round =>
    obtain ⟨k, hk, rfl, hval, hT, hbel⟩ := hrel
    have q0 := hT.out.2.1
    have q3 := hT.out.1
    by_cases hlt : k < t.zones.length
    · obtain ⟨b, off, hza, hb, hcs⟩ := zone_cells (HZ.out.below hbel.out) (by omega)
      obtain ⟨sa, scap, c1, c2, c3, s1, s2, s3⟩ := hcs k hlt
      rw [hza] at q0
      have S3 := Lib.hid s3
      clear s3 hcs
      replace s1 : (zAt t.zones k).name.size ≤ maxLen := by unfold maxLen; omega
      have hbr : b < wr.heap.size := hb
      go_wp2_with fail
      refine (validateR_wide _ _ _ _ _ _ s1 s2 S3.out).mono ?_
      rintro e w1 ⟨rfl, hb1⟩
      have HB1 := Lib.hid (Below.then hbel.out hb1)
      have HT1 := Lib.hid (hT.out.below hb1)
      have ez : valZone (zAt t.zones k).name.data.toList (zAt t.zones k).off (zAt t.zones k).sh = zval (zAt t.zones k) := rfl
      simp only [ez]
      by_cases e0 : zval (zAt t.zones k) = 0
      · have hlk : (t.zones.take k).length = k := by rw [List.length_take]; omega
        have C1 := Lib.hid (fun dd os => Calls.regrown_of (Calls.still (zoneIx_any (t.zones.take k) (zAt t.zones k).name (some ⟨b, off, none⟩) zc (grow (redrawn w1 dd) os) (((hza ▸ (HZ.out.below HB1.out)).take k).below (below_regrown w1 dd os)) (by omega))))
        rw [hlk] at C1
        have x0 := HT1.out.2.1
        have xl := HT1.out.1
        rw [hza] at x0
        have y0 := below_cell c1 hb hb1
        have yl : b < w1.heap.size := Nat.lt_of_lt_of_le hb hb1.size
        rw [e0]
        clear hb1 c1 c2 c3 S3 ez
        go_wp2_with fail
        have r0 := fun dd os => cell_regrown x0 dd os
        have r1 := fun dd os => cell_regrown y0 dd os
        refine wp_region_quiet_below (by kernel_rfl) (by kernel_rfl) ?_
        repeat (first | go_big_quiet_step (first | (with_reducible exact C1.out _ _)) | quiet_step (first | (with_reducible exact C1.out _ _)))
        refine wpQuiet_nil ?_
        intro _ hw'
        obtain ⟨⟨dq, osq⟩, hw''⟩ := hw'
        subst hw''
        have HB2 := Lib.hid (Below.then HB1.out (below_regrown w1 dq osq))
        have HT2 := Lib.hid (HT1.out.below (below_regrown w1 dq osq))
        clear r0 r1 C1 x0 y0
        generalize grow (redrawn w1 dq) osq = W2 at *
        have hix := ixF_has ZoneM.name (zAt t.zones k).name 0 (t.zones.take k)
        by_cases e1 : 0 ≤ zoneIx (t.zones.take k) (zAt t.zones k).name
        · have hst := Lib.hid (hval.out.trans (valZ_dup hlt e0 (by rw [← hix]; exact decide_eq_true e1)))
          have hr := Lib.hid (show valTT t = 7 from Hv.out.trans (by rw [hst.out]; rfl))
          clear hix
          go_wp2_with fail
          go_ret
          exact ⟨ret_int hr.out.symm, HB2.out⟩
        · have hst := Lib.hid (hval.out.trans (valZ_go hlt e0 (by rw [← hix]; exact decide_eq_false e1)))
          clear hix
          go_wp2_with fail
          go_roundw
          case rel => exact ⟨k + 1, by omega, by go_num, Lib.hid (by rw [take_z _ _ hlt, List.map_append]; exact hst.out), HT2, HB2⟩
          case measure => simp [intOf]; omega
      · have hst := Lib.hid (hval.out.trans (valZ_bad hlt e0))
        have hr := Lib.hid (show valTT t = zval (zAt t.zones k) from Hv.out.trans (by rw [hst.out]; exact if_pos e0))
        clear hb1 c1 c2 c3 S3 ez
        go_wp2_with fail
        go_ret
        exact ⟨ret_int hr.out.symm, HB1.out⟩
    · obtain rfl : k = t.zones.length := by omega
      have hzd : valZ [] t.zones = (0, t.zones.map ZoneM.name) := hval.out.trans (by rw [List.drop_length, List.take_length]; rfl)
      have Hv2 := Lib.hid (show valTT t = if (valA (t.zones.map ZoneM.name) [] t.airs).1 ≠ 0 then (valA (t.zones.map ZoneM.name) [] t.airs).1 else valF (valA (t.zones.map ZoneM.name) [] t.airs).2 none t.fls from Hv.out.trans (by rw [hzd]; exact if_neg (by simp)))
      clear hzd Hv hval hk hlt
      have q0 := hT.out.2.1
      have q1 := hT.out.2.2.1
      have q2 := hT.out.2.2.2
      have q3 := hT.out.1
      go_wp2_with fail
      clear q0 q1 q2 q3
      go_loopw [5] (fun i wr => ∃ (k : Nat), k ≤ t.airs.length ∧ i = .int .i64 k ∧ Hid (valA (t.zones.map ZoneM.name) [] t.airs = valA (t.zones.map ZoneM.name) ((t.airs.take k).map AirM.code) (t.airs.drop k)) ∧ Hid (TBox wr w.heap.size za t.zones.length zc aa t.airs.length ac fa t.fls.length fc) ∧ Hid (Below w.heap.size w wr)) (fun i _ => t.airs.length - (intOf i).toNat)
      case atStart => exact ⟨0, Nat.zero_le _, rfl, Lib.hid rfl, hT, hbel⟩
      clear hT hbel
      case round =>
        obtain ⟨k, hk, rfl, hval, hT, hbel⟩ := hrel
        have q1 := hT.out.2.2.1
        have q3 := hT.out.1
        by_cases hlt : k < t.airs.length
        · obtain ⟨b, off, haa, hb, hcs⟩ := air_cells (HA.out.below hbel.out) (by omega)
          obtain ⟨c1, c2, s1, s2⟩ := hcs k hlt
          rw [haa] at q1
          have Haa := Lib.hid haa
          clear hcs haa
          have HBo := Lib.hid (Below.then hbel.out (below_new wr (Obj.cells #[.string (aAt t.airs k).code, .string (aAt t.airs k).zone] 88)))
          cases e1 : airB (aAt t.airs k).code.data.toList
          · have hst := Lib.hid (hval.out.trans (valA_bad hlt e1))
            have hr := Lib.hid (show valTT t = 1 from Hv2.out.trans (by rw [hst.out]; rfl))
            go_wp2_with (go_at_call 53; refine (isAirportR_any _ _ s1).mono ?_; rintro e w' ⟨rfl, rfl⟩)
            go_ret
            exact ⟨ret_int hr.out.symm, HBo.out⟩
          have hlk : (t.airs.take k).length = k := by rw [List.length_take]; omega
          have HT1 := Lib.hid (hT.out.below (below_new wr (Obj.cells #[.string (aAt t.airs k).code, .string (aAt t.airs k).zone] 88)))
          have hnb := heap_new wr (Obj.cells #[.string (aAt t.airs k).code, .string (aAt t.airs k).zone] 88)
          have x0 : (wr.alloc (Obj.cells #[.string (aAt t.airs k).code, .string (aAt t.airs k).zone] 88)).cell? ⟨wr.heap.size, 0, none⟩ = some (.string (aAt t.airs k).code) := cellW (j := 0) hnb rfl
          have x1 : (wr.alloc (Obj.cells #[.string (aAt t.airs k).code, .string (aAt t.airs k).zone] 88)).cell? ⟨wr.heap.size, 1, none⟩ = some (.string (aAt t.airs k).zone) := cellW (j := 1) hnb rfl
          have xl := lt_of_block hnb
          have hbl : b < (wr.alloc (Obj.cells #[.string (aAt t.airs k).code, .string (aAt t.airs k).zone] 88)).heap.size := Nat.lt_trans hb xl
          clear hnb
          go_wp2_with (go_at_call 53; refine (isAirportR_any _ _ s1).mono ?_; rintro e w' ⟨rfl, rfl⟩)
          generalize wr.alloc (Obj.cells #[.string (aAt t.airs k).code, .string (aAt t.airs k).zone] 88) = w1 at *
          have C1 := Lib.hid (fun dd os => Calls.regrown_of (Calls.still (airIx_any (t.airs.take k) (aAt t.airs k).code (some ⟨b, off, none⟩) ac (grow (redrawn w1 dd) os) (((Haa.out ▸ (HA.out.below HBo.out)).take k).below (below_regrown w1 dd os)) (by omega))))
          rw [hlk] at C1
          have z1 := HT1.out.2.2.1
          have zl := HT1.out.1
          rw [Haa.out] at z1
          have r0 := fun dd os => cell_regrown z1 dd os
          have r1 := fun dd os => cell_regrown x0 dd os
          refine wp_region_quiet_below (by kernel_rfl) (by kernel_rfl) ?_
          repeat (first | go_big_quiet_step (first | (with_reducible exact C1.out _ _)) | quiet_step (first | (with_reducible exact C1.out _ _)))
          refine wpQuiet_nil ?_
          intro _ hw'
          obtain ⟨⟨dq, osq⟩, hw''⟩ := hw'
          subst hw''
          have HB2 := Lib.hid (Below.then HBo.out (below_regrown w1 dq osq))
          have HT2 := Lib.hid (HT1.out.below (below_regrown w1 dq osq))
          have y1 := cell_regrown x1 dq osq
          have yl : wr.heap.size < (grow (redrawn w1 dq) osq).heap.size := Nat.lt_of_lt_of_le xl (below_regrown w1 dq osq).size
          clear r0 r1 C1 x0 x1 z1 zl
          generalize grow (redrawn w1 dq) osq = W2 at *
          have hix := ixF_has AirM.code (aAt t.airs k).code 0 (t.airs.take k)
          by_cases e2 : 0 ≤ airIx (t.airs.take k) (aAt t.airs k).code
          · have hst := Lib.hid (hval.out.trans (valA_dup hlt e1 (by rw [← hix]; exact decide_eq_true e2)))
            have hr := Lib.hid (show valTT t = 7 from Hv2.out.trans (by rw [hst.out]; rfl))
            clear hix
            go_wp2_with fail
            go_ret
            exact ⟨ret_int hr.out.symm, HB2.out⟩
          · have hh2 := Lib.hid (show hasB ((t.airs.take k).map AirM.code) (aAt t.airs k).code = false by rw [← hix]; exact decide_eq_false e2)
            clear hix
            have hix := ixF_has ZoneM.name (aAt t.airs k).zone 0 t.zones
            have p0 := HT2.out.2.1
            have pl := HT2.out.1
            go_wp2_with fail
            refine (zoneIx_any t.zones (aAt t.airs k).zone za zc _ (HZ.out.below HB2.out) (by omega)).mono ?_
            rintro e w' ⟨rfl, rfl⟩
            by_cases e3 : zoneIx t.zones (aAt t.airs k).zone < 0
            · have hst := Lib.hid (hval.out.trans (valA_unk hlt e1 hh2.out (by rw [← hix]; simpa [zoneIx] using e3)))
              have hr := Lib.hid (show valTT t = 6 from Hv2.out.trans (by rw [hst.out]; rfl))
              clear hix
              go_wp2_with fail
              go_ret
              exact ⟨ret_int hr.out.symm, HB2.out⟩
            · have hst := Lib.hid (hval.out.trans (valA_go hlt e1 hh2.out (by rw [← hix]; simpa [zoneIx] using e3)))
              clear hix
              go_wp2_with fail
              go_roundw
              case rel =>
                have hst2 := Lib.hid (show valA (t.zones.map ZoneM.name) [] t.airs = valA (t.zones.map ZoneM.name) ((t.airs.take (k + 1)).map AirM.code) (t.airs.drop (k + 1)) by rw [take_a _ _ hlt, List.map_append]; exact hst.out)
                first | exact ⟨k + 1, by omega, by go_num, hst2, HT2, HB2⟩ | ((repeat apply Exists.intro); exact ⟨⟨k + 1, by omega, by go_num, hst2, HT2, HB2⟩, rfl⟩)
              case measure => simp [intOf]; omega
        · obtain rfl : k = t.airs.length := by omega
          have hzd : valA (t.zones.map ZoneM.name) [] t.airs = (0, codesT t) := hval.out.trans (by rw [List.drop_length, List.take_length]; rfl)
          have Hv3 := Lib.hid (show valTT t = fstE (flErr t) 0 t.fls.length from Hv2.out.trans (by rw [hzd]; exact (if_neg (by simp)).trans (valF_flErr t t.fls.length 0 (by omega))))
          clear hzd Hv2 hval hk hlt
          have q0 := hT.out.2.1
          have q1 := hT.out.2.2.1
          have q2 := hT.out.2.2.2
          have q3 := hT.out.1
          go_wp2_with fail
          clear q0 q1 q2 q3
          go_loopw [7] (fun i wr => ∃ (k : Nat), k ≤ t.fls.length ∧ i = .int .i64 k ∧ Hid (valTT t = fstE (flErr t) k (t.fls.length - k)) ∧ Hid (TBox wr w.heap.size za t.zones.length zc aa t.airs.length ac fa t.fls.length fc) ∧ Hid (Below w.heap.size w wr)) (fun i _ => t.fls.length - (intOf i).toNat)
          case atStart => exact ⟨0, Nat.zero_le _, rfl, Hv3, hT, hbel⟩
          clear hT hbel
          case round =>
            obtain ⟨k, hk, rfl, hval, hT, hbel⟩ := hrel
            have q0 := hT.out.2.1
            have q1 := hT.out.2.2.1
            have q2 := hT.out.2.2.2
            have q3 := hT.out.1
            by_cases hlt : k < t.fls.length
            · have hst := Lib.hid (hval.out.trans (show fstE (flErr t) k (t.fls.length - k) = if flErr t k ≠ 0 then flErr t k else fstE (flErr t) (k + 1) (t.fls.length - (k + 1)) by rw [show t.fls.length - k = (t.fls.length - (k + 1)) + 1 by omega, fstE]))
              clear hval
              go_wp2_with fail
              refine (flightR_any t za aa fa zc ac fc _ (by omega) (HA.out.below hbel.out) (HF.out.below hbel.out) k hlt (by omega)).mono ?_
              rintro e w1 ⟨rfl, hb1⟩
              have HB1 := Lib.hid (Below.then hbel.out hb1)
              have HT1 := Lib.hid (hT.out.below hb1)
              clear hb1 q0 q1 q2 q3
              by_cases e0 : flErr t k = 0
              · have hst2 := Lib.hid (hst.out.trans (if_neg (by simpa using e0)))
                rw [e0]
                go_wp2_with fail
                go_roundw
                case rel => exact ⟨k + 1, by omega, by go_num, hst2, HT1, HB1⟩
                case measure => simp [intOf]; omega
              · have hst2 := Lib.hid (hst.out.trans (if_pos e0))
                go_wp2_with fail
                go_ret
                exact ⟨ret_int hst2.out.symm, HB1.out⟩
            · obtain rfl : k = t.fls.length := by omega
              have hr := Lib.hid (show valTT t = 0 from hval.out.trans (by rw [Nat.sub_self, fstE]))
              go_wp2_with fail
              go_ret
              exact ⟨ret_int hr.out.symm, hbel.out⟩
end Go.Proofs.YtpgbckgjlgecpaaGreat
