/- merged texts: Ty1 Ty2 Ty3 Ty4 Ty5 Ty6 Fo1 Cmp3 Fo2 Fo3 At -/
import Derived.StillTailTactics
import Derived.Deep.OwnRows
import Derived.Laws.OwnMore
import Derived.Maps.Range
import Derived.Lib.Mul64
import Derived.Laws.Bits64b
import Derived.Test.YtpgbckgjlgecpaaGreatG2
import Derived.Test.YtpgbckgjlgecpaaGreatG1
/- contracts of package types: AttributeType -/
namespace Go.Proofs.YtpgbckgjlgecpaaGreat
open Go.RowKit Go.Sort
set_option linter.unusedVariables false
set_option linter.unusedSimpArgs false
set_option maxRecDepth 100000
def dNum : List (List UInt8) := [[108, 101, 103, 115], [104, 101, 97, 100, 115], [116, 121, 112, 101, 115]]
def dDur : List (List UInt8) := [[98, 108, 111, 99, 107], [115, 112, 97, 110], [110, 105, 103, 104, 116], [108, 111, 110, 103, 101, 115, 116], [115, 104, 111, 114, 116, 101, 115, 116], [115, 104, 105, 102, 116]]
def dClk : List (List UInt8) := [[115, 116, 97, 114, 116], [101, 110, 100]]
def pNum : List (List UInt8) := [[100, 117, 116, 105, 101, 115], [108, 101, 103, 115], [104, 101, 97, 100, 115], [100, 97, 121, 115]]
def pDur : List (List UInt8) := [[98, 108, 111, 99, 107], [115, 112, 97, 110], [99, 114, 101, 100, 105, 116]]
def dutyK (s : ByteArray) : Int := if inWords dNum s = true then 1 else if inWords dDur s = true then 2 else if inWords dClk s = true then 3 else 0
def pairK (s : ByteArray) : Int := if inWords pNum s = true then 1 else if inWords pDur s = true then 2 else 0
def befW : ByteArray := ⟨#[98, 101, 102, 111, 114, 101, 46]⟩
def aftW : ByteArray := ⟨#[97, 102, 116, 101, 114, 46]⟩
def preB (s p : ByteArray) : Bool := decide (p.size ≤ s.size) && ((s.extract 0 p.size).toList == p.toList)
def restK (s : ByteArray) : Int := if (s.toList == [114, 101, 115, 116]) = true then 2 else if (s.toList == [110, 105, 103, 104, 116, 115]) = true then 1 else if (s.toList == [104, 111, 109, 101]) = true then 4
  else if preB s befW = true then dutyK (s.extract 7 s.size) else if preB s aftW = true then dutyK (s.extract 6 s.size) else 0
def attrK (k : Int) (s : ByteArray) : Int := if (k == 1) = true then dutyK s else if (k == 2) = true then restK s else if (k == 3) = true then pairK s else 0
set_option maxHeartbeats 400000 in
theorem dutyType_any (s : ByteArray) (w : World) : Calls Tryz.prog 186 #[.string s] w fun e w' => e = .returned (.int .i64 (dutyK s)) ∧ w = w' := by
  go_enter Tryz.func186, Tryz.ntmps186
  go_wp2_with fail
  all_goals (go_ret; exact ⟨ret_int (by first | (simp only [dutyK, inWords, dNum, dDur, dClk, List.any_cons, List.any_nil, *]; rfl) | simp_all), rfl⟩)
set_option maxHeartbeats 400000 in
theorem pairingType_any (s : ByteArray) (w : World) : Calls Tryz.prog 188 #[.string s] w fun e w' => e = .returned (.int .i64 (pairK s)) ∧ w = w' := by
  go_enter Tryz.func188, Tryz.ntmps188
  go_wp2_with fail
  all_goals (go_ret; exact ⟨ret_int (by first | (simp only [pairK, inWords, pNum, pDur, List.any_cons, List.any_nil, *]; rfl) | simp_all), rfl⟩)
set_option maxHeartbeats 400000 in
theorem hasPrefix_any (s p : ByteArray) (w : World) : Calls Tryz.prog 236 #[.string s, .string p] w fun e w' => e = .returned (.bool (preB s p)) ∧ w = w' := by
  by_cases h : p.size ≤ s.size
  · have hz := Lib.hid (show preB s p = ((s.extract 0 p.size).toList == p.toList) by simp [preB, h])
    go_enter Tryz.func236, Tryz.ntmps236
    go_wp2_with fail
    all_goals (go_ret; exact ⟨ret_boolE hz.out.symm, rfl⟩)
  · have hz := Lib.hid (show preB s p = false by simp [preB, h])
    go_enter Tryz.func236, Tryz.ntmps236
    go_wp2_with fail
    all_goals (go_ret; exact ⟨ret_boolE hz.out.symm, rfl⟩)
set_option maxHeartbeats 400000 in
theorem cutPre_yes (s p : ByteArray) (w : World) (hs : s.size ≤ 140737488355328) (h : preB s p = true) : Calls Tryz.prog 229 #[.string s, .string p] w fun e w' => e = .returned (.tuple #[.string (s.extract p.size s.size), .bool true]) ∧ w = w' := by
  have h1 : p.size ≤ s.size := by simp [preB] at h; exact h.1
  go_enter Tryz.func229, Tryz.ntmps229
  go_wp2_with (go_at_call 236; refine (hasPrefix_any _ _ _).mono ?_; rintro e w' ⟨rfl, rfl⟩)
  go_ret2
  exact ⟨rfl, rfl⟩
set_option maxHeartbeats 400000 in
theorem cutPre_no (s p : ByteArray) (w : World) (h : preB s p = false) : Calls Tryz.prog 229 #[.string s, .string p] w fun e w' => e = .returned (.tuple #[.string s, .bool false]) ∧ w = w' := by
  go_enter Tryz.func229, Tryz.ntmps229
  go_wp2_with (go_at_call 236; refine (hasPrefix_any _ _ _).mono ?_; rintro e w' ⟨rfl, rfl⟩)
  go_ret2
  exact ⟨rfl, rfl⟩
set_option maxHeartbeats 400000 in
theorem cutPreS_yes (s p : ByteArray) (w : World) (hs : s.size ≤ 140737488355328) (h : preB s p = true) : Calls Tryz.prog 213 #[.string s, .string p] w fun e w' => e = .returned (.tuple #[.string (s.extract p.size s.size), .bool true]) ∧ w = w' := by
  have h1 : p.size ≤ s.size := by simp [preB] at h; exact h.1
  go_enter Tryz.func213, Tryz.ntmps213
  go_wp2_with fail
  refine (cutPre_yes _ _ _ hs h).mono ?_
  rintro e w' ⟨rfl, rfl⟩
  go_wp2_with fail
  go_ret2
  exact ⟨rfl, rfl⟩
set_option maxHeartbeats 400000 in
theorem cutPreS_no (s p : ByteArray) (w : World) (h : preB s p = false) : Calls Tryz.prog 213 #[.string s, .string p] w fun e w' => e = .returned (.tuple #[.string s, .bool false]) ∧ w = w' := by
  go_enter Tryz.func213, Tryz.ntmps213
  go_wp2_with fail
  refine (cutPre_no _ _ _ h).mono ?_
  rintro e w' ⟨rfl, rfl⟩
  go_wp2_with fail
  go_ret2
  exact ⟨rfl, rfl⟩
set_option maxHeartbeats 800000 in
theorem restType_any (s : ByteArray) (w : World) (hs : s.size ≤ 140737488355328) : Calls Tryz.prog 187 #[.string s] w fun e w' => e = .returned (.int .i64 (restK s)) ∧ w = w' := by
  cases h0 : (s.toList == [114, 101, 115, 116])
  rotate_left
  · have hz := Lib.hid (show restK s = 2 by simp only [restK, h0]; rfl)
    go_enter Tryz.func187, Tryz.ntmps187
    go_wp2_with fail
    go_ret
    exact ⟨ret_int hz.out.symm, rfl⟩
  cases h1 : (s.toList == [110, 105, 103, 104, 116, 115])
  rotate_left
  · have hz := Lib.hid (show restK s = 1 by simp only [restK, h0, h1]; rfl)
    go_enter Tryz.func187, Tryz.ntmps187
    go_wp2_with fail
    go_ret
    exact ⟨ret_int hz.out.symm, rfl⟩
  cases h2 : (s.toList == [104, 111, 109, 101])
  rotate_left
  · have hz := Lib.hid (show restK s = 4 by simp only [restK, h0, h1, h2]; rfl)
    go_enter Tryz.func187, Tryz.ntmps187
    go_wp2_with fail
    go_ret
    exact ⟨ret_int hz.out.symm, rfl⟩
  cases h3 : preB s befW
  · cases h4 : preB s aftW
    · have hz := Lib.hid (show restK s = 0 by simp only [restK, h0, h1, h2, h3, h4]; rfl)
      go_enter Tryz.func187, Tryz.ntmps187
      go_wp2_with fail
      refine (cutPreS_no _ _ _ h3).mono ?_
      rintro e w' ⟨rfl, rfl⟩
      go_wp2_with fail
      refine (cutPreS_no _ _ _ h4).mono ?_
      rintro e w' ⟨rfl, rfl⟩
      go_wp2_with fail
      go_ret
      exact ⟨ret_int hz.out.symm, rfl⟩
    · have hz := Lib.hid (show restK s = dutyK (s.extract 6 s.size) by simp only [restK, h0, h1, h2, h3, h4]; rfl)
      go_enter Tryz.func187, Tryz.ntmps187
      go_wp2_with fail
      refine (cutPreS_no _ _ _ h3).mono ?_
      rintro e w' ⟨rfl, rfl⟩
      go_wp2_with fail
      refine (cutPreS_yes _ _ _ hs h4).mono ?_
      rintro e w' ⟨rfl, rfl⟩
      go_wp2_with fail
      refine (dutyType_any _ _).mono ?_
      rintro e w' ⟨rfl, rfl⟩
      go_wp2_with fail
      go_ret
      exact ⟨ret_int hz.out.symm, rfl⟩
  · have hz := Lib.hid (show restK s = dutyK (s.extract 7 s.size) by simp only [restK, h0, h1, h2, h3]; rfl)
    go_enter Tryz.func187, Tryz.ntmps187
    go_wp2_with fail
    refine (cutPreS_yes _ _ _ hs h3).mono ?_
    rintro e w' ⟨rfl, rfl⟩
    go_wp2_with fail
    refine (dutyType_any _ _).mono ?_
    rintro e w' ⟨rfl, rfl⟩
    go_wp2_with fail
    go_ret
    exact ⟨ret_int hz.out.symm, rfl⟩
/-- the kind and the error -/
def attrE (k : Int) : Int := if (k == 0) = true then 6 else 0
set_option maxHeartbeats 800000 in
theorem attributeType_any (k : Int) (s : ByteArray) (w : World) (hs : s.size ≤ 140737488355328) : Calls Tryz.prog 138 #[.int .i64 k, .string s] w fun e w' => e = .returned (.tuple #[.int .i64 (attrK k s), .int .i64 (attrE (attrK k s))]) ∧ w = w' := by
  by_cases k1 : k = 1
  · subst k1
    have hz := Lib.hid (show attrK 1 s = dutyK s from rfl)
    cases h : (dutyK s == 0)
    · have hq := Lib.hid (show attrE (dutyK s) = 0 by simp only [attrE, h]; rfl)
      go_enter Tryz.func138, Tryz.ntmps138
      go_wp2_with fail
      refine (dutyType_any _ _).mono ?_
      rintro e w' ⟨rfl, rfl⟩
      go_wp2_with fail
      go_ret2
      exact ⟨ret_int2 hz.out.symm (by rw [hz.out, hq.out]), rfl⟩
    · have hq := Lib.hid (show dutyK s = 0 by simpa using h)
      go_enter Tryz.func138, Tryz.ntmps138
      go_wp2_with fail
      refine (dutyType_any _ _).mono ?_
      rintro e w' ⟨rfl, rfl⟩
      go_wp2_with fail
      go_ret2
      exact ⟨ret_int2 (by rw [hz.out, hq.out]) (by rw [hz.out, hq.out]; rfl), rfl⟩
  by_cases k2 : k = 2
  · subst k2
    have hz := Lib.hid (show attrK 2 s = restK s from rfl)
    cases h : (restK s == 0)
    · have hq := Lib.hid (show attrE (restK s) = 0 by simp only [attrE, h]; rfl)
      go_enter Tryz.func138, Tryz.ntmps138
      go_wp2_with fail
      refine (restType_any _ _ hs).mono ?_
      rintro e w' ⟨rfl, rfl⟩
      go_wp2_with fail
      go_ret2
      exact ⟨ret_int2 hz.out.symm (by rw [hz.out, hq.out]), rfl⟩
    · have hq := Lib.hid (show restK s = 0 by simpa using h)
      go_enter Tryz.func138, Tryz.ntmps138
      go_wp2_with fail
      refine (restType_any _ _ hs).mono ?_
      rintro e w' ⟨rfl, rfl⟩
      go_wp2_with fail
      go_ret2
      exact ⟨ret_int2 (by rw [hz.out, hq.out]) (by rw [hz.out, hq.out]; rfl), rfl⟩
  by_cases k3 : k = 3
  · subst k3
    have hz := Lib.hid (show attrK 3 s = pairK s from rfl)
    cases h : (pairK s == 0)
    · have hq := Lib.hid (show attrE (pairK s) = 0 by simp only [attrE, h]; rfl)
      go_enter Tryz.func138, Tryz.ntmps138
      go_wp2_with fail
      refine (pairingType_any _ _).mono ?_
      rintro e w' ⟨rfl, rfl⟩
      go_wp2_with fail
      go_ret2
      exact ⟨ret_int2 hz.out.symm (by rw [hz.out, hq.out]), rfl⟩
    · have hq := Lib.hid (show pairK s = 0 by simpa using h)
      go_enter Tryz.func138, Tryz.ntmps138
      go_wp2_with fail
      refine (pairingType_any _ _).mono ?_
      rintro e w' ⟨rfl, rfl⟩
      go_wp2_with fail
      go_ret2
      exact ⟨ret_int2 (by rw [hz.out, hq.out]) (by rw [hz.out, hq.out]; rfl), rfl⟩
  · have e1 : (k == 1) = false := by simpa using k1
    have e2 : (k == 2) = false := by simpa using k2
    have e3 : (k == 3) = false := by simpa using k3
    have hz := Lib.hid (show attrK k s = 0 by simp only [attrK, e1, e2, e3]; rfl)
    clear k1 k2 k3
    go_enter Tryz.func138, Tryz.ntmps138
    go_wp2_with fail
    go_ret2
    exact ⟨ret_int2 (by rw [hz.out]) (by rw [hz.out]; rfl), rfl⟩
end Go.Proofs.YtpgbckgjlgecpaaGreat
/- contracts of package types: result and what it calls -/
namespace Go.Proofs.YtpgbckgjlgecpaaGreat
open Go.RowKit Go.Sort
set_option linter.unusedVariables false
set_option linter.unusedSimpArgs false
set_option maxRecDepth 100000
def iAt (l : List Int) (k : Nat) : Int := l.getD k 0
theorem i_drop (l : List Int) (k : Nat) (h : k < l.length) : l.drop k = iAt l k :: l.drop (k + 1) := by
  rw [iAt, List.drop_eq_getElem_cons h, List.getD_eq_getElem?_getD, List.getElem?_eq_getElem h]; rfl
/-- a slice of ints -/
def IntsAt (w : World) (a : Option Addr) (l : List Int) : Prop := l = [] ∨ ∃ b off, a = some ⟨b, off, none⟩ ∧ b < w.heap.size ∧ ∀ i, i < l.length → w.cell? ⟨b, off + i, none⟩ = some (.int .i64 (iAt l i))
theorem IntsAt.below {w w' : World} {a : Option Addr} {l : List Int} (h : IntsAt w a l) (hw : Below w.heap.size w w') : IntsAt w' a l := by
  rcases h with h | ⟨b, off, ha, hb, hc⟩
  · exact .inl h
  · exact .inr ⟨b, off, ha, Nat.lt_of_lt_of_le hb hw.size, fun i hi => (hw.cell (p := ⟨b, off + i, none⟩) hb).trans (hc i hi)⟩
theorem IntsAt.cells {w : World} {a : Option Addr} {l : List Int} (h : IntsAt w a l) (hl : 0 < l.length) : ∃ b off, a = some ⟨b, off, none⟩ ∧ b < w.heap.size ∧ ∀ i, i < l.length → w.cell? ⟨b, off + i, none⟩ = some (.int .i64 (iAt l i)) := by
  rcases h with rfl | h
  · simp at hl
  · exact h
def allB : List Int → Int → Bool
  | [], _ => true
  | x :: l, k => (x == k) && allB l k
def amtB (k : Int) : Bool := (k == 1) || (k == 2)
def prodK (o a b : Int) : Int := if ((a == 1) && (b == 1)) = true then 1 else if ((a == 2) && (b == 1)) = true then 2 else if ((o == 10) && (a == 1) && (b == 2)) = true then 2 else if ((o == 11) && (a == 2) && (b == 2)) = true then 1 else 0
def cmpB (o : Int) (t : List Int) : Bool := if (o == 15) = true then allB t 3 else if (o == 16) = true then amtB (iAt t 0) && (iAt t 0 == iAt t 1) else if (o == 17) = true then amtB (iAt t 0) && (iAt t 0 == iAt t 1) else if (o == 18) = true then iAt t 0 == iAt t 1 else allB t 4
def resK (o : Int) (t : List Int) : Int :=
  if (o == 1) = true then 1 else if (o == 2) = true then 2 else if (o == 3) = true then 3 else if (o == 4) = true then 4 else if (o == 5) = true then 4
  else if ((o == 7) || (o == 8) || (o == 9) || (o == 12) || (o == 13)) = true then (if (amtB (iAt t 0) && allB t (iAt t 0)) = true then iAt t 0 else 0)
  else if ((o == 10) || (o == 11)) = true then prodK o (iAt t 0) (iAt t 1) else if (o == 14) = true then (if ((iAt t 0 == 4) && (iAt t 1 == iAt t 2)) = true then iAt t 1 else 0)
  else if cmpB o t = true then 4 else 0
set_option maxHeartbeats 400000 in
theorem amount_any (k : Int) (w : World) : Calls Tryz.prog 237 #[.int .i64 k] w fun e w' => e = .returned (.bool (amtB k)) ∧ w = w' := by
  cases h : (k == 1)
  all_goals
    go_enter Tryz.func237, Tryz.ntmps237
    go_wp2_with fail
    all_goals (go_ret; exact ⟨ret_boolE (by simp [amtB, h]), rfl⟩)
set_option maxHeartbeats 400000 in
theorem product_any (o a b : Int) (w : World) : Calls Tryz.prog 239 #[.int .i64 o, .int .i64 a, .int .i64 b] w fun e w' => e = .returned (.int .i64 (prodK o a b)) ∧ w = w' := by
  cases a1 : (a == 1) <;> cases a2 : (a == 2) <;> cases b1 : (b == 1) <;> cases b2 : (b == 2) <;> cases o1 : (o == 10) <;> cases o2 : (o == 11)
  all_goals
    have hz := Lib.hid (show prodK o a b = _ by simp only [prodK, a1, a2, b1, b2, o1, o2, Bool.true_and, Bool.and_true, Bool.false_and, Bool.and_false, if_true, if_false, Bool.false_eq_true]; rfl)
    go_enter Tryz.func239, Tryz.ntmps239
    go_wp2_with fail
    all_goals (go_ret; exact ⟨ret_int hz.out.symm, rfl⟩)
set_option maxHeartbeats 800000 in
theorem all_any (l : List Int) (k : Int) (a : Option Addr) (cap : Nat) (w : World) (hl : l.length ≤ 140737488355328) (ha : IntsAt w a l) : Calls Tryz.prog 238 #[.slice a l.length cap, .int .i64 k] w fun e w' => e = .returned (.bool (allB l k)) ∧ w = w' := by
  have HA := Lib.hid ha
  clear ha
  go_enter Tryz.func238, Tryz.ntmps238
  go_wp2_with fail
  go_loop [9] (fun i => ∃ j : Nat, j ≤ l.length ∧ i = .int .i64 j ∧ Hid (allB l k = allB (l.drop j) k)) (fun i => l.length - (intOf i).toNat)
  case atStart => exact ⟨0, Nat.zero_le _, rfl, Lib.hid rfl⟩
  case round =>
    obtain ⟨j, hj, rfl, hval⟩ := hrel
    by_cases hlt : j < l.length
    · obtain ⟨b, off, rfl, hb, hcs⟩ := HA.out.cells (by omega)
      have c0 := hcs j hlt
      clear hcs HA
      have hst := Lib.hid (hval.out.trans (by rw [i_drop l j hlt, allB]))
      cases e0 : (iAt l j == k)
      · have e1 : (iAt l j != k) = true := by simpa using e0
        have hr := Lib.hid (hst.out.trans (by rw [e0, Bool.false_and]))
        go_wp2_with fail
        go_ret
        exact ⟨ret_boolE hr.out.symm, rfl⟩
      · have e1 : (iAt l j != k) = false := by simpa using e0
        have hr := Lib.hid (hst.out.trans (by rw [e0, Bool.true_and]))
        go_wp2_with fail
        go_round
        case rel => exact ⟨j + 1, by omega, by go_num, hr⟩
        case measure => simp [intOf]; omega
    · obtain rfl : j = l.length := by omega
      have hr := Lib.hid (show allB l k = true from hval.out.trans (by rw [List.drop_length]; rfl))
      go_wp2_with fail
      go_ret
      exact ⟨ret_boolE hr.out.symm, rfl⟩
set_option maxHeartbeats 1600000 in
theorem comparison_any (o : Int) (l : List Int) (a : Option Addr) (cap : Nat) (w : World) (hl : l.length ≤ 140737488355328) (ho : 15 ≤ o) (hf : argsFitB o l.length = true) (ha : IntsAt w a l) : Calls Tryz.prog 240 #[.int .i64 o, .slice a l.length cap] w fun e w' => e = .returned (.bool (cmpB o l)) ∧ Below w.heap.size w w' := by
  by_cases o15 : o = 15
  · subst o15
    clear ho hf
    go_enter Tryz.func240, Tryz.ntmps240
    go_wp2_with fail
    refine (all_any l 3 a cap w hl ha).mono ?_
    rintro e w' ⟨rfl, rfl⟩
    go_wp2_with fail
    go_ret
    exact ⟨rfl, Below.refl _ _⟩
  by_cases o16 : o = 16 ∨ o = 17 ∨ o = 18
  · have h2 : l.length = 2 := by rcases o16 with rfl | rfl | rfl <;> simp [argsFitB] at hf <;> omega
    obtain ⟨b, off, rfl, hb, hcs⟩ := ha.cells (by omega)
    have c0 := hcs 0 (by omega)
    have c1 := hcs 1 (by omega)
    rw [Nat.add_zero] at c0
    clear hcs ha hf ho o15
    rw [h2]
    clear h2 hl
    rcases o16 with rfl | rfl | rfl
    · cases e0 : amtB (iAt l 0)
      all_goals
        have hz := Lib.hid (show cmpB 16 l = _ by simp only [cmpB, e0, Bool.true_and, Bool.false_and]; rfl)
        have am := Lib.hid (fun n => Calls.quiet_of_same (w := w) (n := n) ((amount_any (iAt l 0) (w.drewN n)).mono fun _ _ h => ⟨h.1, h.2.symm⟩))
        rw [e0] at am
        go_enter Tryz.func240, Tryz.ntmps240
        go_wp2_with fail
        go_quiet ((go_at_call 237; exact am.out _))
        go_wp2_with fail
        go_ret
        exact ⟨ret_boolE hz.out.symm, below_drewN (Below.refl _ _) _⟩
    · cases e0 : amtB (iAt l 0)
      all_goals
        have hz := Lib.hid (show cmpB 17 l = _ by simp only [cmpB, e0, Bool.true_and, Bool.false_and]; rfl)
        have am := Lib.hid (fun n => Calls.quiet_of_same (w := w) (n := n) ((amount_any (iAt l 0) (w.drewN n)).mono fun _ _ h => ⟨h.1, h.2.symm⟩))
        rw [e0] at am
        go_enter Tryz.func240, Tryz.ntmps240
        go_wp2_with fail
        go_quiet ((go_at_call 237; exact am.out _))
        go_wp2_with fail
        go_ret
        exact ⟨ret_boolE hz.out.symm, below_drewN (Below.refl _ _) _⟩
    · go_enter Tryz.func240, Tryz.ntmps240
      go_wp2_with fail
      go_quiet (fail)
      go_wp2_with fail
      go_ret
      exact ⟨rfl, below_drewN (Below.refl _ _) _⟩
  · have e1 : (o == 15) = false := by simpa using o15
    have e2 : (o == 16) = false := by simp; omega
    have e3 : (o == 17) = false := by simp; omega
    have e4 : (o == 18) = false := by simp; omega
    have hz := Lib.hid (show cmpB o l = allB l 4 by simp only [cmpB, e1, e2, e3, e4]; rfl)
    clear o15 o16 ho hf
    go_enter Tryz.func240, Tryz.ntmps240
    go_wp2_with fail
    refine (all_any l 4 a cap w hl ha).mono ?_
    rintro e w' ⟨rfl, rfl⟩
    go_wp2_with fail
    go_ret
    exact ⟨ret_boolE hz.out.symm, Below.refl _ _⟩
set_option maxHeartbeats 3200000 in
theorem result_any (o : Int) (l : List Int) (a : Option Addr) (cap : Nat) (w : World) (hl : l.length ≤ 140737488355328) (ho : 1 ≤ o) (ho2 : o ≤ 22) (ho6 : o ≠ 6) (hf : argsFitB o l.length = true) (ha : IntsAt w a l) : Calls Tryz.prog 230 #[.int .i64 o, .slice a l.length cap] w fun e w' => e = .returned (.int .i64 (resK o l)) ∧ Below w.heap.size w w' := by
  by_cases g1 : o = 1 ∨ o = 2 ∨ o = 3 ∨ o = 4 ∨ o = 5
  · clear hf ha ho ho2 ho6
    rcases g1 with rfl | rfl | rfl | rfl | rfl
    all_goals
      go_enter Tryz.func230, Tryz.ntmps230
      go_wp2_with fail
      go_ret
      exact ⟨rfl, Below.refl _ _⟩
  by_cases g2 : o = 7 ∨ o = 8 ∨ o = 9 ∨ o = 12 ∨ o = 13
  · have h1 : 0 < l.length := by rcases g2 with rfl | rfl | rfl | rfl | rfl <;> simp [argsFitB] at hf <;> omega
    have HA := Lib.hid ha
    obtain ⟨b, off, rfl, hb, hcs⟩ := ha.cells h1
    have c0 := hcs 0 h1
    rw [Nat.add_zero] at c0
    have hz : resK o l = if (amtB (iAt l 0) && allB l (iAt l 0)) = true then iAt l 0 else 0 := by rcases g2 with rfl | rfl | rfl | rfl | rfl <;> rfl
    have Hz := Lib.hid hz
    clear hcs hf ho ho2 ho6 g1 hz
    cases e0 : amtB (iAt l 0)
    · have hr := Lib.hid (Hz.out.trans (by rw [e0]; rfl : _ = (0 : Int)))
      rcases g2 with rfl | rfl | rfl | rfl | rfl
      all_goals
        go_enter Tryz.func230, Tryz.ntmps230
        go_wp2_with fail
        refine (amount_any _ _).mono ?_
        rintro e w' ⟨rfl, rfl⟩
        go_wp2_with fail
        go_ret
        exact ⟨ret_int hr.out.symm, Below.refl _ _⟩
    · cases e1 : allB l (iAt l 0)
      · have hr := Lib.hid (Hz.out.trans (by rw [e0, e1]; rfl : _ = (0 : Int)))
        rcases g2 with rfl | rfl | rfl | rfl | rfl
        all_goals
          go_enter Tryz.func230, Tryz.ntmps230
          go_wp2_with fail
          refine (amount_any _ _).mono ?_
          rintro e w' ⟨rfl, rfl⟩
          go_wp2_with fail
          refine (all_any l _ _ cap _ hl HA.out).mono ?_
          rintro e w' ⟨rfl, rfl⟩
          go_wp2_with fail
          go_ret
          exact ⟨ret_int hr.out.symm, Below.refl _ _⟩
      · have hr := Lib.hid (Hz.out.trans (by rw [e0, e1]; rfl : _ = iAt l 0))
        rcases g2 with rfl | rfl | rfl | rfl | rfl
        all_goals
          go_enter Tryz.func230, Tryz.ntmps230
          go_wp2_with fail
          refine (amount_any _ _).mono ?_
          rintro e w' ⟨rfl, rfl⟩
          go_wp2_with fail
          refine (all_any l _ _ cap _ hl HA.out).mono ?_
          rintro e w' ⟨rfl, rfl⟩
          go_wp2_with fail
          go_ret
          exact ⟨ret_int hr.out.symm, Below.refl _ _⟩
  by_cases g3 : o = 10 ∨ o = 11
  · have h2 : l.length = 2 := by rcases g3 with rfl | rfl <;> simp [argsFitB] at hf <;> omega
    obtain ⟨b, off, rfl, hb, hcs⟩ := ha.cells (by omega)
    have c0 := hcs 0 (by omega)
    have c1 := hcs 1 (by omega)
    rw [Nat.add_zero] at c0
    clear hcs ha hf ho ho2 ho6 g1 g2
    rw [h2]
    clear h2 hl
    rcases g3 with rfl | rfl
    · have am := Lib.hid (fun n => Calls.quiet_of_same (w := w) (n := n) ((product_any 10 (iAt l 0) (iAt l 1) (w.drewN n)).mono fun _ _ h => ⟨h.1, h.2.symm⟩))
      go_enter Tryz.func230, Tryz.ntmps230
      go_wp2_with fail
      go_quiet ((go_at_call 239; exact am.out _))
      go_wp2_with fail
      go_ret
      exact ⟨rfl, below_drewN (Below.refl _ _) _⟩
    · have am := Lib.hid (fun n => Calls.quiet_of_same (w := w) (n := n) ((product_any 11 (iAt l 0) (iAt l 1) (w.drewN n)).mono fun _ _ h => ⟨h.1, h.2.symm⟩))
      go_enter Tryz.func230, Tryz.ntmps230
      go_wp2_with fail
      go_quiet ((go_at_call 239; exact am.out _))
      go_wp2_with fail
      go_ret
      exact ⟨rfl, below_drewN (Below.refl _ _) _⟩
  by_cases g4 : o = 14
  · subst g4
    have h3 : l.length = 3 := by simp [argsFitB] at hf; omega
    obtain ⟨b, off, rfl, hb, hcs⟩ := ha.cells (by omega)
    have c0 := hcs 0 (by omega)
    have c1 := hcs 1 (by omega)
    have c2 := hcs 2 (by omega)
    rw [Nat.add_zero] at c0
    clear hcs ha hf ho ho2 ho6 g1 g2 g3
    rw [h3]
    clear h3 hl
    have Hz := Lib.hid (show resK 14 l = if ((iAt l 0 == 4) && (iAt l 1 == iAt l 2)) = true then iAt l 1 else 0 from rfl)
    cases e0 : (iAt l 0 == 4)
    · have hr := Lib.hid (Hz.out.trans (by rw [e0]; rfl : _ = (0 : Int)))
      go_enter Tryz.func230, Tryz.ntmps230
      go_wp2_with fail
      go_quiet (fail)
      go_wp2_with fail
      go_ret
      exact ⟨ret_int hr.out.symm, below_drewN (Below.refl _ _) _⟩
    · cases e1 : (iAt l 1 == iAt l 2)
      · have hr := Lib.hid (Hz.out.trans (by rw [e0, e1]; rfl : _ = (0 : Int)))
        go_enter Tryz.func230, Tryz.ntmps230
        go_wp2_with fail
        go_quiet (fail)
        go_wp2_with fail
        go_ret
        exact ⟨ret_int hr.out.symm, below_drewN (Below.refl _ _) _⟩
      · have hr := Lib.hid (Hz.out.trans (by rw [e0, e1]; rfl : _ = iAt l 1))
        go_enter Tryz.func230, Tryz.ntmps230
        go_wp2_with fail
        go_quiet (fail)
        go_wp2_with fail
        go_ret
        exact ⟨ret_int hr.out.symm, below_drewN (Below.refl _ _) _⟩
  · have h15 : 15 ≤ o := by omega
    have hz : resK o l = if cmpB o l = true then 4 else 0 := by
      obtain rfl | rfl | rfl | rfl | rfl | rfl | rfl | rfl : o = 15 ∨ o = 16 ∨ o = 17 ∨ o = 18 ∨ o = 19 ∨ o = 20 ∨ o = 21 ∨ o = 22 := by omega
      all_goals rfl
    have Hz := Lib.hid hz
    have HF := Lib.hid hf
    have n1 : (o == 1) = false := by simp; omega
    have n2 : (o == 2) = false := by simp; omega
    have n3 : (o == 3) = false := by simp; omega
    have n4 : (o == 4) = false := by simp; omega
    have n5 : (o == 5) = false := by simp; omega
    have n7 : (o == 7) = false := by simp; omega
    have n8 : (o == 8) = false := by simp; omega
    have n9 : (o == 9) = false := by simp; omega
    have n12 : (o == 12) = false := by simp; omega
    have n13 : (o == 13) = false := by simp; omega
    have n10 : (o == 10) = false := by simp; omega
    have n11 : (o == 11) = false := by simp; omega
    have n14 : (o == 14) = false := by simp; omega
    clear hz hf g1 g2 g3 g4 ho ho2 ho6
    cases e0 : cmpB o l
    · have hr := Lib.hid (Hz.out.trans (by rw [e0]; rfl : _ = (0 : Int)))
      go_enter Tryz.func230, Tryz.ntmps230
      go_wp2_with fail
      refine (comparison_any o l a cap w hl h15 HF.out ha).mono ?_
      rintro e w' ⟨rfl, hb⟩
      go_wp2_with fail
      go_ret
      exact ⟨ret_int hr.out.symm, hb⟩
    · have hr := Lib.hid (Hz.out.trans (by rw [e0]; rfl : _ = (4 : Int)))
      go_enter Tryz.func230, Tryz.ntmps230
      go_wp2_with fail
      refine (comparison_any o l a cap w hl h15 HF.out ha).mono ?_
      rintro e w' ⟨rfl, hb⟩
      go_wp2_with fail
      go_ret
      exact ⟨ret_int hr.out.symm, hb⟩
end Go.Proofs.YtpgbckgjlgecpaaGreat
/- types of expressions: plain; the checker in memory; newChecker -/
namespace Go.Proofs.YtpgbckgjlgecpaaGreat
open Go.RowKit Go.Sort
set_option linter.unusedVariables false
set_option linter.unusedSimpArgs false
set_option maxRecDepth 100000
mutual
def tyE (lk : ByteArray → Option (Int × Int)) (sc : Int) : ExprM → Int × Int
  | .mk o _ s l => if o = 6 then (if attrK sc s ≠ 0 then (attrK sc s, 0) else (lk s).getD (0, 6))
    else if (tyL lk sc l).1 ≠ 0 then (0, (tyL lk sc l).1) else if resK o (tyL lk sc l).2 ≠ 0 then (resK o (tyL lk sc l).2, 0) else (0, 9)
def tyL (lk : ByteArray → Option (Int × Int)) (sc : Int) : List ExprM → Int × List Int
  | [] => (0, [])
  | x :: l => if (tyE lk sc x).2 ≠ 0 then ((tyE lk sc x).2, []) else ((tyL lk sc l).1, (tyE lk sc x).1 :: (tyL lk sc l).2)
end
theorem tyE_err {lk : ByteArray → Option (Int × Int)} (h : ∀ s r, lk s = some r → r.2 ≠ 0 → r.1 = 0) (sc : Int) (x : ExprM) (he : (tyE lk sc x).2 ≠ 0) : (tyE lk sc x).1 = 0 := by
  obtain ⟨o, n, s, l⟩ := x
  rw [tyE] at he ⊢
  by_cases o6 : o = 6
  · rw [if_pos o6] at he ⊢
    by_cases h1 : attrK sc s ≠ 0
    · rw [if_pos h1] at he; exact absurd rfl he
    · rw [if_neg h1] at he ⊢
      cases hk : lk s with
      | none => rfl
      | some r => rw [hk] at he; exact h s r hk he
  · rw [if_neg o6] at he ⊢
    by_cases h1 : (tyL lk sc l).1 ≠ 0
    · rw [if_pos h1]
    · rw [if_neg h1] at he ⊢
      by_cases h2 : resK o (tyL lk sc l).2 ≠ 0
      · rw [if_pos h2] at he; exact absurd rfl he
      · rw [if_neg h2]
theorem tyL_ok {lk : ByteArray → Option (Int × Int)} {sc : Int} {l : List ExprM} {k : Nat} {ks : List Int} (hk : k < l.length) (h : tyL lk sc l = ((tyL lk sc (l.drop k)).1, ks ++ (tyL lk sc (l.drop k)).2)) (he : (tyE lk sc (eAt l k)).2 = 0) :
    tyL lk sc l = ((tyL lk sc (l.drop (k + 1))).1, (ks ++ [(tyE lk sc (eAt l k)).1]) ++ (tyL lk sc (l.drop (k + 1))).2) := by
  rw [h, e_drop l k hk, tyL, if_neg (by simp [he])]
  simp
theorem tyL_bad {lk : ByteArray → Option (Int × Int)} {sc : Int} {l : List ExprM} {k : Nat} {ks : List Int} (hk : k < l.length) (h : tyL lk sc l = ((tyL lk sc (l.drop k)).1, ks ++ (tyL lk sc (l.drop k)).2)) (he : (tyE lk sc (eAt l k)).2 ≠ 0) :
    (tyL lk sc l).1 = (tyE lk sc (eAt l k)).2 := by
  rw [h, e_drop l k hk, tyL, if_pos he]
/-- the first constant with a name -/
def fi (l : List ConstM) (s : ByteArray) : Option Nat := l.findIdx? fun x => decide (x.name = s)
theorem fi_lt {l : List ConstM} {s : ByteArray} {i : Nat} (h : fi l s = some i) : i < l.length := by
  unfold fi at h
  exact (List.findIdx?_eq_some_iff_getElem.1 h).1
theorem fi_snoc {l : List ConstM} {k : Nat} (hk : k < l.length) (s : ByteArray) : fi (l.take (k + 1)) s = match fi (l.take k) s with | some i => some i | none => if (csAt l k).name = s then some k else none := by
  have e : l.take (k + 1) = l.take k ++ [csAt l k] := by
    rw [List.take_succ_eq_append_getElem hk, csAt, List.getD_eq_getElem?_getD, List.getElem?_eq_getElem hk]; rfl
  unfold fi
  rw [e, List.findIdx?_append]
  cases hh : (l.take k).findIdx? (fun x => decide (x.name = s)) with
  | some i => simp
  | none =>
    have : (l.take k).length = k := by simp; omega
    by_cases hn : (csAt l k).name = s <;> simp [hn, this]
def lkUp (l : List ConstM) (T : List (Int × Int)) (n : Nat) (s : ByteArray) : Option (Int × Int) := match fi l s with
  | some i => if i < n then some (T.getD i (0, 0)) else none
  | none => none
def constT (l : List ConstM) (T : List (Int × Int)) (i : Nat) : Int × Int := if valE (csAt l i).ex ≠ 0 then (0, valE (csAt l i).ex) else tyE (lkUp l T i) 0 (csAt l i).ex
def tabC (l : List ConstM) : Nat → List (Int × Int)
  | 0 => []
  | i + 1 => tabC l i ++ [constT l (tabC l i) i]
/-- the type of constant i, or its error -/
def ctyp (l : List ConstM) (i : Nat) : Int × Int := constT l (tabC l i) i
theorem tabC_len (l : List ConstM) (n : Nat) : (tabC l n).length = n := by
  induction n with
  | zero => rfl
  | succ n ih => simp [tabC, ih]
theorem tabC_get (l : List ConstM) (n i : Nat) (h : i < n) : (tabC l n).getD i (0, 0) = ctyp l i := by
  induction n with
  | zero => omega
  | succ n ih =>
    rw [tabC, List.getD_eq_getElem?_getD]
    by_cases e : i = n
    · subst e
      rw [List.getElem?_append_right (by rw [tabC_len]; exact Nat.le_refl _), tabC_len]
      simp [ctyp]
    · rw [List.getElem?_append_left (by rw [tabC_len]; omega), ← List.getD_eq_getElem?_getD]
      exact ih (by omega)
/-- a constant among the first n -/
def lkC (l : List ConstM) (n : Nat) (s : ByteArray) : Option (Int × Int) := match fi l s with
  | some i => if i < n then some (ctyp l i) else none
  | none => none
theorem lkUp_eq (l : List ConstM) (n : Nat) : lkUp l (tabC l n) n = lkC l n := by
  funext s
  unfold lkUp lkC
  cases fi l s with
  | none => rfl
  | some i =>
    by_cases h : i < n
    · simp only [if_pos h, tabC_get l n i h]
    · simp only [if_neg h]
theorem ctyp_eq (l : List ConstM) (i : Nat) : ctyp l i = if valE (csAt l i).ex ≠ 0 then (0, valE (csAt l i).ex) else tyE (lkC l i) 0 (csAt l i).ex := by
  rw [ctyp, constT, lkUp_eq]
theorem ctyp_err (l : List ConstM) (i : Nat) : (ctyp l i).2 ≠ 0 → (ctyp l i).1 = 0 := by
  induction i using Nat.strongRecOn with
  | _ i ih =>
    rw [ctyp_eq]
    by_cases h : valE (csAt l i).ex ≠ 0
    · rw [if_pos h]; intro _; rfl
    · rw [if_neg h]
      refine tyE_err (fun s r hr => ?_) 0 _
      unfold lkC at hr
      cases hf : fi l s with
      | none => rw [hf] at hr; cases hr
      | some j =>
        rw [hf] at hr
        by_cases hj : j < i
        · simp only [if_pos hj, Option.some.injEq] at hr
          subst hr
          exact ih j hj
        · simp only [if_neg hj] at hr; cases hr
theorem lkC_err (l : List ConstM) (n : Nat) : ∀ s r, lkC l n s = some r → r.2 ≠ 0 → r.1 = 0 := by
  intro s r hr
  unfold lkC at hr
  cases hf : fi l s with
  | none => rw [hf] at hr; cases hr
  | some j =>
    rw [hf] at hr
    by_cases hj : j < n
    · simp only [if_pos hj, Option.some.injEq] at hr
      subst hr
      exact ctyp_err l j
    · simp only [if_neg hj] at hr; cases hr

theorem mget_mput_string (M : List (Value × Value)) (s t : ByteArray) (v : Value) : mget (mput M (.string s) v) (.string t) = if s = t then some v else mget M (.string t) := by
  induction M with
  | nil =>
    by_cases h : s = t
    · subst h; simp [mput, mget, keyEq]
    · simp [mput, mget, keyEq, h]; exact fun e => h e.symm
  | cons p M ih =>
    rw [mput]
    by_cases hk : keyEq (.string s) p.1 = true
    · rw [if_pos hk]
      have : p.1 = .string s := by
        cases hp : p.1 <;> rw [hp] at hk <;> simp [keyEq] at hk
        rw [hk]
      by_cases h : s = t
      · subst h; simp [mget, keyEq]
      · have h' : ¬ t = s := fun e => h e.symm
        simp [mget, keyEq, h, h', this]
    · rw [if_neg hk]
      by_cases h : s = t
      · subst h
        have : mget (p :: mput M (.string s) v) (.string s) = mget (mput M (.string s) v) (.string s) := by simp [mget, hk]
        rw [this, ih]; simp
      · rw [if_neg h] at ih ⊢
        unfold mget at ih ⊢
        simp only [List.find?_cons]
        cases keyEq (.string t) p.1
        · exact ih
        · rfl
theorem mget_mput_int (M : List (Value × Value)) (s t : Int) (v : Value) (hM : ∀ p ∈ M, plainKey (.int .i64) p.1) : mget (mput M (.int .i64 s) v) (.int .i64 t) = if s = t then some v else mget M (.int .i64 t) := by
  induction M with
  | nil =>
    by_cases h : s = t
    · subst h; simp [mput, mget, keyEq]
    · simp [mput, mget, keyEq, h]; exact fun e => h e.symm
  | cons p M ih =>
    have ih := ih (fun p hp => hM p (by simp [hp]))
    have hp0 := hM p (by simp)
    rw [mput]
    by_cases hk : keyEq (.int .i64 s) p.1 = true
    · rw [if_pos hk]
      have : p.1 = .int .i64 s := by
        cases hp : p.1 <;> rw [hp] at hk hp0 <;> simp [keyEq, plainKey] at hk hp0
        rw [hk, hp0]
      by_cases h : s = t
      · subst h; simp [mget, keyEq]
      · have h' : ¬ t = s := fun e => h e.symm
        simp [mget, keyEq, h, h', this]
    · rw [if_neg hk]
      by_cases h : s = t
      · subst h
        have : mget (p :: mput M (.int .i64 s) v) (.int .i64 s) = mget (mput M (.int .i64 s) v) (.int .i64 s) := by simp [mget, hk]
        rw [this, ih]; simp
      · rw [if_neg h] at ih ⊢
        unfold mget at ih ⊢
        simp only [List.find?_cons]
        cases keyEq (.int .i64 t) p.1
        · exact ih
        · rfl
/-- a map from names to the first places -/
def IdxOf (w : World) (b : Nat) (l : List ConstM) : Prop := ∃ M, MapOf Tryz.prog w b .string M ∧ ∀ s, mget M (.string s) = (fi l s).map fun i => Value.int .i64 i
theorem IdxOf.below {w w' : World} {b : Nat} {l : List ConstM} (h : IdxOf w b l) (hb : Below w.heap.size w w') : IdxOf w' b l := by
  obtain ⟨M, h1, h2⟩ := h
  exact ⟨M, h1.below hb, h2⟩
theorem IdxOf.grown {w w' : World} {b : Nat} {l : List ConstM} {row : Option Nat} (h : IdxOf w b l) (hg : w.grownBy w' row) (hne : some b ≠ row) : IdxOf w' b l := by
  obtain ⟨M, h1, h2⟩ := h
  exact ⟨M, h1.grown hg hne, h2⟩
theorem IdxOf.lt {w : World} {b : Nat} {l : List ConstM} (h : IdxOf w b l) : b < w.heap.size := by
  obtain ⟨M, h1, h2⟩ := h
  exact h1.lt
theorem zeroInt (w : World) : (zeroValue 3).run Tryz.prog w = .ok (.int .i64 0) w := by kernel_rfl
def fiN (l : List ConstM) (s : ByteArray) : Nat := (fi l s).getD 0
def fiB (l : List ConstM) (s : ByteArray) : Bool := (fi l s).isSome
theorem look_idx {w : World} {b : Nat} {l : List ConstM} (h : IdxOf w b l) (s : ByteArray) : (Instr.lookup 197 (.map (some b)) (.string s) true).run Tryz.prog w = .ok (.tuple #[.int .i64 (fiN l s), .bool (fiB l s)]) w := by
  obtain ⟨M, h1, h2⟩ := h
  rw [run_lookup_ok Tryz.underlying197 Tryz.underlying9 h1 (key := .string s) trivial (zeroInt _), h2]
  unfold fiN fiB
  cases fi l s <;> rfl
theorem put_idx {w : World} {b : Nat} {l : List ConstM} {k : Nat} (h : IdxOf w b (l.take k)) (hk : k < l.length) (hn : fiB (l.take k) (csAt l k).name = false) :
    ∃ w', (Instr.mapUpdate 197 (.map (some b)) (.string (csAt l k).name) (.int .i64 k)).run Tryz.prog w = .ok () w' ∧ IdxOf w' b (l.take (k + 1)) ∧ w.grownBy w' (some b) := by
  obtain ⟨M, h1, h2⟩ := h
  obtain ⟨w', g1, g2, g3⟩ := run_update Tryz.underlying197 Tryz.underlying9 h1 (key := .string (csAt l k).name) (.int .i64 k) trivial
  refine ⟨w', g1, ⟨_, g2, fun s => ?_⟩, g3⟩
  rw [mget_mput_string, h2, fi_snoc hk]
  have hno : fi (l.take k) (csAt l k).name = none := by simpa [fiB] using hn
  by_cases e : (csAt l k).name = s
  · subst e; rw [if_pos rfl, hno]; simp
  · rw [if_neg e]
    cases fi (l.take k) s with
    | none => simp [e]
    | some i => rfl
theorem idx_skip {w : World} {b : Nat} {l : List ConstM} {k : Nat} (h : IdxOf w b (l.take k)) (hk : k < l.length) (hn : fiB (l.take k) (csAt l k).name = true) : IdxOf w b (l.take (k + 1)) := by
  obtain ⟨M, h1, h2⟩ := h
  refine ⟨M, h1, fun s => ?_⟩
  rw [h2, fi_snoc hk]
  cases hh : fi (l.take k) s with
  | some i => rfl
  | none =>
    have : ¬ (csAt l k).name = s := by
      intro e; rw [e] at hn; simp [fiB, hh] at hn
    simp [this]
/-- the types of constants that are known -/
def KnownOf (w : World) (b : Nat) (l : List ConstM) : Prop := ∃ M, MapOf Tryz.prog w b (.int .i64) M ∧ ∀ (i : Nat) v, mget M (.int .i64 i) = some v → v = .int .i64 (ctyp l i).1 ∧ (ctyp l i).2 = 0
theorem KnownOf.below {w w' : World} {b : Nat} {l : List ConstM} (h : KnownOf w b l) (hb : Below w.heap.size w w') : KnownOf w' b l := by
  obtain ⟨M, h1, h2⟩ := h
  exact ⟨M, h1.below hb, h2⟩
theorem KnownOf.grown {w w' : World} {b : Nat} {l : List ConstM} {row : Option Nat} (h : KnownOf w b l) (hg : w.grownBy w' row) (hne : some b ≠ row) : KnownOf w' b l := by
  obtain ⟨M, h1, h2⟩ := h
  exact ⟨M, h1.grown hg hne, h2⟩
theorem KnownOf.lt {w : World} {b : Nat} {l : List ConstM} (h : KnownOf w b l) : b < w.heap.size := by
  obtain ⟨M, h1, h2⟩ := h
  exact h1.lt
theorem look_known {w : World} {b : Nat} {l : List ConstM} (h : KnownOf w b l) (i : Nat) : ((Instr.lookup 198 (.map (some b)) (.int .i64 i) true).run Tryz.prog w = .ok (.tuple #[.int .i64 (ctyp l i).1, .bool true]) w ∧ (ctyp l i).2 = 0) ∨ (Instr.lookup 198 (.map (some b)) (.int .i64 i) true).run Tryz.prog w = .ok (.tuple #[.int .i64 0, .bool false]) w := by
  obtain ⟨M, h1, h2⟩ := h
  have e := run_lookup_ok Tryz.underlying198 Tryz.underlying3 h1 (key := .int .i64 i) rfl (zeroInt _)
  cases hm : mget M (.int .i64 i) with
  | none => rw [hm] at e; exact .inr e
  | some v =>
    rw [hm] at e
    obtain ⟨rfl, h4⟩ := h2 i v hm
    exact .inl ⟨e, h4⟩
theorem put_known {w : World} {b : Nat} {l : List ConstM} (h : KnownOf w b l) (i : Nat) (hi : (ctyp l i).2 = 0) :
    ∃ w', (Instr.mapUpdate 198 (.map (some b)) (.int .i64 i) (.int .i64 (ctyp l i).1)).run Tryz.prog w = .ok () w' ∧ KnownOf w' b l ∧ w.grownBy w' (some b) := by
  obtain ⟨M, h1, h2⟩ := h
  obtain ⟨w', g1, g2, g3⟩ := run_update Tryz.underlying198 Tryz.underlying3 h1 (key := .int .i64 i) (.int .i64 (ctyp l i).1) rfl
  refine ⟨w', g1, ⟨_, g2, fun j v hj => ?_⟩, g3⟩
  rw [mget_mput_int M i j _ h1.2] at hj
  by_cases e : (i : Int) = j
  · rw [if_pos e] at hj
    obtain rfl : i = j := by omega
    exact ⟨(Option.some.inj hj).symm, hi⟩
  · rw [if_neg e] at hj
    exact h2 j v hj
/-- the checker in memory -/
structure ChkAt (B : Nat) (w : World) (kp ib kb : Nat) (l : List ConstM) (a : Option Addr) (cap : Nat) : Prop where
  bp : B ≤ kp
  bi : B ≤ ib
  bk : B ≤ kb
  pk : kp ≠ kb
  ik : ib ≠ kb
  pi : kp ≠ ib
  box : w.heap[kp]? = some (.cells #[.slice a l.length cap, .map (some ib), .map (some kb)] 227 (0, 0))
  idx : IdxOf w ib l
  known : KnownOf w kb l
  consts : ConstsAt B w a l
theorem ChkAt.lt {B : Nat} {w : World} {kp ib kb : Nat} {l : List ConstM} {a : Option Addr} {cap : Nat} (h : ChkAt B w kp ib kb l a cap) : kp < w.heap.size ∧ ib < w.heap.size ∧ kb < w.heap.size := ⟨lt_of_block h.box, h.idx.lt, h.known.lt⟩
theorem ChkAt.below {B : Nat} {w w' : World} {kp ib kb : Nat} {l : List ConstM} {a : Option Addr} {cap : Nat} (h : ChkAt B w kp ib kb l a cap) (hb : Below w.heap.size w w') : ChkAt B w' kp ib kb l a cap where
  bp := h.bp
  bi := h.bi
  bk := h.bk
  pk := h.pk
  ik := h.ik
  pi := h.pi
  box := (hb.block _ h.lt.1).trans h.box
  idx := h.idx.below hb
  known := h.known.below hb
  consts := h.consts.keep (hb.mono (Nat.le_trans h.bp (Nat.le_of_lt h.lt.1))) (ConstC.keep (hb.mono (Nat.le_trans h.bp (Nat.le_of_lt h.lt.1))))
theorem ChkAt.grown {B : Nat} {w w' : World} {kp ib kb : Nat} {l : List ConstM} {a : Option Addr} {cap : Nat} (h : ChkAt B w kp ib kb l a cap) (hg : w.grownBy w' (some kb)) (hk : KnownOf w' kb l) : ChkAt B w' kp ib kb l a cap where
  bp := h.bp
  bi := h.bi
  bk := h.bk
  pk := h.pk
  ik := h.ik
  pi := h.pi
  box := (hg.block _ h.lt.1 (by simpa using h.pk)).trans h.box
  idx := h.idx.grown hg (by simpa using h.ik)
  known := hk
  consts := by
    have : Below B w w' := (Below.refl B w).grown hg (Nat.le_trans h.bp (Nat.le_of_lt h.lt.1)) (fun j hj => by cases hj; exact h.bk)
    exact h.consts.keep this (ConstC.keep this)
/-- another block is written -/
theorem ChkAt.other {B : Nat} {w w' : World} {kp ib kb : Nat} {l : List ConstM} {a : Option Addr} {cap : Nat} {row : Nat} (h : ChkAt B w kp ib kb l a cap) (hg : w.grownBy w' (some row)) (hB : B ≤ row) (h1 : kp ≠ row) (h2 : ib ≠ row) (h3 : kb ≠ row) : ChkAt B w' kp ib kb l a cap where
  bp := h.bp
  bi := h.bi
  bk := h.bk
  pk := h.pk
  ik := h.ik
  pi := h.pi
  box := (hg.block _ h.lt.1 (by simpa using h1)).trans h.box
  idx := h.idx.grown hg (by simpa using h2)
  known := h.known.grown hg (by simpa using h3)
  consts := by
    have : Below B w w' := (Below.refl B w).grown hg (Nat.le_trans h.bp (Nat.le_of_lt h.lt.1)) (fun j hj => by cases hj; exact hB)
    exact h.consts.keep this (ConstC.keep this)
theorem mkMapSI (w : World) : (Instr.makeMap 197 none).run Tryz.prog w = .ok (.map (some w.heap.size)) (w.alloc (.map #[] 0)) := by kernel_rfl
theorem mkMapII (w : World) : (Instr.makeMap 198 none).run Tryz.prog w = .ok (.map (some w.heap.size)) (w.alloc (.map #[] 0)) := by kernel_rfl
def NewChk (B : Nat) (w : World) (l : List ConstM) (a : Option Addr) (cap : Nat) (e : Ending) (w' : World) : Prop := ∃ kp ib kb, e = .returned (.pointer (some ⟨kp, 0, none⟩)) ∧ ChkAt B w' kp ib kb l a cap ∧ w.heap.size ≤ kb ∧ Below w.heap.size w w'
set_option maxHeartbeats 1600000 in
theorem newChecker_any (l : List ConstM) (a : Option Addr) (cap : Nat) (w : World) (B : Nat) (hB : B ≤ w.heap.size) (ha : ConstsAt B w a l) :
    Calls Tryz.prog 137 #[.slice a l.length cap] w (NewChk B w l a cap) := by
  have hl := ha.1
  have HA := Lib.hid ha
  have mk1 := mkMapSI
  have mk2 := mkMapII
  clear ha
  go_enter Tryz.func137, Tryz.ntmps137
  go_wp2_with fail
  obtain ⟨W, hW⟩ : ∃ W, W = ((w.alloc (.map #[] 0)).alloc (.map #[] 0)).alloc (Obj.cells #[Value.slice a l.length cap, Value.map (some w.heap.size), Value.map (some (w.heap.size + 1))] 227) := ⟨_, rfl⟩
  have HB := Lib.hid (Below.then (below_new w (.map #[] 0)) (Below.then (below_new _ (.map #[] 0)) (below_new _ (Obj.cells #[Value.slice a l.length cap, Value.map (some w.heap.size), Value.map (some (w.heap.size + 1))] 227))))
  have HI := Lib.hid (show IdxOf W w.heap.size (l.take 0) from ⟨[], by rw [hW]; exact ((MapOf.made Tryz.prog w .string).alloc _).alloc _, fun s => by simp [mget, fi]⟩)
  have HK := Lib.hid (show KnownOf W (w.heap.size + 1) l from ⟨[], by rw [hW]; have := (MapOf.made Tryz.prog (w.alloc (.map #[] 0)) (.int .i64)).alloc (Obj.cells #[Value.slice a l.length cap, Value.map (some w.heap.size), Value.map (some (w.heap.size + 1))] 227); rwa [alloc_size] at this, fun i v hv => by simp [mget] at hv⟩)
  have HP := Lib.hid (show W.heap[w.heap.size + 2]? = some (.cells #[Value.slice a l.length cap, Value.map (some w.heap.size), Value.map (some (w.heap.size + 1))] 227 (0, 0)) by rw [hW]; have := heap_new ((w.alloc (.map #[] 0)).alloc (.map #[] 0)) (Obj.cells #[Value.slice a l.length cap, Value.map (some w.heap.size), Value.map (some (w.heap.size + 1))] 227); rwa [alloc_size, alloc_size] at this)
  rw [← hW] at HB
  simp only [← hW]
  clear hW mk1 mk2
  go_loopw [15] (fun i wr => ∃ (k : Nat), k ≤ l.length ∧ i = .int .i64 k ∧ Hid (IdxOf wr w.heap.size (l.take k)) ∧ Hid (KnownOf wr (w.heap.size + 1) l) ∧ Hid (wr.heap[w.heap.size + 2]? = some (.cells #[Value.slice a l.length cap, Value.map (some w.heap.size), Value.map (some (w.heap.size + 1))] 227 (0, 0))) ∧ Hid (Below w.heap.size w wr)) (fun i _ => l.length - (intOf i).toNat)
  case atStart => exact ⟨0, Nat.zero_le _, rfl, HI, HK, HP, HB⟩
  clear HI HK HP HB W
  case round =>
    obtain ⟨k, hk, rfl, hI, hK, hP, hbel⟩ := hrel
    by_cases hlt : k < l.length
    · have HA0 := HA.out
      obtain ⟨b, off, rfl, hb, hcs⟩ := HA0.cells (by omega)
      obtain ⟨c0, s1, a2, cap2, ⟨c1, c2, c3, c4⟩, hfit, hargs⟩ := (hcs k hlt).keep (hbel.out.mono hB) b _ _ hb
      have hbr : b < wr.heap.size := by have := hbel.out.size; omega
      have hpr : w.heap.size + 2 < wr.heap.size := lt_of_block hP.out
      clear hargs hcs hfit HA0
      have HI1 := Lib.hid (hI.out.below (below_new wr (Obj.cells #[Value.string (csAt l k).name, Value.int .i64 (csAt l k).ex.op, Value.int .i64 (csAt l k).ex.num, Value.string (csAt l k).ex.name, Value.slice a2 (csAt l k).ex.args.length cap2] 138)))
      have HK1 := Lib.hid (hK.out.below (below_new wr (Obj.cells #[Value.string (csAt l k).name, Value.int .i64 (csAt l k).ex.op, Value.int .i64 (csAt l k).ex.num, Value.string (csAt l k).ex.name, Value.slice a2 (csAt l k).ex.args.length cap2] 138)))
      have HP1 := Lib.hid (one_alloc (o' := (Obj.cells #[Value.string (csAt l k).name, Value.int .i64 (csAt l k).ex.op, Value.int .i64 (csAt l k).ex.num, Value.string (csAt l k).ex.name, Value.slice a2 (csAt l k).ex.args.length cap2] 138)) hP.out)
      have HB1 := Lib.hid (Below.then hbel.out (below_new wr (Obj.cells #[Value.string (csAt l k).name, Value.int .i64 (csAt l k).ex.op, Value.int .i64 (csAt l k).ex.num, Value.string (csAt l k).ex.name, Value.slice a2 (csAt l k).ex.args.length cap2] 138)))
      have q0 := Lib.hid (heap_new wr (Obj.cells #[Value.string (csAt l k).name, Value.int .i64 (csAt l k).ex.op, Value.int .i64 (csAt l k).ex.num, Value.string (csAt l k).ex.name, Value.slice a2 (csAt l k).ex.args.length cap2] 138))
      go_wp2_with fail
      generalize hW1 : wr.alloc (Obj.cells #[Value.string (csAt l k).name, Value.int .i64 (csAt l k).ex.op, Value.int .i64 (csAt l k).ex.num, Value.string (csAt l k).ex.name, Value.slice a2 (csAt l k).ex.args.length cap2] 138) = W1 at *
      have z1 : W1.cell? ⟨w.heap.size + 2, 1, none⟩ = some (.map (some w.heap.size)) := cellW HP1.out rfl
      have z2 : W1.cell? ⟨wr.heap.size, 0, none⟩ = some (.string (csAt l k).name) := cellW q0.out rfl
      have zs : wr.heap.size < W1.heap.size := lt_of_block q0.out
      have L1 := fun n => look_idx (w := W1.drewN n) (HI1.out.below (below_drewN (Below.refl _ _) n)) (csAt l k).name
      clear hW1 hI hK hP hbel c0 c1 c2 c3 c4
      go_quiet (fail)
      have HI2 := Lib.hid (HI1.out.below (below_drewN (Below.refl _ _) nq))
      have HK2 := Lib.hid (HK1.out.below (below_drewN (Below.refl _ _) nq))
      have HP2 := Lib.hid (((below_drewN (Below.refl W1.heap.size W1) nq).block _ (by omega)).trans HP1.out)
      have q2 := Lib.hid (((below_drewN (Below.refl W1.heap.size W1) nq).block _ zs).trans q0.out)
      have HB2 := Lib.hid (Below.then HB1.out (below_drewN (Below.refl _ _) nq))
      clear L1 z1 z2 HI1 HK1 HP1 HB1 q0 zs
      generalize W1.drewN nq = W2 at *
      clear W1
      cases e1 : fiB (l.take k) (csAt l k).name
      · go_wp2_with fail
        have z1 : W2.drew.cell? ⟨w.heap.size + 2, 1, none⟩ = some (.map (some w.heap.size)) := cellW HP2.out rfl
        have z2 : W2.drew.cell? ⟨wr.heap.size, 0, none⟩ = some (.string (csAt l k).name) := cellW q2.out rfl
        have z1' : W2.cell? ⟨w.heap.size + 2, 1, none⟩ = some (.map (some w.heap.size)) := cellW HP2.out rfl
        have z2' : W2.cell? ⟨wr.heap.size, 0, none⟩ = some (.string (csAt l k).name) := cellW q2.out rfl
        obtain ⟨w3, P1, I3, g3⟩ := put_idx (w := W2.drew) (HI2.out.below (Below.refl _ _).drew) hlt e1
        have HI3 := Lib.hid I3
        have HK3 := Lib.hid ((HK2.out.below (Below.refl _ _).drew).grown g3 (by simp))
        have HP3 := Lib.hid ((g3.block _ (lt_of_block HP2.out) (by simp)).trans HP2.out)
        have HB3 := Lib.hid (HB2.out.drew.grown g3 HB2.out.size (by simp))
        clear I3 g3
        go_still_tail 7, (by kernel_rfl)
        change wpList _ _ _ _ _ W2.drew
        go_wp2_with fail
        go_roundw
        case rel => exact ⟨k + 1, by omega, by go_num, HI3, HK3, HP3, HB3⟩
        case measure => simp [intOf]; omega
      · have HI3 := Lib.hid (idx_skip HI2.out hlt e1)
        go_wp2_with fail
        go_roundw
        case rel => exact ⟨k + 1, by omega, by go_num, HI3, HK2, HP2, HB2⟩
        case measure => simp [intOf]; omega
    · obtain rfl : k = l.length := by omega
      have HI3 := Lib.hid hI.out
      rw [List.take_length] at HI3
      go_wp2_with fail
      go_ret
      exact ⟨w.heap.size + 2, w.heap.size, w.heap.size + 1, rfl, ⟨by omega, hB, by omega, by omega, by omega, by omega, hP.out, HI3.out, hK.out, HA.out.keep (hbel.out.mono hB) (ConstC.keep (hbel.out.mono hB))⟩, by omega, hbel.out⟩
end Go.Proofs.YtpgbckgjlgecpaaGreat
/- contracts of the checker: constant, typeOf, node -/
namespace Go.Proofs.YtpgbckgjlgecpaaGreat
open Go.RowKit Go.Sort
set_option linter.unusedVariables false
set_option linter.unusedSimpArgs false
set_option maxRecDepth 100000
def TyPost (B kp ib kb : Nat) (l : List ConstM) (a : Option Addr) (cap : Nat) (w : World) (r : Int × Int) (e : Ending) (w' : World) : Prop := e = .returned (.tuple #[.int .i64 r.1, .int .i64 r.2]) ∧ ChkAt B w' kp ib kb l a cap ∧ w.grownBy w' (some kb)
def NodeS (B kp ib kb : Nat) (l : List ConstM) (a : Option Addr) (cap : Nat) (n : Nat) : Prop := ∀ (sc : Int) (x : ExprM) (xa : Option Addr) (xc : Nat) (w : World), ChkAt B w kp ib kb l a cap → ExprFit x → wfE x = true → cntE x ≤ 200 → ArgsAt B w xa x.args →
  Calls Tryz.prog 214 #[.pointer (some ⟨kp, 0, none⟩), .int .i64 sc, .int .i64 n, .agg #[.int .i64 x.op, .int .i64 x.num, .string x.name, .slice xa x.args.length xc]] w (TyPost B kp ib kb l a cap w (tyE (lkC l n) sc x))
/-- the type of an expression, or its error -/
def typX (l : List ConstM) (n : Nat) (sc : Int) (x : ExprM) : Int × Int := if valE x ≠ 0 then (0, valE x) else tyE (lkC l n) sc x
def TypeOfS (B kp ib kb : Nat) (l : List ConstM) (a : Option Addr) (cap : Nat) (n : Nat) : Prop := ∀ (sc : Int) (x : ExprM) (xa : Option Addr) (xc : Nat) (w : World), ChkAt B w kp ib kb l a cap → ExprFit x → ArgsAt B w xa x.args →
  Calls Tryz.prog 189 #[.pointer (some ⟨kp, 0, none⟩), .int .i64 sc, .int .i64 n, .agg #[.int .i64 x.op, .int .i64 x.num, .string x.name, .slice xa x.args.length xc]] w (TyPost B kp ib kb l a cap w (typX l n sc x))
def ConstS (B kp ib kb : Nat) (l : List ConstM) (a : Option Addr) (cap : Nat) (i : Nat) : Prop := ∀ (w : World), ChkAt B w kp ib kb l a cap → Calls Tryz.prog 139 #[.pointer (some ⟨kp, 0, none⟩), .int .i64 i] w (TyPost B kp ib kb l a cap w (ctyp l i))
theorem valE_ok {x : ExprM} (h : valE x = 0) : wfE x = true ∧ cntE x ≤ 200 ∧ depE x ≤ 16 := by
  unfold valE at h
  by_cases h1 : cntE x ≤ 200 ∧ depE x ≤ 16
  · rw [if_pos h1] at h
    by_cases h2 : wfE x = true
    · exact ⟨h2, h1⟩
    · rw [if_neg h2] at h; omega
  · rw [if_neg h1] at h; omega
theorem grown_below {w w' : World} (row : Option Nat) (h : Below w.heap.size w w') : w.grownBy w' row := ⟨h.os, h.tape, h.output, h.size, fun i hi _ => h.block i hi⟩
set_option maxHeartbeats 1600000 in
theorem typeOf_of (B kp ib kb : Nat) (l : List ConstM) (a : Option Addr) (cap : Nat) (n : Nat) (IH : Hid (NodeS B kp ib kb l a cap n)) : TypeOfS B kp ib kb l a cap n := by
  intro sc x xa xc w hC hf ha
  have HC := Lib.hid hC
  have HA := Lib.hid ha
  have hB : B ≤ w.heap.size := Nat.le_trans hC.bp (Nat.le_of_lt hC.lt.1)
  clear hC ha
  go_enter Tryz.func189, Tryz.ntmps189
  go_wp2_with fail
  have HB := Lib.hid (below_new w (Obj.cells #[Value.int .i64 x.op, Value.int .i64 x.num, Value.string x.name, Value.slice xa x.args.length xc] 111))
  have q0 := Lib.hid (heap_new w (Obj.cells #[Value.int .i64 x.op, Value.int .i64 x.num, Value.string x.name, Value.slice xa x.args.length xc] 111))
  have HC0 := Lib.hid (HC.out.below HB.out)
  have HA0 := Lib.hid (HA.out.keep (HB.out.mono hB))
  generalize w.alloc (Obj.cells #[Value.int .i64 x.op, Value.int .i64 x.num, Value.string x.name, Value.slice xa x.args.length xc] 111) = W at *
  refine (validateExpr_any x xa xc W B (by have := HB.out.size; omega) hf HA0.out).mono ?_
  rintro e w1 ⟨rfl, hb⟩
  have HB1 := Lib.hid (Below.then HB.out hb)
  have HC1 := Lib.hid (HC0.out.below hb)
  have q1 := (hb.block _ (lt_of_block q0.out)).trans q0.out
  have z0 : w1.cell? ⟨w.heap.size, 0, none⟩ = some (.int .i64 x.op) := cellW q1 rfl
  have z1 : w1.cell? ⟨w.heap.size, 1, none⟩ = some (.int .i64 x.num) := cellW q1 rfl
  have z2 : w1.cell? ⟨w.heap.size, 2, none⟩ = some (.string x.name) := cellW q1 rfl
  have z3 : w1.cell? ⟨w.heap.size, 3, none⟩ = some (.slice xa x.args.length xc) := cellW q1 rfl
  have zs : w.heap.size < w1.heap.size := lt_of_block q1
  clear hb q1 q0 HB HC0 HA0 W
  by_cases e1 : valE x = 0
  · obtain ⟨h1, h2, _⟩ := valE_ok e1
    have hz := Lib.hid (show typX l n sc x = tyE (lkC l n) sc x from if_neg (by simpa using e1))
    rw [e1]
    go_wp2_with fail
    refine (IH.out sc x xa xc w1 HC1.out hf h1 h2 (HA.out.keep (HB1.out.mono hB))).mono ?_
    rintro e w2 ⟨rfl, hC2, hg2⟩
    have HC2 := Lib.hid hC2
    have HG2 := Lib.hid (Lib.grownBy_trans (grown_below (some kb) HB1.out) hg2)
    clear hC2 hg2 z0 z1 z2 z3
    go_wp2_with fail
    go_ret2
    exact ⟨ret_int2 (by rw [hz.out]) (by rw [hz.out]), HC2.out, HG2.out⟩
  · have hz := Lib.hid (show typX l n sc x = (0, valE x) from if_pos e1)
    have e2 : (valE x != 0) = true := by simpa using e1
    clear z0 z1 z2 z3
    go_wp2_with fail
    go_ret2
    exact ⟨ret_int2 (by rw [hz.out]) (by rw [hz.out]), HC1.out, grown_below _ HB1.out⟩
theorem ctyp_typX (l : List ConstM) (i : Nat) : ctyp l i = typX l i 0 (csAt l i).ex := ctyp_eq l i
set_option maxHeartbeats 1600000 in
theorem constant_of (B kp ib kb : Nat) (l : List ConstM) (a : Option Addr) (cap : Nat) (i : Nat) (hi : i < l.length) (IH : Hid (TypeOfS B kp ib kb l a cap i)) : ConstS B kp ib kb l a cap i := by
  intro w hC
  have HC := Lib.hid hC
  have hl := hC.consts.1
  have hB : B ≤ w.heap.size := Nat.le_trans hC.bp (Nat.le_of_lt hC.lt.1)
  have z0 : w.cell? ⟨kp, 0, none⟩ = some (.slice a l.length cap) := cellW hC.box rfl
  have z2 : w.cell? ⟨kp, 2, none⟩ = some (.map (some kb)) := cellW hC.box rfl
  have zs := hC.lt.1
  rcases look_known hC.known i with ⟨L1, h2⟩ | L1
  · have H2 := Lib.hid h2
    clear hC h2
    go_enter Tryz.func139, Tryz.ntmps139
    go_wp2_with fail
    go_ret2
    exact ⟨ret_int2 rfl H2.out.symm, HC.out, World.grownBy.refl _ _⟩
  · obtain ⟨b, off, rfl, hb, hcs⟩ := hC.consts.cells (by omega)
    obtain ⟨c0, s1, a2, cap2, ⟨c1, c2, c3, c4⟩, hfit, hargs⟩ := hcs i hi
    have hbr : b < w.heap.size := by omega
    have HF := Lib.hid hfit
    have HA := Lib.hid hargs
    clear hcs hargs hfit hC
    go_enter Tryz.func139, Tryz.ntmps139
    go_wp2_with fail
    refine (IH.out 0 (csAt l i).ex a2 cap2 w HC.out HF.out HA.out).mono ?_
    rintro e w2 ⟨rfl, hC2, hg2⟩
    have HC2 := Lib.hid hC2
    have HG2 := Lib.hid hg2
    have y2 : w2.cell? ⟨kp, 2, none⟩ = some (.map (some kb)) := cellW hC2.box rfl
    have ys := hC2.lt.1
    clear hC2 hg2 z0 z2 c0 c1 c2 c3 c4 L1
    rw [← ctyp_typX l i]
    by_cases e1 : (ctyp l i).2 = 0
    · obtain ⟨w3, P1, K3, g3⟩ := put_known HC2.out.known i e1
      have HC3 := Lib.hid (HC2.out.grown g3 K3)
      have HG3 := Lib.hid (Lib.grownBy_trans HG2.out g3)
      clear K3 g3
      rw [e1]
      go_wp2_with fail
      go_ret2
      exact ⟨ret_int2 rfl e1.symm, HC3.out, HG3.out⟩
    · have e2 : ((ctyp l i).2 != 0) = true := by simpa using e1
      have e3 := Lib.hid (ctyp_err l i e1)
      go_wp2_with fail
      go_ret2
      exact ⟨ret_int2 e3.out.symm rfl, HC2.out, HG2.out⟩
end Go.Proofs.YtpgbckgjlgecpaaGreat
/- contract of the checker's node -/
namespace Go.Proofs.YtpgbckgjlgecpaaGreat
open Go.RowKit Go.Sort
set_option linter.unusedVariables false
set_option linter.unusedSimpArgs false
set_option maxRecDepth 100000
/-- a row that is filled from its beginning -/
def mkA (ks : List Int) (n : Nat) : Array Value := (ks.map (Value.int .i64) ++ List.replicate (n - ks.length) (Value.int .i64 0)).toArray
theorem mkA_new (n : Nat) : madeCells #[Value.int .i64 0] n = mkA [] n := by
  apply Array.ext'
  rw [toList_madeCells_one]
  simp [mkA]
theorem mkA_set (ks : List Int) (n : Nat) (v : Int) (h : ks.length < n) : (mkA ks n).setIfInBounds ks.length (.int .i64 v) = mkA (ks ++ [v]) n := by
  obtain ⟨m, hm⟩ : ∃ m, n - ks.length = m + 1 := ⟨n - ks.length - 1, by omega⟩
  have hm2 : n - (ks ++ [v]).length = m := by simp; omega
  unfold mkA
  rw [hm, hm2, List.replicate_succ]
  simp
theorem mkA_get (ks : List Int) (n : Nat) (h : ks.length < n) : (mkA ks n)[ks.length]? = some (.int .i64 0) := by
  unfold mkA
  simp only [List.getElem?_toArray]
  rw [List.getElem?_append_right (by simp), List.length_map, Nat.sub_self, List.getElem?_replicate, if_pos (by omega)]
theorem mkA_size (ks : List Int) (n : Nat) (h : ks.length ≤ n) : (mkA ks n).size = n := by
  unfold mkA; simp; omega
theorem mkA_full (ks : List Int) (n : Nat) (h : ks.length = n) (i : Nat) (hi : i < ks.length) : (mkA ks n)[i]? = some (.int .i64 (iAt ks i)) := by
  unfold mkA
  simp only [List.getElem?_toArray]
  rw [List.getElem?_append_left (by simpa using hi)]
  simp [iAt, hi]
theorem block_setCell {w : World} {b i : Nat} {cs : Array Value} {t : TypeId} {u : Value} (h : w.heap[b]? = some (.cells cs t (0, 0))) : (w.setCell ⟨b, i, none⟩ u).heap[b]? = some (.cells (cs.setIfInBounds i u) t (0, 0)) := by
  have hlt := lt_of_block h
  have h' : w.heap[b] = .cells cs t (0, 0) := by simpa [Array.getElem?_eq_getElem hlt] using h
  show (w.heap.modify b _)[b]? = _
  rw [Array.getElem?_eq_getElem (by simpa using hlt), Array.getElem_modify_self, h']
  rfl
theorem freeW {w : World} {b j : Nat} {cs : Array Value} {t : TypeId} (h : w.heap[b]? = some (.cells cs t (0, 0))) : w.frozen? ⟨b, j, none⟩ = false := by simp [World.frozen?, h]
theorem info_int : (Tryz.prog.info? 3).map (fun i => (i.zero, i.size, i.bytes)) = some (some (.int .i64 0), 1, 8) := by kernel_rfl
theorem wf_head {o nu : Int} {s : ByteArray} {xl : List ExprM} (h : wfE (.mk o nu s xl) = true) : headB o nu s xl.length = true ∧ wfL xl = true := by
  rw [wfE, Bool.and_eq_true] at h; exact h
theorem wfL_at {l : List ExprM} (h : wfL l = true) : ∀ k, k < l.length → wfE (eAt l k) = true := by
  induction l with
  | nil => intro k hk; simp at hk
  | cons x l ih =>
    rw [wfL, Bool.and_eq_true] at h
    intro k hk
    cases k with
    | zero => exact h.1
    | succ k => exact ih h.2 k (by simpa using hk)
theorem cntL_at {l : List ExprM} : ∀ k, k < l.length → cntE (eAt l k) ≤ cntL l := by
  induction l with
  | nil => intro k hk; simp at hk
  | cons x l ih =>
    intro k hk
    rw [cntL]
    cases k with
    | zero => show cntE x ≤ _; omega
    | succ k => have := ih k (by simpa using hk); show cntE (eAt l k) ≤ _; omega
theorem len_cntL (l : List ExprM) : l.length ≤ cntL l := by
  induction l with
  | nil => simp
  | cons x l ih =>
    have : 1 ≤ cntE x := by cases x; rw [cntE]; omega
    rw [cntL, List.length_cons]; omega
set_option maxHeartbeats 3200000 in
theorem node_attr (B kp ib kb : Nat) (l : List ConstM) (a : Option Addr) (cap : Nat) (n : Nat) (HConst : Hid (∀ i, i < n → i < l.length → ConstS B kp ib kb l a cap i)) (sc nu : Int) (s : ByteArray) (xl : List ExprM) (xa : Option Addr) (xc : Nat) (w : World) (hC : ChkAt B w kp ib kb l a cap) (hs : s.size ≤ 140737488355328) (hn : n ≤ 140737488355328) :
    Calls Tryz.prog 214 #[.pointer (some ⟨kp, 0, none⟩), .int .i64 sc, .int .i64 n, .agg #[.int .i64 6, .int .i64 nu, .string s, .slice xa xl.length xc]] w (TyPost B kp ib kb l a cap w (tyE (lkC l n) sc (.mk 6 nu s xl))) := by
  have HC := Lib.hid hC
  have hB : B ≤ w.heap.size := Nat.le_trans hC.bp (Nat.le_of_lt hC.lt.1)
  have hkp := hC.lt.1
  have Hv := Lib.hid (show tyE (lkC l n) sc (.mk 6 nu s xl) = if attrK sc s ≠ 0 then (attrK sc s, 0) else (lkC l n s).getD (0, 6) by rw [tyE, if_pos rfl])
  clear hC
  go_enter Tryz.func214, Tryz.ntmps214
  go_wp2_with fail
  have HB := Lib.hid (below_new w (Obj.cells #[Value.int .i64 6, Value.int .i64 nu, Value.string s, Value.slice xa xl.length xc] 111))
  have q0 := Lib.hid (heap_new w (Obj.cells #[Value.int .i64 6, Value.int .i64 nu, Value.string s, Value.slice xa xl.length xc] 111))
  have HC0 := Lib.hid (HC.out.below HB.out)
  generalize w.alloc (Obj.cells #[Value.int .i64 6, Value.int .i64 nu, Value.string s, Value.slice xa xl.length xc] 111) = W at *
  refine (attributeType_any sc s W hs).mono ?_
  rintro e w1 ⟨rfl, rfl⟩
  by_cases e1 : attrK sc s = 0
  · have Hv2 := Lib.hid (show tyE (lkC l n) sc (.mk 6 nu s xl) = (lkC l n s).getD (0, 6) from Hv.out.trans (if_neg (by simpa using e1)))
    have e2 : attrE (attrK sc s) = 6 := by rw [e1]; rfl
    rw [e2, e1]
    go_wp2_with fail
    have z1 : W.cell? ⟨kp, 1, none⟩ = some (.map (some ib)) := cellW HC0.out.box rfl
    have z2 : W.cell? ⟨w.heap.size, 2, none⟩ = some (.string s) := cellW q0.out rfl
    have zs : w.heap.size < W.heap.size := lt_of_block q0.out
    have L1 := fun m => look_idx (w := W.drewN m) (HC0.out.idx.below (below_drewN (Below.refl _ _) m)) s
    go_quiet (fail)
    have HC1 := Lib.hid (HC0.out.below (below_drewN (Below.refl _ _) nq))
    have HB1 := Lib.hid (Below.then HB.out (below_drewN (Below.refl _ _) nq))
    clear L1 z1 z2 zs q0 HC0 HB e1 e2 Hv
    generalize W.drewN nq = W1 at *
    clear W
    cases e3 : fiB l s
    · have hr := Lib.hid (show tyE (lkC l n) sc (.mk 6 nu s xl) = (0, 6) from Hv2.out.trans (by
        have : fi l s = none := by simpa [fiB] using e3
        simp only [lkC, this]; rfl))
      go_wp2_with fail
      go_ret2
      exact ⟨ret_int2 (by rw [hr.out]) (by rw [hr.out]), HC1.out, grown_below _ HB1.out⟩
    · obtain ⟨i, hi⟩ : ∃ i, fi l s = some i := by
        cases h : fi l s with
        | none => simp [fiB, h] at e3
        | some i => exact ⟨i, rfl⟩
      have hil := fi_lt hi
      have hiN : fiN l s = i := by simp [fiN, hi]
      have hll := HC1.out.consts.1
      rw [hiN]
      by_cases e4 : i < n
      · have hr := Lib.hid (show tyE (lkC l n) sc (.mk 6 nu s xl) = ctyp l i from Hv2.out.trans (by simp only [lkC, hi, if_pos e4]; rfl))
        clear hi hiN Hv2
        go_wp2_with fail
        refine (HConst.out i e4 hil W1 HC1.out).mono ?_
        rintro e w2 ⟨rfl, hC2, hg2⟩
        have HC2 := Lib.hid hC2
        have HG2 := Lib.hid (Lib.grownBy_trans (grown_below (some kb) HB1.out) hg2)
        clear hC2 hg2
        go_wp2_with fail
        go_ret2
        exact ⟨ret_int2 (by rw [hr.out]) (by rw [hr.out]), HC2.out, HG2.out⟩
      · have hr := Lib.hid (show tyE (lkC l n) sc (.mk 6 nu s xl) = (0, 6) from Hv2.out.trans (by simp only [lkC, hi, if_neg e4]; rfl))
        clear hi hiN Hv2
        go_wp2_with fail
        go_ret2
        exact ⟨ret_int2 (by rw [hr.out]) (by rw [hr.out]), HC1.out, grown_below _ HB1.out⟩
  · have hr := Lib.hid (show tyE (lkC l n) sc (.mk 6 nu s xl) = (attrK sc s, 0) from Hv.out.trans (if_pos (by simpa using e1)))
    have e2 : attrE (attrK sc s) = 0 := if_neg (by simpa using e1)
    rw [e2]
    go_wp2_with fail
    go_ret2
    exact ⟨ret_int2 (by rw [hr.out]) (by rw [hr.out]), HC0.out, grown_below _ HB.out⟩
set_option maxHeartbeats 3200000 in
theorem node_args (B kp ib kb : Nat) (l : List ConstM) (a : Option Addr) (cap : Nat) (n : Nat) (sc o nu : Int) (s : ByteArray) (xl : List ExprM) (o6 : o ≠ 6) (xa : Option Addr) (xc : Nat) (w : World) (hC : ChkAt B w kp ib kb l a cap) (hwf : wfE (.mk o nu s xl) = true) (hcnt : cntE (.mk o nu s xl) ≤ 200) (ha : ArgsAt B w xa xl)
    (IH : Hid (∀ x : ExprM, SizeOf.sizeOf x < SizeOf.sizeOf (ExprM.mk o nu s xl) → ∀ (xa : Option Addr) (xc : Nat) (w : World), ChkAt B w kp ib kb l a cap → ExprFit x → wfE x = true → cntE x ≤ 200 → ArgsAt B w xa x.args →
      Calls Tryz.prog 214 #[.pointer (some ⟨kp, 0, none⟩), .int .i64 sc, .int .i64 n, .agg #[.int .i64 x.op, .int .i64 x.num, .string x.name, .slice xa x.args.length xc]] w (TyPost B kp ib kb l a cap w (tyE (lkC l n) sc x)))) :
    Calls Tryz.prog 214 #[.pointer (some ⟨kp, 0, none⟩), .int .i64 sc, .int .i64 n, .agg #[.int .i64 o, .int .i64 nu, .string s, .slice xa xl.length xc]] w (TyPost B kp ib kb l a cap w (tyE (lkC l n) sc (.mk o nu s xl))) := by
  have HC := Lib.hid hC
  have HA := Lib.hid ha
  have hB : B ≤ w.heap.size := Nat.le_trans hC.bp (Nat.le_of_lt hC.lt.1)
  obtain ⟨hkp, hib, hkb⟩ := hC.lt
  have hbk := hC.bk
  obtain ⟨hh, hwl⟩ := wf_head hwf
  have hcl : 1 + cntL xl ≤ 200 := by rw [cntE] at hcnt; exact hcnt
  have hlen : xl.length ≤ 200 := by have := len_cntL xl; omega
  have e6 : (o == 6) = false := by simpa using o6
  have Hv := Lib.hid (show tyE (lkC l n) sc (.mk o nu s xl) = if (tyL (lkC l n) sc xl).1 ≠ 0 then (0, (tyL (lkC l n) sc xl).1) else if resK o (tyL (lkC l n) sc xl).2 ≠ 0 then (resK o (tyL (lkC l n) sc xl).2, 0) else (0, 9) by rw [tyE, if_neg o6])
  simp only [headB, Bool.and_eq_true] at hh
  obtain ⟨⟨⟨g1, h3⟩, _⟩, _⟩ := hh
  obtain ⟨h1, h2⟩ := btwB_iff.1 g1
  have H3 := Lib.hid h3
  have O6 := Lib.hid o6
  have HW := Lib.hid hwl
  have mkS := fun w' => run_make_row' (P := Tryz.prog) 96 3 (.int .i64 0) 8 Tryz.underlying96 info_int rfl .i64 .i64 xl.length (by omega) (by omega) w'
  clear hC ha hwf hcnt g1 h3 o6 hwl
  go_enter Tryz.func214, Tryz.ntmps214
  go_wp2_with fail
  obtain ⟨W, hW⟩ : ∃ W, W = (w.alloc (Obj.cells #[Value.int .i64 o, Value.int .i64 nu, Value.string s, Value.slice xa xl.length xc] 111)).alloc (Obj.cells (madeCells #[Value.int .i64 0] xl.length) 3) := ⟨_, rfl⟩
  have HB := Lib.hid (show Below w.heap.size w W by rw [hW]; exact Below.then (below_new w _) (below_new _ _))
  have q0 := Lib.hid (show W.heap[w.heap.size]? = some (Obj.cells #[Value.int .i64 o, Value.int .i64 nu, Value.string s, Value.slice xa xl.length xc] 111) by rw [hW]; exact one_alloc (heap_new _ _))
  have q1 := Lib.hid (show W.heap[w.heap.size + 1]? = some (.cells (mkA [] xl.length) 3 (0, 0)) by rw [hW, ← mkA_new, ← alloc_size w (Obj.cells #[Value.int .i64 o, Value.int .i64 nu, Value.string s, Value.slice xa xl.length xc] 111)]; exact heap_new _ _)
  have HC0 := Lib.hid (HC.out.below HB.out)
  simp only [← hW]
  clear hW mkS
  go_loopw [61] (fun i wr => ∃ (k : Nat) (ks : List Int), k ≤ xl.length ∧ i = .int .i64 k ∧ Hid (ks.length = k) ∧ Hid (tyL (lkC l n) sc xl = ((tyL (lkC l n) sc (xl.drop k)).1, ks ++ (tyL (lkC l n) sc (xl.drop k)).2)) ∧ Hid (wr.heap[w.heap.size]? = some (Obj.cells #[Value.int .i64 o, Value.int .i64 nu, Value.string s, Value.slice xa xl.length xc] 111)) ∧ Hid (wr.heap[w.heap.size + 1]? = some (.cells (mkA ks xl.length) 3 (0, 0))) ∧ Hid (ChkAt B wr kp ib kb l a cap) ∧ Hid (w.grownBy wr (some kb))) (fun i _ => xl.length - (intOf i).toNat)
  case atStart => exact ⟨0, [], Nat.zero_le _, rfl, Lib.hid rfl, Lib.hid (by simp), q0, q1, HC0, Lib.hid (grown_below _ HB.out)⟩
  clear q0 q1 HC0 HB
  case round =>
    obtain ⟨k, ks, hk, rfl, hkl, hval, hq0, hq1, hC, hgr⟩ := hrel
    by_cases hlt : k < xl.length
    · obtain ⟨b, off, rfl, hb, hcs⟩ := HA.out.cells (by omega)
      have hBw : Below B w wr := (Below.refl B w).grown hgr.out hB (fun j hj => by cases hj; exact hbk)
      obtain ⟨a2, cap2, hbB, ⟨c0, c1, c2, c3⟩, hfit, hargs⟩ := (hcs.keep hBw).at k hlt
      have hws : w.heap.size + 1 < wr.heap.size := lt_of_block hq1.out
      have hbr : b < wr.heap.size := by omega
      have HF := Lib.hid hfit
      have HAr := Lib.hid (hargs.keep ((below_new wr (Obj.cells #[Value.int .i64 (eAt xl k).op, Value.int .i64 (eAt xl k).num, Value.string (eAt xl k).name, Value.slice a2 (eAt xl k).args.length cap2] 111)).mono (by omega)))
      have HC1 := Lib.hid (hC.out.below (below_new wr (Obj.cells #[Value.int .i64 (eAt xl k).op, Value.int .i64 (eAt xl k).num, Value.string (eAt xl k).name, Value.slice a2 (eAt xl k).args.length cap2] 111)))
      have HG1 := Lib.hid (Lib.grownBy_trans hgr.out (grown_below (some kb) (below_new wr (Obj.cells #[Value.int .i64 (eAt xl k).op, Value.int .i64 (eAt xl k).num, Value.string (eAt xl k).name, Value.slice a2 (eAt xl k).args.length cap2] 111))))
      have Q0 := Lib.hid (one_alloc (o' := (Obj.cells #[Value.int .i64 (eAt xl k).op, Value.int .i64 (eAt xl k).num, Value.string (eAt xl k).name, Value.slice a2 (eAt xl k).args.length cap2] 111)) hq0.out)
      have Q1 := Lib.hid (one_alloc (o' := (Obj.cells #[Value.int .i64 (eAt xl k).op, Value.int .i64 (eAt xl k).num, Value.string (eAt xl k).name, Value.slice a2 (eAt xl k).args.length cap2] 111)) hq1.out)
      clear hargs hcs hfit hC hgr hq0 hq1 hBw
      go_wp2_with fail
      generalize wr.alloc (Obj.cells #[Value.int .i64 (eAt xl k).op, Value.int .i64 (eAt xl k).num, Value.string (eAt xl k).name, Value.slice a2 (eAt xl k).args.length cap2] 111) = W1 at *
      refine (IH.out (eAt xl k) (size_arg (x := .mk o nu s xl) hlt) a2 cap2 _ HC1.out HF.out (wfL_at HW.out k hlt) (by have := cntL_at (l := xl) k hlt; omega) HAr.out).mono ?_
      rintro e w2 ⟨rfl, hC2, hg2⟩
      have HC2 := Lib.hid hC2
      have HG2 := Lib.hid (Lib.grownBy_trans HG1.out hg2)
      have Q02 := Lib.hid ((hg2.block _ (lt_of_block Q0.out) (by simp; omega)).trans Q0.out)
      have Q12 := Lib.hid ((hg2.block _ (lt_of_block Q1.out) (by simp; omega)).trans Q1.out)
      clear hC2 hg2 HC1 HG1 Q0 Q1 HAr c0 c1 c2 c3
      by_cases e1 : (tyE (lkC l n) sc (eAt xl k)).2 = 0
      · have hst := Lib.hid (tyL_ok hlt hval.out e1)
        have y0 : w2.cell? ⟨w.heap.size + 1, k, none⟩ = some (.int .i64 0) := by have := mkA_get ks xl.length (by rw [hkl.out]; exact hlt); rw [hkl.out] at this; exact cellW Q12.out this
        have y1 : w2.frozen? ⟨w.heap.size + 1, k, none⟩ = false := freeW Q12.out
        have ys : w.heap.size + 1 < w2.heap.size := lt_of_block Q12.out
        have G3 := Lib.grownBy_setCell w2 (w.heap.size + 1) k (.int .i64 (tyE (lkC l n) sc (eAt xl k)).1)
        have HC3 := Lib.hid (HC2.out.other G3 (by omega) (by omega) (by omega) (by omega))
        have HG3 := Lib.hid (HG2.out.andThen G3 (fun j hj => by cases hj; exact .inl (by omega)))
        have Q03 := Lib.hid ((G3.block _ (lt_of_block Q02.out) (by simp)).trans Q02.out)
        have Q13 := Lib.hid (block_setCell (i := k) (u := .int .i64 (tyE (lkC l n) sc (eAt xl k)).1) Q12.out)
        have hset := mkA_set ks xl.length (tyE (lkC l n) sc (eAt xl k)).1 (by rw [hkl.out]; exact hlt)
        rw [hkl.out] at hset
        rw [hset] at Q13
        have hk1 := Lib.hid (show (ks ++ [(tyE (lkC l n) sc (eAt xl k)).1]).length = k + 1 by simp [hkl.out])
        clear G3 hset hval
        rw [e1]
        go_wp2_with fail
        go_roundw
        case rel => exact ⟨k + 1, _, by omega, by go_num, hk1, hst, Q03, Q13, HC3, HG3⟩
        case measure => simp [intOf]; omega
      · have hst := Lib.hid (tyL_bad hlt hval.out e1)
        have hr := Lib.hid (show tyE (lkC l n) sc (.mk o nu s xl) = (0, (tyE (lkC l n) sc (eAt xl k)).2) from Hv.out.trans (by rw [hst.out, if_pos e1]))
        have e2 : ((tyE (lkC l n) sc (eAt xl k)).2 != 0) = true := by simpa using e1
        go_wp2_with fail
        go_ret2
        exact ⟨ret_int2 (by rw [hr.out]) (by rw [hr.out]), HC2.out, HG2.out⟩
    · obtain rfl : k = xl.length := by omega
      have hkl2 := hkl.out
      have hst := Lib.hid (show tyL (lkC l n) sc xl = (0, ks) from hval.out.trans (by rw [List.drop_length, tyL]; simp))
      have Hv2 := Lib.hid (show tyE (lkC l n) sc (.mk o nu s xl) = if resK o ks ≠ 0 then (resK o ks, 0) else (0, 9) from Hv.out.trans (by rw [hst.out]; simp))
      have y0 : wr.cell? ⟨w.heap.size, 0, none⟩ = some (.int .i64 o) := cellW hq0.out rfl
      have ys : w.heap.size + 1 < wr.heap.size := lt_of_block hq1.out
      have HI := Lib.hid (show IntsAt wr (some ⟨w.heap.size + 1, 0, none⟩) ks from .inr ⟨w.heap.size + 1, 0, rfl, ys, fun i hi => by rw [Nat.zero_add]; exact cellW hq1.out (mkA_full ks xl.length hkl2 i hi)⟩)
      have H4 := H3.out
      rw [← hkl2] at H4
      have H5 := Lib.hid H4
      clear hkl2 H4 hval
      go_wp2_with fail
      have hkl2 := hkl.out
      rw [← hkl2]
      refine (result_any o ks _ _ wr (by omega) h1 h2 O6.out H5.out HI.out).mono ?_
      rintro e w2 ⟨rfl, hb2⟩
      have HC2 := Lib.hid (hC.out.below hb2)
      have HG2 := Lib.hid (Lib.grownBy_trans hgr.out (grown_below (some kb) hb2))
      clear hb2 hkl2 y0
      by_cases e1 : resK o ks = 0
      · have hr := Lib.hid (Hv2.out.trans (if_neg (by simpa using e1)))
        rw [e1]
        go_wp2_with fail
        go_ret2
        exact ⟨ret_int2 (by rw [hr.out]) (by rw [hr.out]), HC2.out, HG2.out⟩
      · have hr := Lib.hid (Hv2.out.trans (if_pos (by simpa using e1)))
        have e2 : (resK o ks != 0) = true := by simpa using e1
        go_wp2_with fail
        go_ret2
        exact ⟨ret_int2 (by rw [hr.out]) (by rw [hr.out]), HC2.out, HG2.out⟩
theorem node_of (B kp ib kb : Nat) (l : List ConstM) (a : Option Addr) (cap : Nat) (n : Nat) (hn : n ≤ 140737488355328) (HConst : ∀ i, i < n → i < l.length → ConstS B kp ib kb l a cap i) : NodeS B kp ib kb l a cap n := by
  intro sc x
  obtain ⟨m, hm⟩ : ∃ m, m = SizeOf.sizeOf x := ⟨_, rfl⟩
  induction m using Nat.strongRecOn generalizing x with
  | _ m ih =>
    subst hm
    intro xa xc w hC hf hwf hcnt ha
    obtain ⟨o, nu, s, xl⟩ := x
    by_cases o6 : o = 6
    · subst o6
      exact node_attr B kp ib kb l a cap n HConst sc nu s xl xa xc w hC hf.1 hn
    · exact node_args B kp ib kb l a cap n sc o nu s xl o6 xa xc w hC hwf hcnt ha (fun x hx xa xc w h1 h2 h3 h4 h5 => ih _ hx x rfl xa xc w h1 h2 h3 h4 h5)
theorem constant_any (B kp ib kb : Nat) (l : List ConstM) (a : Option Addr) (cap : Nat) (hl : l.length ≤ 140737488355328) (i : Nat) (hi : i < l.length) : ConstS B kp ib kb l a cap i := by
  induction i using Nat.strongRecOn with
  | _ i ih => exact constant_of B kp ib kb l a cap i hi (typeOf_of B kp ib kb l a cap i (node_of B kp ib kb l a cap i (by omega) (fun j hj hjl => ih j hj hjl)))
theorem typeOf_any (B kp ib kb : Nat) (l : List ConstM) (a : Option Addr) (cap : Nat) (hl : l.length ≤ 140737488355328) (n : Nat) (hn : n ≤ 140737488355328) : TypeOfS B kp ib kb l a cap n :=
  typeOf_of B kp ib kb l a cap n (node_of B kp ib kb l a cap n hn (fun i _ hi => constant_any B kp ib kb l a cap hl i hi))
end Go.Proofs.YtpgbckgjlgecpaaGreat
/- contracts of package types: expect, Validate -/
namespace Go.Proofs.YtpgbckgjlgecpaaGreat
open Go.RowKit Go.Sort
set_option linter.unusedVariables false
set_option linter.unusedSimpArgs false
set_option maxRecDepth 100000
/-- the error of an expression that must have a type -/
def expE (r : Int × Int) (k : Int) : Int := if r.2 = 0 then (if r.1 = k then 0 else 9) else r.2
def ExpPost (B kp ib kb : Nat) (l : List ConstM) (a : Option Addr) (cap : Nat) (w : World) (v : Int) (e : Ending) (w' : World) : Prop := e = .returned (.int .i64 v) ∧ ChkAt B w' kp ib kb l a cap ∧ w.grownBy w' (some kb)
set_option maxHeartbeats 800000 in
theorem expect_any (B kp ib kb : Nat) (l : List ConstM) (a : Option Addr) (cap : Nat) (hl : l.length ≤ 140737488355328) (n : Nat) (hn : n ≤ 140737488355328) (sc kd : Int) (x : ExprM) (xa : Option Addr) (xc : Nat) (w : World) (hC : ChkAt B w kp ib kb l a cap) (hf : ExprFit x) (ha : ArgsAt B w xa x.args) :
    Calls Tryz.prog 140 #[.pointer (some ⟨kp, 0, none⟩), .int .i64 sc, .int .i64 n, .agg #[.int .i64 x.op, .int .i64 x.num, .string x.name, .slice xa x.args.length xc], .int .i64 kd] w (ExpPost B kp ib kb l a cap w (expE (typX l n sc x) kd)) := by
  have HC := Lib.hid hC
  have HA := Lib.hid ha
  have hB : B ≤ w.heap.size := Nat.le_trans hC.bp (Nat.le_of_lt hC.lt.1)
  clear hC ha
  go_enter Tryz.func140, Tryz.ntmps140
  go_wp2_with fail
  have HB := Lib.hid (below_new w (Obj.cells #[Value.int .i64 x.op, Value.int .i64 x.num, Value.string x.name, Value.slice xa x.args.length xc] 111))
  have HC0 := Lib.hid (HC.out.below HB.out)
  have HA0 := Lib.hid (HA.out.keep (HB.out.mono hB))
  generalize w.alloc (Obj.cells #[Value.int .i64 x.op, Value.int .i64 x.num, Value.string x.name, Value.slice xa x.args.length xc] 111) = W at *
  refine (typeOf_any B kp ib kb l a cap hl n hn sc x xa xc W HC0.out hf HA0.out).mono ?_
  rintro e w1 ⟨rfl, hC1, hg1⟩
  have HC1 := Lib.hid hC1
  have HG1 := Lib.hid (Lib.grownBy_trans (grown_below (some kb) HB.out) hg1)
  clear hC1 hg1 HB HC0 HA0 W
  generalize typX l n sc x = r at *
  by_cases e1 : r.2 = 0
  · have e1b : (r.2 == 0) = true := by simpa using e1
    by_cases e2 : r.1 = kd
    · have e2b : (r.1 != kd) = false := by simpa using e2
      have hz := Lib.hid (show expE r kd = 0 by rw [expE, if_pos e1, if_pos e2])
      have E1 := Lib.hid e1
      clear e1 e2
      go_wp2_with fail
      go_ret
      exact ⟨ret_int (by rw [hz.out, E1.out]), HC1.out, HG1.out⟩
    · have e2b : (r.1 != kd) = true := by simpa using e2
      have hz := Lib.hid (show expE r kd = 9 by rw [expE, if_pos e1, if_neg e2])
      clear e1 e2
      go_wp2_with fail
      go_ret
      exact ⟨ret_int (by rw [hz.out]), HC1.out, HG1.out⟩
  · have e1b : (r.2 == 0) = false := by simpa using e1
    have hz := Lib.hid (show expE r kd = r.2 by rw [expE, if_neg e1])
    clear e1
    go_wp2_with fail
    go_ret
    exact ⟨ret_int (by rw [hz.out]), HC1.out, HG1.out⟩
/-- the first error -/
def fstE (f : Nat → Int) : Nat → Nat → Int
  | _, 0 => 0
  | k, m + 1 => if f k ≠ 0 then f k else fstE f (k + 1) m
theorem fstE_bad {f : Nat → Int} {k n : Nat} (h : k < n) (hf : f k ≠ 0) : fstE f k (n - k) = f k := by
  obtain ⟨m, hm⟩ : ∃ m, n - k = m + 1 := ⟨n - k - 1, by omega⟩
  rw [hm, fstE, if_pos hf]
theorem fstE_go {f : Nat → Int} {k n : Nat} (h : k < n) (hf : f k = 0) : fstE f k (n - k) = fstE f (k + 1) (n - (k + 1)) := by
  obtain ⟨m, hm⟩ : ∃ m, n - k = m + 1 := ⟨n - k - 1, by omega⟩
  have : n - (k + 1) = m := by omega
  rw [hm, this, fstE, if_neg (by simpa using hf)]
theorem fstE_end (f : Nat → Int) (n : Nat) : fstE f n (n - n) = 0 := by rw [Nat.sub_self]; rfl
def knownB (s : ByteArray) : Bool := !(attrK 1 s == 0 && attrK 2 s == 0 && attrK 3 s == 0)
theorem knownB_of {s : ByteArray} {m : Nat} (h1 : 1 ≤ m) (h3 : m ≤ 3) (e : attrK m s ≠ 0) : knownB s = true := by
  obtain rfl | rfl | rfl : m = 1 ∨ m = 2 ∨ m = 3 := by omega
  · have : (attrK 1 s == 0) = false := by simpa using e
    simp only [knownB, this]; rfl
  · have : (attrK 2 s == 0) = false := by simpa using e
    simp only [knownB, this]; simp
  · have : (attrK 3 s == 0) = false := by simpa using e
    simp only [knownB, this]; simp
def cErr (l : List ConstM) (i : Nat) : Int := if knownB (csAt l i).name = true then 7 else (ctyp l i).2
def rErr (c : ConM) (i : Nat) : Int := expE (typX c.consts c.consts.length (rlAt c.rules i).scope (rlAt c.rules i).ex) 4
def kErr (c : ConM) (i : Nat) : Int := expE (typX c.consts c.consts.length (coAt c.costs i).scope (coAt c.costs i).ex) 1
def xErr (c : ConM) (i : Nat) : Int := expE (typX c.consts c.consts.length 1 (eAt c.credit i)) 2
/-- what types.Validate says -/
def valT (c : ConM) : Int :=
  if valG c ≠ 0 then valG c else if fstE (cErr c.consts) 0 (c.consts.length - 0) ≠ 0 then fstE (cErr c.consts) 0 (c.consts.length - 0)
  else if fstE (rErr c) 0 (c.rules.length - 0) ≠ 0 then fstE (rErr c) 0 (c.rules.length - 0) else if fstE (kErr c) 0 (c.costs.length - 0) ≠ 0 then fstE (kErr c) 0 (c.costs.length - 0)
  else fstE (xErr c) 0 (c.credit.length - 0)
theorem lt_grown {w w' W : World} {kb : Nat} (h : Below w.heap.size w W) (hg : W.grownBy w' (some kb)) (hk : w.heap.size ≤ kb) : Below w.heap.size w w' := h.grown hg h.size (fun j hj => by cases hj; exact hk)
set_option maxHeartbeats 6400000 in
theorem validateT_any (c : ConM) (p : ConP) (w : World) (B : Nat) (hB : B ≤ w.heap.size) (ha : ConAt B w c p) :
    Calls Tryz.prog 92 #[.agg #[.int .i64 c.report, .int .i64 c.release, .int .i64 c.connect, .int .i64 c.sit, .int .i64 c.layover, .int .i64 c.nf, .int .i64 c.nt, .slice p.ca c.consts.length p.cc, .slice p.ra c.rules.length p.rc, .slice p.ka c.costs.length p.kc, .slice p.xa c.credit.length p.xc, .slice p.la c.lims.length p.lc, .slice p.oa c.offs.length p.oc, .int .i64 c.guar]] w fun e w' => e = .returned (.int .i64 (valT c)) ∧ Below w.heap.size w w' := by
  have hlc := ha.consts.1
  have hlr := ha.rules.1
  have hlk := ha.costs.1
  have hlx := ha.creditN
  have HA := Lib.hid ha
  clear ha
  go_enter Tryz.func92, Tryz.ntmps92
  go_wp2_with fail
  have HX := Lib.hid (ConBox.new w c p)
  have HB := Lib.hid (below_new w (Obj.cells #[Value.int .i64 c.report, Value.int .i64 c.release, Value.int .i64 c.connect, Value.int .i64 c.sit, Value.int .i64 c.layover, Value.int .i64 c.nf, Value.int .i64 c.nt, Value.slice p.ca c.consts.length p.cc, Value.slice p.ra c.rules.length p.rc, Value.slice p.ka c.costs.length p.kc, Value.slice p.xa c.credit.length p.xc, Value.slice p.la c.lims.length p.lc, Value.slice p.oa c.offs.length p.oc, Value.int .i64 c.guar] 34))
  have HA1 := Lib.hid (HA.out.keep (HB.out.mono hB))
  generalize w.alloc (Obj.cells #[Value.int .i64 c.report, Value.int .i64 c.release, Value.int .i64 c.connect, Value.int .i64 c.sit, Value.int .i64 c.layover, Value.int .i64 c.nf, Value.int .i64 c.nt, Value.slice p.ca c.consts.length p.cc, Value.slice p.ra c.rules.length p.rc, Value.slice p.ka c.costs.length p.kc, Value.slice p.xa c.credit.length p.xc, Value.slice p.la c.lims.length p.lc, Value.slice p.oa c.offs.length p.oc, Value.int .i64 c.guar] 34) = W at *
  refine (validateG_any c p W B (by have := HB.out.size; omega) HA1.out).mono ?_
  rintro e w1 ⟨rfl, hb⟩
  have HX1 := Lib.hid (HX.out.below hb)
  have HB1 := Lib.hid (Below.then HB.out hb)
  have hcl := HX1.out.lt
  have d7 : w1.cell? ⟨w.heap.size, 7, none⟩ = some (.slice p.ca c.consts.length p.cc) := cellW (j := 7) HX1.out rfl
  clear hb HX HB HA1 W
  by_cases e0 : valG c = 0
  · have Hv := Lib.hid (show valT c = if fstE (cErr c.consts) 0 (c.consts.length - 0) ≠ 0 then fstE (cErr c.consts) 0 (c.consts.length - 0) else if fstE (rErr c) 0 (c.rules.length - 0) ≠ 0 then fstE (rErr c) 0 (c.rules.length - 0) else if fstE (kErr c) 0 (c.costs.length - 0) ≠ 0 then fstE (kErr c) 0 (c.costs.length - 0) else fstE (xErr c) 0 (c.credit.length - 0) from if_neg (by simpa using e0))
    rw [e0]
    go_wp2_with fail
    refine (newChecker_any c.consts p.ca p.cc w1 B (by have := HB1.out.size; omega) (HA.out.keep (HB1.out.mono hB)).consts).mono ?_
    rintro e w2 ⟨kp, ib, kb, rfl, hC2, hkb1, hb2⟩
    have hkb : w.heap.size ≤ kb := by have := HB1.out.size; omega
    have hCk := Lib.hid hC2
    have hBx := Lib.hid (HX1.out.below hb2)
    have hbel := Lib.hid (Below.then HB1.out hb2)
    have hkx : w.heap.size ≠ kb := by have := HX1.out.lt; omega
    clear hC2 hb2 HX1 HB1 d7 hcl e0 hkb1
    have hcl := hBx.out.lt
    have d7 : w2.cell? ⟨w.heap.size, 7, none⟩ = some (.slice p.ca c.consts.length p.cc) := cellW (j := 7) hBx.out rfl
    go_wp2_with fail
    clear d7 hcl
    go_loopw [33] (fun i wr => ∃ (k : Nat), k ≤ c.consts.length ∧ i = .int .i64 k ∧ Hid (fstE (cErr c.consts) 0 (c.consts.length - 0) = fstE (cErr c.consts) k (c.consts.length - k)) ∧ Hid (ConBox wr w.heap.size c p) ∧ Hid (ChkAt B wr kp ib kb c.consts p.ca p.cc) ∧ Hid (Below w.heap.size w wr)) (fun i _ => c.consts.length - (intOf i).toNat)
    case atStart => exact ⟨0, Nat.zero_le _, rfl, Lib.hid rfl, hBx, hCk, hbel⟩
    clear hBx hCk hbel
    case round =>
      obtain ⟨k, hk, rfl, hval, hBx, hCk, hbel⟩ := hrel
      by_cases hlt : k < c.consts.length
      · obtain ⟨b, off, hpa, hb, hcs⟩ := HA.out.consts.cells (by omega)
        rw [hpa]
        have HPA := Lib.hid hpa
        obtain ⟨c0, s1, a2, cap2, ⟨c1, c2, c3, c4⟩, hfit, hargs⟩ := (hcs k hlt).keep (hbel.out.mono hB) b _ _ hb
        have hbr : b < wr.heap.size := by have := hbel.out.size; omega
        have HB1 := Lib.hid (Below.then hbel.out (below_new wr (Obj.cells #[Value.string (csAt c.consts k).name, Value.int .i64 (csAt c.consts k).ex.op, Value.int .i64 (csAt c.consts k).ex.num, Value.string (csAt c.consts k).ex.name, Value.slice a2 (csAt c.consts k).ex.args.length cap2] 138)))
        have HX1 := Lib.hid (hBx.out.below (below_new wr (Obj.cells #[Value.string (csAt c.consts k).name, Value.int .i64 (csAt c.consts k).ex.op, Value.int .i64 (csAt c.consts k).ex.num, Value.string (csAt c.consts k).ex.name, Value.slice a2 (csAt c.consts k).ex.args.length cap2] 138)))
        have HC1 := Lib.hid (hCk.out.below (below_new wr (Obj.cells #[Value.string (csAt c.consts k).name, Value.int .i64 (csAt c.consts k).ex.op, Value.int .i64 (csAt c.consts k).ex.num, Value.string (csAt c.consts k).ex.name, Value.slice a2 (csAt c.consts k).ex.args.length cap2] 138)))
        have q0 := Lib.hid (heap_new wr (Obj.cells #[Value.string (csAt c.consts k).name, Value.int .i64 (csAt c.consts k).ex.op, Value.int .i64 (csAt c.consts k).ex.num, Value.string (csAt c.consts k).ex.name, Value.slice a2 (csAt c.consts k).ex.args.length cap2] 138))
        clear hargs hcs hfit hBx hCk hpa hbel
        go_wp2_with fail
        generalize wr.alloc (Obj.cells #[Value.string (csAt c.consts k).name, Value.int .i64 (csAt c.consts k).ex.op, Value.int .i64 (csAt c.consts k).ex.num, Value.string (csAt c.consts k).ex.name, Value.slice a2 (csAt c.consts k).ex.args.length cap2] 138) = W1 at *
        have y0 : W1.cell? ⟨wr.heap.size, 0, none⟩ = some (.string (csAt c.consts k).name) := cellW q0.out rfl
        have ys : wr.heap.size < W1.heap.size := lt_of_block q0.out
        clear c0 c1 c2 c3 c4 q0
        go_loop [7] (fun i => ∃ m : Nat, 1 ≤ m ∧ m ≤ 4 ∧ i = .int .i64 m ∧ Hid (∀ j : Nat, 1 ≤ j → j < m → attrK j (csAt c.consts k).name = 0)) (fun i => 4 - (intOf i).toNat)
        case atStart => exact ⟨1, by omega, by omega, rfl, Lib.hid (fun j h1 h2 => by omega)⟩
        case round =>
          obtain ⟨m, hm1, hm4, rfl, hno⟩ := hrel
          by_cases hm : m ≤ 3
          · have hm' : (m : Int) ≤ 3 := by omega
            go_wp2_with fail
            refine (attributeType_any m (csAt c.consts k).name W1 s1).mono ?_
            rintro e w3 ⟨rfl, rfl⟩
            by_cases e1 : attrK m (csAt c.consts k).name = 0
            · have e2 : attrE (attrK m (csAt c.consts k).name) = 6 := by rw [e1]; rfl
              have hno2 := Lib.hid (show ∀ j : Nat, 1 ≤ j → j < m + 1 → attrK j (csAt c.consts k).name = 0 from fun j h1 h2 => by
                by_cases ej : j = m
                · subst ej; exact e1
                · exact hno.out j h1 (by omega))
              rw [e2, e1]
              go_wp2_with fail
              go_round
              case rel => exact ⟨m + 1, by omega, by omega, by go_num, hno2⟩
              case measure => simp [intOf]; omega
            · have e2 : attrE (attrK m (csAt c.consts k).name) = 0 := if_neg (by simpa using e1)
              have hkn : knownB (csAt c.consts k).name = true := knownB_of hm1 hm e1
              have hce : cErr c.consts k = 7 := if_pos hkn
              have hst := Lib.hid (hval.out.trans (fstE_bad hlt (by rw [hce]; decide)))
              have hr := Lib.hid (show valT c = 7 from Hv.out.trans (by rw [hst.out, hce]; rfl))
              clear hce hkn
              rw [e2]
              go_wp2_with fail
              go_ret
              exact ⟨ret_int hr.out.symm, HB1.out⟩
          · obtain rfl : m = 4 := by omega
            have hkn : knownB (csAt c.consts k).name = false := by
              have h1 := hno.out 1 (by omega) (by omega)
              have h2 := hno.out 2 (by omega) (by omega)
              have h3 := hno.out 3 (by omega) (by omega)
              simp only [Int.natCast_one, Int.cast_ofNat_Int] at h1 h2 h3
              simp [knownB, h1, h2, h3]
            have hce := Lib.hid (show cErr c.consts k = (ctyp c.consts k).2 from if_neg (by simp [hkn]))
            clear hkn hno hm hm1 hm4
            go_wp2_with fail
            refine (constant_any B kp ib kb c.consts p.ca p.cc (by omega) k hlt W1 HC1.out).mono ?_
            rintro e w2 ⟨rfl, hC2, hg2⟩
            have HC2 := Lib.hid hC2
            have HX2 := Lib.hid (HX1.out.grown hg2 (by simp; omega))
            have HB2 := Lib.hid (lt_grown HB1.out hg2 hkb)
            clear hC2 hg2 HX1 HC1 HB1 y0 ys
            by_cases e1 : (ctyp c.consts k).2 = 0
            · have hst := Lib.hid (hval.out.trans (fstE_go hlt (hce.out.trans e1)))
              rw [e1]
              go_wp2_with fail
              go_roundw
              case rel => exact ⟨k + 1, by omega, by go_num, hst, HX2, (by rw [← HPA.out]; exact HC2), HB2⟩
              case measure => simp [intOf]; omega
            · have hst := Lib.hid (hval.out.trans (fstE_bad hlt (by rw [hce.out]; exact e1)))
              have hr := Lib.hid (show valT c = (ctyp c.consts k).2 from Hv.out.trans (by rw [hst.out, hce.out]; exact if_pos e1))
              have e2 : ((ctyp c.consts k).2 != 0) = true := by simpa using e1
              go_wp2_with fail
              go_ret
              exact ⟨ret_int hr.out.symm, HB2.out⟩
      · obtain rfl : k = c.consts.length := by omega
        have hst := Lib.hid (hval.out.trans (fstE_end _ _))
        have Hv2 := Lib.hid (show valT c = if fstE (rErr c) 0 (c.rules.length - 0) ≠ 0 then fstE (rErr c) 0 (c.rules.length - 0) else if fstE (kErr c) 0 (c.costs.length - 0) ≠ 0 then fstE (kErr c) 0 (c.costs.length - 0) else fstE (xErr c) 0 (c.credit.length - 0) from Hv.out.trans (by rw [hst.out]; rfl))
        have d7 : wr.cell? ⟨w.heap.size, 7, none⟩ = some (.slice p.ca c.consts.length p.cc) := cellW (j := 7) hBx.out rfl
        have d8 : wr.cell? ⟨w.heap.size, 8, none⟩ = some (.slice p.ra c.rules.length p.rc) := cellW (j := 8) hBx.out rfl
        have hcl := hBx.out.lt
        clear hval hst Hv
        go_wp2_with fail
        clear d7 d8 hcl hk hlt
        obtain ⟨w0, rfl⟩ : ∃ w0 : World, w0 = wr := ⟨_, rfl⟩
        go_loopw [67] (fun i wr => ∃ (k : Nat), k ≤ c.rules.length ∧ i = .int .i64 k ∧ Hid (fstE (rErr c) 0 (c.rules.length - 0) = fstE (rErr c) k (c.rules.length - k)) ∧ Hid (ConBox wr w.heap.size c p) ∧ Hid (ChkAt B wr kp ib kb c.consts p.ca p.cc) ∧ Hid (Below w.heap.size w wr)) (fun i _ => c.rules.length - (intOf i).toNat)
        case atStart => exact ⟨0, Nat.zero_le _, rfl, Lib.hid rfl, hBx, hCk, hbel⟩
        clear hBx hCk hbel
        case round =>
          obtain ⟨k, hk, rfl, hval, hBx, hCk, hbel⟩ := hrel
          by_cases hlt : k < c.rules.length
          · obtain ⟨b, off, hpa, hb, hcs⟩ := HA.out.rules.cells (by omega)
            rw [hpa]
            obtain ⟨c0, c00, s1, sw, a2, cap2, ⟨c1, c2, c3, c4⟩, hfit, hargs⟩ := (hcs k hlt).keep (hbel.out.mono hB) b _ _ hb
            have hbr : b < wr.heap.size := by have := hbel.out.size; omega
            have HF := Lib.hid hfit
            have HAr := Lib.hid (hargs.keep ((below_new wr (Obj.cells #[Value.int .i64 (rlAt c.rules k).scope, Value.string (rlAt c.rules k).name, Value.int .i64 (rlAt c.rules k).ex.op, Value.int .i64 (rlAt c.rules k).ex.num, Value.string (rlAt c.rules k).ex.name, Value.slice a2 (rlAt c.rules k).ex.args.length cap2] 113)).mono (by have := hbel.out.size; omega)))
            have HB1 := Lib.hid (Below.then hbel.out (below_new wr (Obj.cells #[Value.int .i64 (rlAt c.rules k).scope, Value.string (rlAt c.rules k).name, Value.int .i64 (rlAt c.rules k).ex.op, Value.int .i64 (rlAt c.rules k).ex.num, Value.string (rlAt c.rules k).ex.name, Value.slice a2 (rlAt c.rules k).ex.args.length cap2] 113)))
            have HX1 := Lib.hid (hBx.out.below (below_new wr (Obj.cells #[Value.int .i64 (rlAt c.rules k).scope, Value.string (rlAt c.rules k).name, Value.int .i64 (rlAt c.rules k).ex.op, Value.int .i64 (rlAt c.rules k).ex.num, Value.string (rlAt c.rules k).ex.name, Value.slice a2 (rlAt c.rules k).ex.args.length cap2] 113)))
            have HC1 := Lib.hid (hCk.out.below (below_new wr (Obj.cells #[Value.int .i64 (rlAt c.rules k).scope, Value.string (rlAt c.rules k).name, Value.int .i64 (rlAt c.rules k).ex.op, Value.int .i64 (rlAt c.rules k).ex.num, Value.string (rlAt c.rules k).ex.name, Value.slice a2 (rlAt c.rules k).ex.args.length cap2] 113)))
            clear hargs hcs hfit hBx hCk hpa
            go_wp2_with fail
            refine (expect_any B kp ib kb c.consts p.ca p.cc (by omega) c.consts.length (by omega) (rlAt c.rules k).scope 4 (rlAt c.rules k).ex a2 cap2 _ HC1.out HF.out HAr.out).mono ?_
            rintro e w2 ⟨rfl, hC2, hg2⟩
            have HC2 := Lib.hid hC2
            have HX2 := Lib.hid (HX1.out.grown hg2 (by simp; omega))
            have HB2 := Lib.hid (lt_grown HB1.out hg2 hkb)
            have hef : expE (typX c.consts c.consts.length (rlAt c.rules k).scope (rlAt c.rules k).ex) 4 = rErr c k := rfl
            rw [hef]
            clear hC2 hg2 HX1 HC1 HB1 HAr hef
            by_cases e1 : rErr c k = 0
            · have hst := Lib.hid (hval.out.trans (fstE_go hlt e1))
              rw [e1]
              go_wp2_with fail
              go_roundw
              case rel => exact ⟨k + 1, by omega, by go_num, hst, HX2, HC2, HB2⟩
              case measure => simp [intOf]; omega
            · have hst := Lib.hid (hval.out.trans (fstE_bad hlt e1))
              have hr := Lib.hid (show valT c = rErr c k from Hv2.out.trans (by rw [hst.out]; exact if_pos e1))
              have e2 : (rErr c k != 0) = true := by simpa using e1
              go_wp2_with fail
              go_ret
              exact ⟨ret_int hr.out.symm, HB2.out⟩
          · obtain rfl : k = c.rules.length := by omega
            have hst := Lib.hid (hval.out.trans (fstE_end _ _))
            have Hv3 := Lib.hid (show valT c = if fstE (kErr c) 0 (c.costs.length - 0) ≠ 0 then fstE (kErr c) 0 (c.costs.length - 0) else fstE (xErr c) 0 (c.credit.length - 0) from Hv2.out.trans (by rw [hst.out]; rfl))
            have d9 : wr.cell? ⟨w.heap.size, 9, none⟩ = some (.slice p.ka c.costs.length p.kc) := cellW (j := 9) hBx.out rfl
            have hcl := hBx.out.lt
            clear hval hst Hv2
            go_wp2_with fail
            clear d9 hcl hk hlt
            obtain ⟨w0, rfl⟩ : ∃ w0 : World, w0 = wr := ⟨_, rfl⟩
            go_loopw [85] (fun i wr => ∃ (k : Nat), k ≤ c.costs.length ∧ i = .int .i64 k ∧ Hid (fstE (kErr c) 0 (c.costs.length - 0) = fstE (kErr c) k (c.costs.length - k)) ∧ Hid (ConBox wr w.heap.size c p) ∧ Hid (ChkAt B wr kp ib kb c.consts p.ca p.cc) ∧ Hid (Below w.heap.size w wr)) (fun i _ => c.costs.length - (intOf i).toNat)
            case atStart => exact ⟨0, Nat.zero_le _, rfl, Lib.hid rfl, hBx, hCk, hbel⟩
            clear hBx hCk hbel
            case round =>
              obtain ⟨k, hk, rfl, hval, hBx, hCk, hbel⟩ := hrel
              by_cases hlt : k < c.costs.length
              · obtain ⟨b, off, hpa, hb, hcs⟩ := HA.out.costs.cells (by omega)
                rw [hpa]
                obtain ⟨c0, sw, a2, cap2, ⟨c1, c2, c3, c4⟩, hfit, hargs⟩ := (hcs k hlt).keep (hbel.out.mono hB) b _ _ hb
                have hbr : b < wr.heap.size := by have := hbel.out.size; omega
                have HF := Lib.hid hfit
                have HAr := Lib.hid (hargs.keep ((below_new wr (Obj.cells #[Value.int .i64 (coAt c.costs k).scope, Value.int .i64 (coAt c.costs k).ex.op, Value.int .i64 (coAt c.costs k).ex.num, Value.string (coAt c.costs k).ex.name, Value.slice a2 (coAt c.costs k).ex.args.length cap2] 115)).mono (by have := hbel.out.size; omega)))
                have HB1 := Lib.hid (Below.then hbel.out (below_new wr (Obj.cells #[Value.int .i64 (coAt c.costs k).scope, Value.int .i64 (coAt c.costs k).ex.op, Value.int .i64 (coAt c.costs k).ex.num, Value.string (coAt c.costs k).ex.name, Value.slice a2 (coAt c.costs k).ex.args.length cap2] 115)))
                have HX1 := Lib.hid (hBx.out.below (below_new wr (Obj.cells #[Value.int .i64 (coAt c.costs k).scope, Value.int .i64 (coAt c.costs k).ex.op, Value.int .i64 (coAt c.costs k).ex.num, Value.string (coAt c.costs k).ex.name, Value.slice a2 (coAt c.costs k).ex.args.length cap2] 115)))
                have HC1 := Lib.hid (hCk.out.below (below_new wr (Obj.cells #[Value.int .i64 (coAt c.costs k).scope, Value.int .i64 (coAt c.costs k).ex.op, Value.int .i64 (coAt c.costs k).ex.num, Value.string (coAt c.costs k).ex.name, Value.slice a2 (coAt c.costs k).ex.args.length cap2] 115)))
                clear hargs hcs hfit hBx hCk hpa
                go_wp2_with fail
                refine (expect_any B kp ib kb c.consts p.ca p.cc (by omega) c.consts.length (by omega) (coAt c.costs k).scope 1 (coAt c.costs k).ex a2 cap2 _ HC1.out HF.out HAr.out).mono ?_
                rintro e w2 ⟨rfl, hC2, hg2⟩
                have HC2 := Lib.hid hC2
                have HX2 := Lib.hid (HX1.out.grown hg2 (by simp; omega))
                have HB2 := Lib.hid (lt_grown HB1.out hg2 hkb)
                have hef : expE (typX c.consts c.consts.length (coAt c.costs k).scope (coAt c.costs k).ex) 1 = kErr c k := rfl
                rw [hef]
                clear hC2 hg2 HX1 HC1 HB1 HAr hef
                by_cases e1 : kErr c k = 0
                · have hst := Lib.hid (hval.out.trans (fstE_go hlt e1))
                  rw [e1]
                  go_wp2_with fail
                  go_roundw
                  case rel => exact ⟨k + 1, by omega, by go_num, hst, HX2, HC2, HB2⟩
                  case measure => simp [intOf]; omega
                · have hst := Lib.hid (hval.out.trans (fstE_bad hlt e1))
                  have hr := Lib.hid (show valT c = kErr c k from Hv3.out.trans (by rw [hst.out]; exact if_pos e1))
                  have e2 : (kErr c k != 0) = true := by simpa using e1
                  go_wp2_with fail
                  go_ret
                  exact ⟨ret_int hr.out.symm, HB2.out⟩
              · obtain rfl : k = c.costs.length := by omega
                have hst := Lib.hid (hval.out.trans (fstE_end _ _))
                have Hv4 := Lib.hid (show valT c = fstE (xErr c) 0 (c.credit.length - 0) from Hv3.out.trans (by rw [hst.out]; rfl))
                have d10 : wr.cell? ⟨w.heap.size, 10, none⟩ = some (.slice p.xa c.credit.length p.xc) := cellW (j := 10) hBx.out rfl
                have hcl := hBx.out.lt
                clear hval hst Hv3
                go_wp2_with fail
                clear d10 hcl hk hlt
                obtain ⟨w0, rfl⟩ : ∃ w0 : World, w0 = wr := ⟨_, rfl⟩
                go_loopw [103] (fun i wr => ∃ (k : Nat), k ≤ c.credit.length ∧ i = .int .i64 k ∧ Hid (fstE (xErr c) 0 (c.credit.length - 0) = fstE (xErr c) k (c.credit.length - k)) ∧ Hid (ConBox wr w.heap.size c p) ∧ Hid (ChkAt B wr kp ib kb c.consts p.ca p.cc) ∧ Hid (Below w.heap.size w wr)) (fun i _ => c.credit.length - (intOf i).toNat)
                case atStart => exact ⟨0, Nat.zero_le _, rfl, Lib.hid rfl, hBx, hCk, hbel⟩
                clear hBx hCk hbel
                case round =>
                  obtain ⟨k, hk, rfl, hval, hBx, hCk, hbel⟩ := hrel
                  by_cases hlt : k < c.credit.length
                  · obtain ⟨b, off, hpa, hb, hcs⟩ := HA.out.credit.cells (by omega)
                    rw [hpa]
                    obtain ⟨a2, cap2, hbB, ⟨c0, c1, c2, c3⟩, hfit, hargs⟩ := (hcs.keep (hbel.out.mono hB)).at k hlt
                    have hbr : b < wr.heap.size := by have := hbel.out.size; omega
                    have HF := Lib.hid hfit
                    have HAr := Lib.hid (hargs.keep ((below_new wr (Obj.cells #[Value.int .i64 (eAt c.credit k).op, Value.int .i64 (eAt c.credit k).num, Value.string (eAt c.credit k).name, Value.slice a2 (eAt c.credit k).args.length cap2] 111)).mono (by have := hbel.out.size; omega)))
                    have HB1 := Lib.hid (Below.then hbel.out (below_new wr (Obj.cells #[Value.int .i64 (eAt c.credit k).op, Value.int .i64 (eAt c.credit k).num, Value.string (eAt c.credit k).name, Value.slice a2 (eAt c.credit k).args.length cap2] 111)))
                    have HX1 := Lib.hid (hBx.out.below (below_new wr (Obj.cells #[Value.int .i64 (eAt c.credit k).op, Value.int .i64 (eAt c.credit k).num, Value.string (eAt c.credit k).name, Value.slice a2 (eAt c.credit k).args.length cap2] 111)))
                    have HC1 := Lib.hid (hCk.out.below (below_new wr (Obj.cells #[Value.int .i64 (eAt c.credit k).op, Value.int .i64 (eAt c.credit k).num, Value.string (eAt c.credit k).name, Value.slice a2 (eAt c.credit k).args.length cap2] 111)))
                    clear hargs hcs hfit hBx hCk hpa
                    go_wp2_with fail
                    refine (expect_any B kp ib kb c.consts p.ca p.cc (by omega) c.consts.length (by omega) 1 2 (eAt c.credit k) a2 cap2 _ HC1.out HF.out HAr.out).mono ?_
                    rintro e w2 ⟨rfl, hC2, hg2⟩
                    have HC2 := Lib.hid hC2
                    have HX2 := Lib.hid (HX1.out.grown hg2 (by simp; omega))
                    have HB2 := Lib.hid (lt_grown HB1.out hg2 hkb)
                    have hef : expE (typX c.consts c.consts.length 1 (eAt c.credit k)) 2 = xErr c k := rfl
                    rw [hef]
                    clear hC2 hg2 HX1 HC1 HB1 HAr hef
                    by_cases e1 : xErr c k = 0
                    · have hst := Lib.hid (hval.out.trans (fstE_go hlt e1))
                      rw [e1]
                      go_wp2_with fail
                      go_roundw
                      case rel => exact ⟨k + 1, by omega, by go_num, hst, HX2, HC2, HB2⟩
                      case measure => simp [intOf]; omega
                    · have hst := Lib.hid (hval.out.trans (fstE_bad hlt e1))
                      have hr := Lib.hid (show valT c = xErr c k from Hv4.out.trans (by rw [hst.out]))
                      have e2 : (xErr c k != 0) = true := by simpa using e1
                      go_wp2_with fail
                      go_ret
                      exact ⟨ret_int hr.out.symm, HB2.out⟩
                  · obtain rfl : k = c.credit.length := by omega
                    have hst := Lib.hid (hval.out.trans (fstE_end _ _))
                    have hr := Lib.hid (show valT c = 0 from Hv4.out.trans hst.out)
                    go_wp2_with fail
                    go_ret
                    exact ⟨ret_int hr.out.symm, hbel.out⟩
  · have hst := Lib.hid (show valT c = valG c from if_pos e0)
    have e4 : (valG c != 0) = true := by simpa using e0
    go_wp2_with fail
    go_ret
    exact ⟨ret_int hst.out.symm, HB1.out⟩
end Go.Proofs.YtpgbckgjlgecpaaGreat
/- contracts of package formula: arithmetic -/
namespace Go.Proofs.YtpgbckgjlgecpaaGreat
open Go.RowKit Go.Sort
set_option linter.unusedVariables false
set_option linter.unusedSimpArgs false
set_option maxRecDepth 100000
def clampI (n : Int) : Int := if n < -1099511627776 then -1099511627776 else if 1099511627776 < n then 1099511627776 else n
def inR (n : Int) : Prop := -1099511627776 ≤ n ∧ n ≤ 1099511627776
theorem clampI_in (n : Int) : inR (clampI n) := by unfold clampI inR; split <;> (try split) <;> omega
theorem clampI_id {n : Int} (h : inR n) : clampI n = n := by unfold clampI inR at *; rw [if_neg (by omega), if_neg (by omega)]
set_option maxHeartbeats 400000 in
theorem clamp_any (n : Int) (w : World) : Calls Tryz.prog 165 #[.int .i64 n] w fun e w' => e = .returned (.int .i64 (clampI n)) ∧ w = w' := by
  go_enter Tryz.func165, Tryz.ntmps165
  go_wp2_with fail
  all_goals (go_ret; exact ⟨ret_int (by unfold clampI; (repeat' split) <;> omega), rfl⟩)
set_option maxHeartbeats 800000 in
theorem add_any (a b : Int) (w : World) (ha : inR a) (hb : inR b) : Calls Tryz.prog 154 #[.int .i64 a, .int .i64 b] w fun e w' => e = .returned (.int .i64 (clampI (a + b))) ∧ w = w' := by
  obtain ⟨a1, a2⟩ := ha
  obtain ⟨b1, b2⟩ := hb
  by_cases h1 : 0 ≤ a <;> by_cases h2 : 0 ≤ b
  · have h3 : 0 ≤ a + b := by omega
    go_enter Tryz.func154, Tryz.ntmps154
    go_wp2_with (go_at_call 165; refine (clamp_any _ _).mono ?_; rintro e w' ⟨rfl, rfl⟩)
    go_ret
    exact ⟨rfl, rfl⟩
  · have h2' : b < 0 := by omega
    go_enter Tryz.func154, Tryz.ntmps154
    go_wp2_with (go_at_call 165; refine (clamp_any _ _).mono ?_; rintro e w' ⟨rfl, rfl⟩)
    go_ret
    exact ⟨rfl, rfl⟩
  · have h1' : a < 0 := by omega
    go_enter Tryz.func154, Tryz.ntmps154
    go_wp2_with (go_at_call 165; refine (clamp_any _ _).mono ?_; rintro e w' ⟨rfl, rfl⟩)
    go_ret
    exact ⟨rfl, rfl⟩
  · have h1' : a < 0 := by omega
    have h2' : b < 0 := by omega
    have h3 : a + b < 0 := by omega
    go_enter Tryz.func154, Tryz.ntmps154
    go_wp2_with (go_at_call 165; refine (clamp_any _ _).mono ?_; rintro e w' ⟨rfl, rfl⟩)
    go_ret
    exact ⟨rfl, rfl⟩
set_option maxHeartbeats 400000 in
theorem magnitude_any (n : Int) (w : World) (h : inR n) : Calls Tryz.prog 218 #[.int .i64 n] w fun e w' => e = .returned (.int .u64 (n.natAbs : Int)) ∧ w = w' := by
  obtain ⟨a1, a2⟩ := h
  by_cases h1 : n < 0
  · go_enter Tryz.func218, Tryz.ntmps218
    go_wp2_with fail
    go_ret
    refine ⟨ret_int ?_, rfl⟩
    simp only [IntKind.wrap_u64]
    omega
  · go_enter Tryz.func218, Tryz.ntmps218
    go_wp2_with fail
    go_ret
    refine ⟨ret_int ?_, rfl⟩
    try simp only [IntKind.wrap_u64]
    omega
theorem m64_mask (a : Nat) (ha : a < 18446744073709551616) : bits .and .u64 (a : Int) 4294967295 = ((a % 4294967296 : Nat) : Int) := by
  have h := bits_and_u64_nat a 4294967295 ha (by omega)
  have e : a &&& 4294967295 = a % 4294967296 := Nat.and_two_pow_sub_one_eq_mod a 32
  rw [e] at h
  exact h
theorem m64_div (a : Nat) : (a : Int) / 4294967296 = ((a / 4294967296 : Nat) : Int) := by omega
theorem m64_mul (a b : Nat) : (a : Int) * (b : Int) = ((a * b : Nat) : Int) := (Int.natCast_mul a b).symm
theorem m64_add (a b : Nat) : (a : Int) + (b : Int) = ((a + b : Nat) : Int) := (Int.natCast_add a b).symm
theorem m64_wrapN (a : Nat) (ha : a < 18446744073709551616) : IntKind.u64.wrap (a : Int) = (a : Int) := by rw [IntKind.wrap_u64]; omega
theorem m64_wrapM (a : Nat) : IntKind.u64.wrap (a : Int) = ((a % 18446744073709551616 : Nat) : Int) := by rw [IntKind.wrap_u64]; omega
set_option maxHeartbeats 1000000 in
theorem mul64_any (x y : Nat) (hx : x < 18446744073709551616) (hy : y < 18446744073709551616) (w : World) :
    Calls Tryz.prog 217 #[.int .u64 x, .int .u64 y] w fun e w' => e = .returned (.tuple #[.int .u64 ((x * y / 18446744073709551616 : Nat) : Int), .int .u64 ((x * y % 18446744073709551616 : Nat) : Int)]) ∧ w = w' := by
  obtain ⟨bd, bt, bw, hhi⟩ := Lib.mul64_hi x y hx hy
  have ba := Lib.half_mul_le (a := x / 4294967296) (b := y / 4294967296) (by omega) (by omega)
  have bb := Lib.half_mul_le (a := x / 4294967296) (b := y % 4294967296) (by omega) (by omega)
  have bc := Lib.half_mul_le (a := x % 4294967296) (b := y / 4294967296) (by omega) (by omega)
  have ba' : x / 4294967296 * (y / 4294967296) < 18446744073709551616 := by omega
  have bb' : x / 4294967296 * (y % 4294967296) < 18446744073709551616 := by omega
  have bc' : x % 4294967296 * (y / 4294967296) < 18446744073709551616 := by omega
  have bh1 : x / 4294967296 * (y / 4294967296) + (x / 4294967296 * (y % 4294967296) + x % 4294967296 * (y % 4294967296) / 4294967296) / 4294967296 < 18446744073709551616 := by omega
  have bh : x / 4294967296 * (y / 4294967296) + (x / 4294967296 * (y % 4294967296) + x % 4294967296 * (y % 4294967296) / 4294967296) / 4294967296 + ((x / 4294967296 * (y % 4294967296) + x % 4294967296 * (y % 4294967296) / 4294967296) % 4294967296 + x % 4294967296 * (y / 4294967296)) / 4294967296 < 18446744073709551616 := by omega
  go_enter Tryz.func217, Tryz.ntmps217
  go_wp2
  simp only [m64_mask x hx, m64_mask y hy, m64_div, m64_mul, m64_add, m64_wrapN _ bd, m64_wrapN _ bb', m64_wrapN _ bt, m64_mask _ bt, m64_wrapN _ bc', m64_wrapN _ bw, m64_wrapN _ ba', m64_wrapN _ bh1, m64_wrapN _ bh, m64_wrapM (x * y)]
  rw [hhi]
  go_ret2
  exact ⟨rfl, rfl⟩
def mulV (a b : Int) : Int := clampI (a * b)
set_option maxHeartbeats 3200000 in
theorem mul_any (a b : Int) (w : World) (ha : inR a) (hb : inR b) : Calls Tryz.prog 194 #[.int .i64 a, .int .i64 b] w fun e w' => e = .returned (.int .i64 (mulV a b)) ∧ w = w' := by
  have hA : a.natAbs < 18446744073709551616 := by unfold inR at ha; omega
  have hB : b.natAbs < 18446744073709551616 := by unfold inR at hb; omega
  have hp0 : 0 ≤ (a.natAbs : Int) * (b.natAbs : Int) := Int.mul_nonneg (by omega) (by omega)
  by_cases h1 : a < 0 <;> by_cases h2 : b < 0
  · have hz := Lib.hid (show a * b = (a.natAbs : Int) * (b.natAbs : Int) by
      have e1 : a = -(a.natAbs : Int) := by omega
      have e2 : b = -(b.natAbs : Int) := by omega
      generalize a.natAbs = p at *
      generalize b.natAbs = q at *
      subst e1 e2
      simp [Int.neg_mul, Int.mul_neg])
    have d1 : decide (a < 0) = true := by simpa using h1
    have d2 : decide (b < 0) = true := by simpa using h2
    go_enter Tryz.func194, Tryz.ntmps194
    go_wp2_with fail
    refine (magnitude_any a w ha).mono ?_
    rintro e w' ⟨rfl, rfl⟩
    go_wp2_with fail
    refine (magnitude_any b w hb).mono ?_
    rintro e w' ⟨rfl, rfl⟩
    go_wp2_with fail
    refine (mul64_any a.natAbs b.natAbs hA hB w).mono ?_
    rintro e w' ⟨rfl, rfl⟩
    go_wp2_with fail
    all_goals (go_ret; exact ⟨ret_int (by rw [mulV, hz.out]; unfold clampI; (repeat' split) <;> omega), rfl⟩)
  · have hz := Lib.hid (show a * b = -((a.natAbs : Int) * (b.natAbs : Int)) by
      have e1 : a = -(a.natAbs : Int) := by omega
      have e2 : b = (b.natAbs : Int) := by omega
      generalize a.natAbs = p at *
      generalize b.natAbs = q at *
      subst e1 e2
      simp [Int.neg_mul, Int.mul_neg])
    have d1 : decide (a < 0) = true := by simpa using h1
    have d2 : decide (b < 0) = false := by simpa using h2
    go_enter Tryz.func194, Tryz.ntmps194
    go_wp2_with fail
    refine (magnitude_any a w ha).mono ?_
    rintro e w' ⟨rfl, rfl⟩
    go_wp2_with fail
    refine (magnitude_any b w hb).mono ?_
    rintro e w' ⟨rfl, rfl⟩
    go_wp2_with fail
    refine (mul64_any a.natAbs b.natAbs hA hB w).mono ?_
    rintro e w' ⟨rfl, rfl⟩
    go_wp2_with fail
    all_goals (go_ret; exact ⟨ret_int (by rw [mulV, hz.out]; unfold clampI; (repeat' split) <;> omega), rfl⟩)
  · have hz := Lib.hid (show a * b = -((a.natAbs : Int) * (b.natAbs : Int)) by
      have e1 : a = (a.natAbs : Int) := by omega
      have e2 : b = -(b.natAbs : Int) := by omega
      generalize a.natAbs = p at *
      generalize b.natAbs = q at *
      subst e1 e2
      simp [Int.neg_mul, Int.mul_neg])
    have d1 : decide (a < 0) = false := by simpa using h1
    have d2 : decide (b < 0) = true := by simpa using h2
    go_enter Tryz.func194, Tryz.ntmps194
    go_wp2_with fail
    refine (magnitude_any a w ha).mono ?_
    rintro e w' ⟨rfl, rfl⟩
    go_wp2_with fail
    refine (magnitude_any b w hb).mono ?_
    rintro e w' ⟨rfl, rfl⟩
    go_wp2_with fail
    refine (mul64_any a.natAbs b.natAbs hA hB w).mono ?_
    rintro e w' ⟨rfl, rfl⟩
    go_wp2_with fail
    all_goals (go_ret; exact ⟨ret_int (by rw [mulV, hz.out]; unfold clampI; (repeat' split) <;> omega), rfl⟩)
  · have hz := Lib.hid (show a * b = (a.natAbs : Int) * (b.natAbs : Int) by
      have e1 : a = (a.natAbs : Int) := by omega
      have e2 : b = (b.natAbs : Int) := by omega
      generalize a.natAbs = p at *
      generalize b.natAbs = q at *
      subst e1 e2
      simp [Int.neg_mul, Int.mul_neg])
    have d1 : decide (a < 0) = false := by simpa using h1
    have d2 : decide (b < 0) = false := by simpa using h2
    go_enter Tryz.func194, Tryz.ntmps194
    go_wp2_with fail
    refine (magnitude_any a w ha).mono ?_
    rintro e w' ⟨rfl, rfl⟩
    go_wp2_with fail
    refine (magnitude_any b w hb).mono ?_
    rintro e w' ⟨rfl, rfl⟩
    go_wp2_with fail
    refine (mul64_any a.natAbs b.natAbs hA hB w).mono ?_
    rintro e w' ⟨rfl, rfl⟩
    go_wp2_with fail
    all_goals (go_ret; exact ⟨ret_int (by rw [mulV, hz.out]; unfold clampI; (repeat' split) <;> omega), rfl⟩)
/-- the quotient, rounded down -/
def divV (a b : Int) : Int := if b = 0 then 0 else if a.tmod b = 0 then a.tdiv b else if decide (a < 0) = decide (b < 0) then a.tdiv b else a.tdiv b - 1
theorem tdiv_bd {a b : Int} (ha : inR a) : inR (a.tdiv b) := by
  have h : (a.tdiv b).natAbs ≤ a.natAbs := by rw [Int.natAbs_tdiv]; exact Nat.div_le_self _ _
  unfold inR at *
  omega
theorem tdiv_bd2 {a b : Int} (ha : inR a) (hb : b ≠ 0) (hm : a.tmod b ≠ 0) : -549755813888 ≤ a.tdiv b ∧ a.tdiv b ≤ 549755813888 := by
  have h2 : 2 ≤ b.natAbs := by
    have h1 : b ≠ 1 := by rintro rfl; simp at hm
    have h2 : b ≠ -1 := by rintro rfl; simp at hm
    omega
  have h : (a.tdiv b).natAbs ≤ a.natAbs / 2 := by rw [Int.natAbs_tdiv]; exact Nat.div_le_div_left h2 (by omega)
  unfold inR at *
  omega
theorem divV_in {a b : Int} (ha : inR a) : inR (divV a b) := by
  unfold divV
  by_cases h0 : b = 0
  · rw [if_pos h0]; unfold inR; omega
  rw [if_neg h0]
  by_cases h1 : a.tmod b = 0
  · rw [if_pos h1]; exact tdiv_bd ha
  rw [if_neg h1]
  split
  · exact tdiv_bd ha
  · have := tdiv_bd2 ha h0 h1
    unfold inR; omega
set_option maxHeartbeats 1600000 in
theorem div_any (a b : Int) (w : World) (ha : inR a) (hb : inR b) : Calls Tryz.prog 195 #[.int .i64 a, .int .i64 b] w fun e w' => e = .returned (.int .i64 (divV a b)) ∧ w = w' := by
  have hA := ha
  obtain ⟨a1, a2⟩ := ha
  obtain ⟨b1, b2⟩ := hb
  by_cases h0 : b = 0
  · subst h0
    go_enter Tryz.func195, Tryz.ntmps195
    go_wp2_with fail
    go_ret
    exact ⟨rfl, rfl⟩
  by_cases h1 : b = -1
  · subst h1
    go_enter Tryz.func195, Tryz.ntmps195
    go_wp2_with fail
    refine (mul_any a (-1) w ⟨a1, a2⟩ (by unfold inR; omega)).mono ?_
    rintro e w' ⟨rfl, rfl⟩
    go_wp2_with fail
    go_ret
    exact ⟨ret_int (by rw [mulV, divV, if_neg (by omega), if_pos (by simp), clampI_id (by unfold inR; omega)]; simp), rfl⟩
  have e0 : (b == 0) = false := by simpa using h0
  have e1 : (b == -1) = false := by simpa using h1
  obtain ⟨q1, q2⟩ := tdiv_bd (b := b) hA
  by_cases hm : a.tmod b = 0
  · have hz := Lib.hid (show divV a b = clampI (a.tdiv b) by rw [divV, if_neg h0, if_pos hm, clampI_id ⟨q1, q2⟩])
    have em : (a.tmod b != 0) = false := by simpa using hm
    have em2 : 0 ≤ a → (a % b != 0) = false := fun h => by rw [← Int.tmod_eq_emod_of_nonneg h]; exact em
    clear hm hA
    go_enter Tryz.func195, Tryz.ntmps195
    go_wp2_with (go_at_call 165; refine (clamp_any _ _).mono ?_; rintro e w' ⟨rfl, rfl⟩)
    go_ret
    exact ⟨ret_int hz.out.symm, rfl⟩
  · obtain ⟨r1, r2⟩ := tdiv_bd2 hA h0 hm
    have em : (a.tmod b != 0) = true := by simpa using hm
    have em0 : ¬ a.tmod b = 0 := hm
    by_cases s1 : a < 0 <;> by_cases s2 : b < 0
    · have d1 : decide (a < 0) = true := by simpa using s1
      have d2 : decide (b < 0) = true := by simpa using s2
      have hz := Lib.hid (show divV a b = clampI (a.tdiv b) by rw [divV, if_neg h0, if_neg hm, if_pos (by rw [d1, d2]), clampI_id (by unfold inR; omega)])
      clear hm hA
      go_enter Tryz.func195, Tryz.ntmps195
      go_wp2_with (go_at_call 165; refine (clamp_any _ _).mono ?_; rintro e w' ⟨rfl, rfl⟩)
      go_ret
      exact ⟨ret_int hz.out.symm, rfl⟩
    · have d1 : decide (a < 0) = true := by simpa using s1
      have d2 : decide (b < 0) = false := by simpa using s2
      have hz := Lib.hid (show divV a b = clampI (a.tdiv b - 1) by rw [divV, if_neg h0, if_neg hm, if_neg (by rw [d1, d2]; decide), clampI_id (by unfold inR; omega)])
      clear hm hA
      go_enter Tryz.func195, Tryz.ntmps195
      go_wp2_with (go_at_call 165; refine (clamp_any _ _).mono ?_; rintro e w' ⟨rfl, rfl⟩)
      go_ret
      exact ⟨ret_int hz.out.symm, rfl⟩
    · have d1 : decide (a < 0) = false := by simpa using s1
      have d2 : decide (b < 0) = true := by simpa using s2
      have em2 : (a % b != 0) = true := by rw [← Int.tmod_eq_emod_of_nonneg (by omega)]; exact em
      have em3 : ¬ a % b = 0 := by rw [← Int.tmod_eq_emod_of_nonneg (by omega)]; exact hm
      have hz := Lib.hid (show divV a b = clampI (a.tdiv b - 1) by rw [divV, if_neg h0, if_neg hm, if_neg (by rw [d1, d2]; decide), clampI_id (by unfold inR; omega)])
      clear hm hA
      go_enter Tryz.func195, Tryz.ntmps195
      go_wp2_with (go_at_call 165; refine (clamp_any _ _).mono ?_; rintro e w' ⟨rfl, rfl⟩)
      go_ret
      exact ⟨ret_int hz.out.symm, rfl⟩
    · have d1 : decide (a < 0) = false := by simpa using s1
      have d2 : decide (b < 0) = false := by simpa using s2
      have em2 : (a % b != 0) = true := by rw [← Int.tmod_eq_emod_of_nonneg (by omega)]; exact em
      have em3 : ¬ a % b = 0 := by rw [← Int.tmod_eq_emod_of_nonneg (by omega)]; exact hm
      have hz := Lib.hid (show divV a b = clampI (a.tdiv b) by rw [divV, if_neg h0, if_neg hm, if_pos (by rw [d1, d2]), clampI_id (by unfold inR; omega)])
      clear hm hA
      go_enter Tryz.func195, Tryz.ntmps195
      go_wp2_with (go_at_call 165; refine (clamp_any _ _).mono ?_; rintro e w' ⟨rfl, rfl⟩)
      go_ret
      exact ⟨ret_int hz.out.symm, rfl⟩
end Go.Proofs.YtpgbckgjlgecpaaGreat
/- contracts of the reference's comparisons, and of LightPairing -/
namespace Go.Proofs.YtpgbckgjlgecpaaGreat
open Go.RowKit Go.Sort
set_option linter.unusedVariables false
set_option linter.unusedSimpArgs false
set_option maxRecDepth 100000

theorem same_below' {P : Program} {f : FuncId} {args : Array Value} {w : World} {v : Value} (h : Calls P f args w fun e w' => e = .returned v ∧ w = w') : Calls P f args w fun e w' => e = .returned v ∧ Below w.heap.size w w' :=
  h.mono fun _ _ ⟨he, hw⟩ => ⟨he, hw ▸ Below.refl _ _⟩
def flagI (b : Bool) : Int := if b = true then 1 else 0
set_option maxHeartbeats 400000 in
theorem flag_any (b : Bool) (w : World) : Calls Tryz.prog 128 #[.bool b] w fun e w' => e = .returned (.int .i64 (flagI b)) ∧ w = w' := by
  cases b
  all_goals
    go_enter Tryz.func128, Tryz.ntmps128
    go_wp2
    go_ret
    exact ⟨rfl, rfl⟩
theorem taskCmp_ref (x y : Int) (p q : Bool) : taskCmp (x, p) (y, q) = if x ≠ y then (if x < y then -1 else 1) else flagI p - flagI q := by
  unfold taskCmp cmpInt flagI
  by_cases h1 : x < y
  · rw [if_pos h1]; simp [show ¬ x = y by omega, h1]
  · by_cases h2 : y < x
    · simp [h1, h2, show ¬ x = y by omega]
    · obtain rfl : x = y := by omega
      cases p <;> cases q <;> simp
theorem cmpLen_end {A : Type} (c : A → A → Int) (l m : List A) (k : Nat) (hk : k ≤ l.length) (hk' : k ≤ m.length) (h : ¬ (k < l.length ∧ k < m.length)) : listCmp c (l.drop k) (m.drop k) = cmpInt l.length m.length := by
  unfold cmpInt
  by_cases h1 : k < l.length
  · rw [if_neg (by omega), if_pos (by omega), List.drop_of_length_le (by omega : m.length ≤ k), List.drop_eq_getElem_cons h1]; rfl
  · by_cases h2 : k < m.length
    · rw [if_pos (by omega), List.drop_of_length_le (by omega : l.length ≤ k), List.drop_eq_getElem_cons h2]; rfl
    · rw [if_neg (by omega), if_neg (by omega), List.drop_of_length_le (by omega : l.length ≤ k), List.drop_of_length_le (by omega : m.length ≤ k)]; rfl

theorem strCmp_zero (p q : ByteArray) : (strCmp p q = 0 ↔ (p.toList == q.toList) = true) ∧ ((p.toList == q.toList) = true → Op.bytesLess p.toList q.toList = false) := by
  have h : (p.toList == q.toList) = true → Op.bytesLess p.toList q.toList = false := by
    intro h
    rw [beq_iff_eq] at h
    rw [h]
    generalize q.toList = l
    induction l with
    | nil => rfl
    | cons c l ih => simp [Op.bytesLess, ih]
  refine ⟨?_, h⟩
  unfold strCmp
  constructor
  · intro h1
    split at h1
    · omega
    split at h1
    · assumption
    · omega
  · intro h1
    rw [if_neg (by rw [h h1]; decide), if_pos h1]
/-- LightPairing's count -/
def lpCount : Int → List Duty → Int
  | n, [] => n
  | n, d :: L => if n < 1000 then lpCount (n + 1 + d.length) L else n
def lightP (L : List Duty) : Bool := decide (lpCount 0 L < 100)
theorem lp_stop {n : Int} {L : List Duty} {k : Nat} (h : ¬ (k < L.length ∧ n < 1000)) : lpCount n (L.drop k) = n := by
  by_cases h1 : k < L.length
  · rw [d_drop L k h1, lpCount, if_neg (by omega)]
  · rw [List.drop_of_length_le (by omega), lpCount]
theorem lp_step {n : Int} {L : List Duty} {k : Nat} (h1 : k < L.length) (h2 : n < 1000) : lpCount n (L.drop k) = lpCount (n + 1 + (dAt L k).length) (L.drop (k + 1)) := by
  rw [d_drop L k h1, lpCount, if_pos h2]
set_option maxHeartbeats 800000 in
theorem LightPairing_walk (p : ByteArray) (L : List Duty) (b off cap : Nat) (w : World) (hl : L.length ≤ 140737488355328) (hb : b < w.heap.size) (hc : DutyCells w b off L) :
    Calls Tryz.prog 11 #[.agg #[.string p, .slice (some ⟨b, off, none⟩) L.length cap]] w fun e w' => e = .returned (.bool (lightP L)) ∧ Below w.heap.size w w' := by
  go_enter Tryz.func11, Tryz.ntmps11
  go_wp2_with fail
  generalize hW : w.alloc (Obj.cells #[.string p, .slice (some ⟨b, off, none⟩) L.length cap] 37) = W
  have hbW : Below w.heap.size w W := by rw [← hW]; exact below_new _ _
  have q1 : W.cell? ⟨w.heap.size, 1, none⟩ = some (.slice (some ⟨b, off, none⟩) L.length cap) := by clear hbW; subst hW; go_simp
  clear hW
  have hcW := hc.below hb hbW
  go_loop [3, 4] (fun m i => ∃ (k : Nat) (n : Int), k ≤ L.length ∧ i = .int .i64 k ∧ m = .int .i64 n ∧ 0 ≤ n ∧ n ≤ 4000000000000000000 ∧ Hid (lpCount 0 L = lpCount n (L.drop k))) (fun _ i => L.length - (intOf i).toNat)
  case atStart => exact ⟨0, 0, Nat.zero_le _, rfl, rfl, by omega, by omega, Lib.hid rfl⟩
  case round =>
    obtain ⟨k, n, hk, rfl, rfl, hn1, hn2, hall⟩ := hrel
    by_cases hlt : k < L.length ∧ n < 1000
    · obtain ⟨h1, h2⟩ := hlt
      obtain ⟨a1, p1, c1, c2, _⟩ := hcW k h1
      have hst := Lib.hid (hall.out.trans (lp_step h1 h2))
      go_wp2_with fail
      go_round
      case rel => exact ⟨k + 1, n + 1 + (dAt L k).length, by omega, by go_num, by go_num, by omega, by omega, hst⟩
      case measure => simp [intOf]; omega
    · have hst := Lib.hid (hall.out.trans (lp_stop hlt))
      by_cases h1 : k < L.length
      all_goals
        go_wp2_with fail
        go_ret
        exact ⟨ret_bool (by rw [lightP, hst.out]), hbW⟩
set_option maxHeartbeats 800000 in
theorem LightPairing_e (p : ByteArray) (a : Option Addr) (cap : Nat) (w : World) :
    Calls Tryz.prog 11 #[.agg #[.string p, .slice a 0 cap]] w fun e w' => e = .returned (.bool (lightP [])) ∧ Below w.heap.size w w' := by
  go_enter Tryz.func11, Tryz.ntmps11
  go_wp2_with fail
  go_loop [3, 4] (fun m i => m = .int .i64 0 ∧ i = .int .i64 0) (fun _ _ => 0)
  case atStart => exact ⟨rfl, rfl⟩
  case round =>
    obtain ⟨rfl, rfl⟩ := hrel
    go_wp2_with fail
    go_ret
    exact ⟨rfl, below_new _ _⟩
theorem LightPairing_any (p : ByteArray) (L : List Duty) (a : Option Addr) (cap : Nat) (w : World) (hl : L.length ≤ 140737488355328) (ha : SlAt dutyRT w a L) :
    Calls Tryz.prog 11 #[.agg #[.string p, .slice a L.length cap]] w fun e w' => e = .returned (.bool (lightP L)) ∧ Below w.heap.size w w' := by
  by_cases h : 0 < L.length
  · obtain ⟨b, off, rfl, hb, hc⟩ := duty_cells ha h
    exact LightPairing_walk p L b off cap w hl hb hc
  · obtain rfl : L = [] := List.length_eq_zero_iff.1 (by omega)
    exact LightPairing_e p a cap w
end Go.Proofs.YtpgbckgjlgecpaaGreat
/- formulas: plain; how they lie in memory; contracts of truth, InBand, combine -/
namespace Go.Proofs.YtpgbckgjlgecpaaGreat
open Go.RowKit Go.Sort
set_option linter.unusedVariables false
set_option linter.unusedSimpArgs false
set_option maxRecDepth 100000
def bndB (c f t : Int) : Bool := if f ≤ t then decide (f ≤ c) && decide (c < t) else decide (f ≤ c) || decide (c < t)
def minF : Int → List Int → Int
  | a, [] => a
  | a, x :: l => minF (min a x) l
def maxF : Int → List Int → Int
  | a, [] => a
  | a, x :: l => maxF (max a x) l
/-- an operator with two arguments -/
def op2V (o a b : Int) : Int :=
  if o = 8 then clampI (a + b) else if o = 9 then clampI (a + -b) else if o = 10 then mulV a b else if o = 11 then divV a b
  else if o = 16 then flagI (decide (a < b)) else if o = 17 then flagI (decide (a ≤ b)) else if o = 18 then flagI (a == b)
  else if o = 20 then (if a = 0 then 0 else b) else if o = 21 then (if a = 0 then b else 1) else (if a = 0 then 1 else b)
/-- the value of an operator -/
def opV (o : Int) (v : List Int) : Int :=
  if o = 7 then clampI (0 + -iAt v 0) else if o = 12 then minF (iAt v 0) (v.drop 1) else if o = 13 then maxF (iAt v 0) (v.drop 1)
  else if o = 14 then (if iAt v 0 ≠ 0 then iAt v 1 else iAt v 2) else if o = 15 then flagI (bndB (iAt v 0) (iAt v 1) (iAt v 2))
  else if o = 19 then 1 - iAt v 0 else op2V o (iAt v 0) (iAt v 1)
inductive FormM where
  | mk (op num : Int) (args : List FormM)
def FormM.op : FormM → Int
  | .mk o _ _ => o
def FormM.num : FormM → Int
  | .mk _ n _ => n
def FormM.args : FormM → List FormM
  | .mk _ _ l => l
def gAt (l : List FormM) (k : Nat) : FormM := l.getD k (.mk 0 0 [])
theorem g_drop (l : List FormM) (k : Nat) (h : k < l.length) : l.drop k = gAt l k :: l.drop (k + 1) := by
  rw [gAt, List.drop_eq_getElem_cons h, List.getD_eq_getElem?_getD, List.getElem?_eq_getElem h]; rfl
theorem gAt_mem {l : List FormM} {k : Nat} (h : k < l.length) : gAt l k ∈ l := by
  unfold gAt; rw [List.getD_eq_getElem?_getD, List.getElem?_eq_getElem h]; exact List.getElem_mem h
theorem size_garg {o n : Int} {l : List FormM} {k : Nat} (h : k < l.length) : SizeOf.sizeOf (gAt l k) < SizeOf.sizeOf (FormM.mk o n l) := by
  have := List.sizeOf_lt_of_mem (gAt_mem h)
  simp only [FormM.mk.sizeOf_spec]
  omega
mutual
def fval (q : List Int) : FormM → Int
  | .mk o n l => if o = 1 then n else if o = 6 then iAt q n.toNat else opV o (fvalL q l)
def fvalL (q : List Int) : List FormM → List Int
  | [] => []
  | x :: l => fval q x :: fvalL q l
end
def isB (v : Int) : Prop := v = 0 ∨ v = 1
mutual
def fok (q : List Int) : FormM → Prop
  | .mk o n l => if o = 1 then inR n else if o = 6 then (0 ≤ n ∧ n < q.length ∧ inR (iAt q n.toNat)) else (7 ≤ o ∧ o ≤ 22 ∧ argsFitB o l.length = true ∧ (19 ≤ o → ∀ k, k < l.length → isB (iAt (fvalL q l) k)) ∧ fokL q l)
def fokL (q : List Int) : List FormM → Prop
  | [] => True
  | x :: l => fok q x ∧ fokL q l
end
theorem fvalL_len (q : List Int) : ∀ l, (fvalL q l).length = l.length
  | [] => rfl
  | x :: l => by rw [fvalL, List.length_cons, List.length_cons, fvalL_len q l]
theorem fvalL_at (q : List Int) : ∀ (l : List FormM) (k : Nat), k < l.length → iAt (fvalL q l) k = fval q (gAt l k)
  | [], k, h => by simp at h
  | x :: l, 0, h => rfl
  | x :: l, k + 1, h => by
    rw [fvalL]
    exact fvalL_at q l k (by simpa using h)
theorem fokL_at {q : List Int} : ∀ {l : List FormM}, fokL q l → ∀ k, k < l.length → fok q (gAt l k)
  | [], _, k, h => by simp at h
  | x :: l, hl, 0, h => by rw [fokL] at hl; exact hl.1
  | x :: l, hl, k + 1, h => by rw [fokL] at hl; exact fokL_at hl.2 k (by simpa using h)
theorem minF_in : ∀ (l : List Int) (a : Int), inR a → (∀ k, k < l.length → inR (iAt l k)) → inR (minF a l)
  | [], a, h, _ => h
  | x :: l, a, h, hl => minF_in l (min a x) (by have := hl 0 (by simp); simp only [iAt, List.getD_cons_zero] at this; unfold inR at *; omega) (fun k hk => hl (k + 1) (by simpa using hk))
theorem maxF_in : ∀ (l : List Int) (a : Int), inR a → (∀ k, k < l.length → inR (iAt l k)) → inR (maxF a l)
  | [], a, h, _ => h
  | x :: l, a, h, hl => maxF_in l (max a x) (by have := hl 0 (by simp); simp only [iAt, List.getD_cons_zero] at this; unfold inR at *; omega) (fun k hk => hl (k + 1) (by simpa using hk))
theorem flagI_in (b : Bool) : inR (flagI b) := by cases b <;> (unfold inR; decide)
theorem iAt_drop1 (v : List Int) (k : Nat) : iAt (v.drop 1) k = iAt v (k + 1) := by
  cases v with
  | nil => simp [iAt]
  | cons x v => rfl
/-- the number of arguments of an operator -/
theorem fit_one {o : Int} {n : Nat} (h : argsFitB o n = true) (ho : 7 ≤ o) : 1 ≤ n := by
  have e : ∀ k : Int, k ≤ 6 → (o == k) = false := fun k hk => by simp; omega
  simp only [argsFitB, e 1 (by omega), e 2 (by omega), e 3 (by omega), e 4 (by omega), e 5 (by omega), e 6 (by omega), Bool.false_eq_true, if_false] at h
  (repeat' split at h) <;> simp at h <;> omega
theorem op2V_in {o a b : Int} (ha : inR a) (hb : inR b) : inR (op2V o a b) := by
  unfold op2V
  (repeat' split) <;> first | exact clampI_in _ | exact divV_in ha | exact flagI_in _ | exact hb | (unfold inR; omega)
theorem opV_in {o : Int} {v : List Int} (h7 : 7 ≤ o) (h22 : o ≤ 22) (hf : argsFitB o v.length = true) (hb : 19 ≤ o → ∀ k, k < v.length → isB (iAt v k)) (hv : ∀ k, k < v.length → inR (iAt v k)) : inR (opV o v) := by
  have h1 := fit_one hf h7
  have v0 := hv 0 (by omega)
  have vi : ∀ k, inR (iAt v k) := fun k => by
    by_cases hk : k < v.length
    · exact hv k hk
    · have : iAt v k = 0 := by simp [iAt, List.getD_eq_getElem?_getD, List.getElem?_eq_none (Nat.le_of_not_lt hk)]
      rw [this]; unfold inR; omega
  unfold opV
  by_cases o7 : o = 7
  · rw [if_pos o7]; exact clampI_in _
  rw [if_neg o7]
  by_cases o12 : o = 12
  · rw [if_pos o12]; exact minF_in _ _ v0 (fun k hk => by rw [iAt_drop1]; exact vi _)
  rw [if_neg o12]
  by_cases o13 : o = 13
  · rw [if_pos o13]; exact maxF_in _ _ v0 (fun k hk => by rw [iAt_drop1]; exact vi _)
  rw [if_neg o13]
  by_cases o14 : o = 14
  · rw [if_pos o14]; split <;> exact vi _
  rw [if_neg o14]
  by_cases o15 : o = 15
  · rw [if_pos o15]; exact flagI_in _
  rw [if_neg o15]
  by_cases o19 : o = 19
  · rw [if_pos o19]
    rcases hb (by omega) 0 (by omega) with h | h <;> rw [h] <;> unfold inR <;> omega
  rw [if_neg o19]
  exact op2V_in (vi 0) (vi 1)
mutual
theorem fval_in {q : List Int} : ∀ (f : FormM), fok q f → inR (fval q f)
  | .mk o n l, h => by
    rw [fok] at h
    rw [fval]
    by_cases o1 : o = 1
    · rw [if_pos o1] at h ⊢; exact h
    rw [if_neg o1] at h ⊢
    by_cases o6 : o = 6
    · rw [if_pos o6] at h ⊢; exact h.2.2
    rw [if_neg o6] at h ⊢
    obtain ⟨h7, h22, hf, hb, hl⟩ := h
    exact opV_in h7 h22 (by rw [fvalL_len]; exact hf) (fun h k hk => hb h k (by rwa [fvalL_len] at hk)) (fvalL_in l hl)
theorem fvalL_in {q : List Int} : ∀ (l : List FormM), fokL q l → ∀ k, k < (fvalL q l).length → inR (iAt (fvalL q l) k)
  | [], _ => fun k hk => by simp [fvalL] at hk
  | x :: l, h => fun k hk => by
    rw [fokL] at h
    rw [fvalL] at hk ⊢
    cases k with
    | zero => exact fval_in x h.1
    | succ k => exact fvalL_in l h.2 k (by simpa using hk)
end

/-- formulas one behind the other, in blocks that are not in X -/
inductive FormsAt (X : Nat → Prop) (w : World) : Nat → Nat → List FormM → Prop
  | nil (b off : Nat) : FormsAt X w b off []
  | cons {b off b' off' : Nat} {f : FormM} {l : List FormM} {a : Option Addr} {cap : Nat} (hb : b < w.heap.size) (hX : ¬ X b)
      (h0 : w.cell? ⟨b, off, none⟩ = some (.int .i64 f.op)) (h1 : w.cell? ⟨b, off + 1, none⟩ = some (.int .i64 f.num)) (h2 : w.cell? ⟨b, off + 2, none⟩ = some (.slice a f.args.length cap))
      (hl : f.args.length ≤ 140737488355328) (ha : f.args ≠ [] → a = some ⟨b', off', none⟩) (hx : FormsAt X w b' off' f.args) (ht : FormsAt X w b (off + 3) l) : FormsAt X w b off (f :: l)
def FArgsAt (X : Nat → Prop) (w : World) (a : Option Addr) (l : List FormM) : Prop := ∃ b off, (l ≠ [] → a = some ⟨b, off, none⟩) ∧ FormsAt X w b off l
theorem FormsAt.step {X X' : Nat → Prop} {w w' : World} {b off : Nat} {l : List FormM} (h : FormsAt X w b off l) (hs : w.heap.size ≤ w'.heap.size) (hw : ∀ b, b < w.heap.size → ¬ X b → w'.heap[b]? = w.heap[b]?) (hX : ∀ b, b < w.heap.size → X' b → X b) : FormsAt X' w' b off l := by
  induction h with
  | nil b off => exact .nil b off
  | @cons b off b' off' f l a cap hb hXb h0 h1 h2 hl ha hx ht ih1 ih2 =>
    have e := hw b hb hXb
    have c : ∀ j, w'.cell? ⟨b, j, none⟩ = w.cell? ⟨b, j, none⟩ := fun j => by simp only [World.cell?, e]
    exact .cons (Nat.lt_of_lt_of_le hb hs) (fun h => hXb (hX b hb h)) ((c _).trans h0) ((c _).trans h1) ((c _).trans h2) hl ha ih1 ih2
theorem FormsAt.kept {X : Nat → Prop} {w w' : World} {b off : Nat} {l : List FormM} (h : FormsAt X w b off l) (hb : Below w.heap.size w w') : FormsAt X w' b off l := h.step hb.size (fun b hlt _ => hb.block b hlt) (fun _ _ h => h)
theorem FArgsAt.step {X X' : Nat → Prop} {w w' : World} {a : Option Addr} {l : List FormM} (h : FArgsAt X w a l) (hs : w.heap.size ≤ w'.heap.size) (hw : ∀ b, b < w.heap.size → ¬ X b → w'.heap[b]? = w.heap[b]?) (hX : ∀ b, b < w.heap.size → X' b → X b) : FArgsAt X' w' a l := by
  obtain ⟨b, off, h1, h2⟩ := h
  exact ⟨b, off, h1, h2.step hs hw hX⟩
theorem FArgsAt.below {X : Nat → Prop} {w w' : World} {a : Option Addr} {l : List FormM} (h : FArgsAt X w a l) (hb : Below w.heap.size w w') : FArgsAt X w' a l := by
  obtain ⟨b, off, h1, h2⟩ := h
  exact ⟨b, off, h1, h2.kept hb⟩
theorem FormsAt.at {X : Nat → Prop} {w : World} {b off : Nat} {l : List FormM} (h : FormsAt X w b off l) (k : Nat) (hk : k < l.length) : FormsAt X w b (off + k * 3) [gAt l k] := by
  induction h generalizing k with
  | nil b off => simp at hk
  | @cons b off b' off' f l a cap hb hXb h0 h1 h2 hl ha hx ht ih1 ih2 =>
    cases k with
    | zero => rw [Nat.zero_mul, Nat.add_zero]; exact .cons hb hXb h0 h1 h2 hl ha hx (.nil _ _)
    | succ k =>
      have := ih2 k (by simpa using hk)
      have e : off + (k + 1) * 3 = off + 3 + k * 3 := by omega
      rw [e]; exact this
theorem FormsAt.one {X : Nat → Prop} {w : World} {b off : Nat} {f : FormM} (h : FormsAt X w b off [f]) : ∃ a cap, b < w.heap.size ∧ w.cell? ⟨b, off, none⟩ = some (.int .i64 f.op) ∧ w.cell? ⟨b, off + 1, none⟩ = some (.int .i64 f.num) ∧ w.cell? ⟨b, off + 2, none⟩ = some (.slice a f.args.length cap) ∧ f.args.length ≤ 140737488355328 ∧ FArgsAt X w a f.args := by
  cases h with
  | @cons _ _ b' off' _ _ a cap hb hXb h0 h1 h2 hl ha hx ht => exact ⟨a, cap, hb, h0, h1, h2, hl, b', off', ha, hx⟩
theorem FormsAt.lt {X : Nat → Prop} {w : World} {b off : Nat} {l : List FormM} (h : FormsAt X w b off l) (hl : 0 < l.length) : b < w.heap.size := by
  cases h with
  | nil => simp at hl
  | cons hb _ _ _ _ _ _ _ _ => exact hb
theorem FArgsAt.cells {X : Nat → Prop} {w : World} {a : Option Addr} {l : List FormM} (h : FArgsAt X w a l) (hl : 0 < l.length) : ∃ b off, a = some ⟨b, off, none⟩ ∧ b < w.heap.size ∧ FormsAt X w b off l := by
  obtain ⟨b, off, h1, h2⟩ := h
  exact ⟨b, off, h1 (by rintro rfl; simp at hl), h2.lt hl, h2⟩
set_option maxHeartbeats 400000 in
theorem truth_any (b : Bool) (w : World) : Calls Tryz.prog 152 #[.bool b] w fun e w' => e = .returned (.int .i64 (flagI b)) ∧ w = w' := by
  cases b
  all_goals
    go_enter Tryz.func152, Tryz.ntmps152
    go_wp2_with fail
    go_ret
    exact ⟨rfl, rfl⟩
set_option maxHeartbeats 400000 in
theorem inBandF_any (c f t : Int) (w : World) : Calls Tryz.prog 153 #[.int .i64 c, .int .i64 f, .int .i64 t] w fun e w' => e = .returned (.bool (bndB c f t)) ∧ w = w' := by
  by_cases h1 : f ≤ t <;> by_cases h2 : f ≤ c
  · have hz := Lib.hid (show bndB c f t = decide (c < t) by simp [bndB, h1, h2])
    go_enter Tryz.func153, Tryz.ntmps153
    go_wp2_with fail
    go_ret
    exact ⟨ret_boolE hz.out.symm, rfl⟩
  · have hz := Lib.hid (show bndB c f t = false by simp [bndB, h1, h2])
    go_enter Tryz.func153, Tryz.ntmps153
    go_wp2_with fail
    go_ret
    exact ⟨ret_boolE hz.out.symm, rfl⟩
  · have hz := Lib.hid (show bndB c f t = true by simp [bndB, h1, h2])
    go_enter Tryz.func153, Tryz.ntmps153
    go_wp2_with fail
    go_ret
    exact ⟨ret_boolE hz.out.symm, rfl⟩
  · have hz := Lib.hid (show bndB c f t = decide (c < t) by simp [bndB, h1, h2])
    go_enter Tryz.func153, Tryz.ntmps153
    go_wp2_with fail
    go_ret
    exact ⟨ret_boolE hz.out.symm, rfl⟩
set_option maxHeartbeats 1600000 in
theorem combine_any (o a b : Int) (w : World) (ha : inR a) (hb : inR b) (ho : 8 ≤ o ∧ o ≤ 11 ∨ 16 ≤ o ∧ o ≤ 18 ∨ 20 ≤ o ∧ o ≤ 22) (hB : 19 ≤ o → isB a ∧ isB b) : Calls Tryz.prog 155 #[.int .i64 o, .int .i64 a, .int .i64 b] w fun e w' => e = .returned (.int .i64 (op2V o a b)) ∧ w = w' := by
  have b1 := hb.1
  have b2 := hb.2
  by_cases o8 : o = 8
  · subst o8
    clear hB ho
    have hz := Lib.hid (show op2V 8 a b = clampI (a + b) by simp [op2V])
    go_enter Tryz.func155, Tryz.ntmps155
    go_wp2_with fail
    refine (add_any a b w ha hb).mono ?_
    rintro e w' ⟨rfl, rfl⟩
    go_wp2_with fail
    go_ret
    exact ⟨ret_int hz.out.symm, rfl⟩
  by_cases o9 : o = 9
  · subst o9
    clear hB ho
    have hz := Lib.hid (show op2V 9 a b = clampI (a + -b) by simp [op2V])
    go_enter Tryz.func155, Tryz.ntmps155
    go_wp2_with fail
    refine (add_any a (-b) w ha (by unfold inR at *; omega)).mono ?_
    rintro e w' ⟨rfl, rfl⟩
    go_wp2_with fail
    go_ret
    exact ⟨ret_int hz.out.symm, rfl⟩
  by_cases o10 : o = 10
  · subst o10
    clear hB ho
    have hz := Lib.hid (show op2V 10 a b = mulV a b by simp [op2V])
    go_enter Tryz.func155, Tryz.ntmps155
    go_wp2_with fail
    refine (mul_any a b w ha hb).mono ?_
    rintro e w' ⟨rfl, rfl⟩
    go_wp2_with fail
    go_ret
    exact ⟨ret_int hz.out.symm, rfl⟩
  by_cases o11 : o = 11
  · subst o11
    clear hB ho
    have hz := Lib.hid (show op2V 11 a b = divV a b by simp [op2V])
    go_enter Tryz.func155, Tryz.ntmps155
    go_wp2_with fail
    refine (div_any a b w ha hb).mono ?_
    rintro e w' ⟨rfl, rfl⟩
    go_wp2_with fail
    go_ret
    exact ⟨ret_int hz.out.symm, rfl⟩
  by_cases o16 : o = 16
  · subst o16
    clear hB ho
    have hz := Lib.hid (show op2V 16 a b = flagI (decide (a < b)) by simp [op2V])
    go_enter Tryz.func155, Tryz.ntmps155
    go_wp2_with fail
    refine (truth_any (decide (a < b)) w).mono ?_
    rintro e w' ⟨rfl, rfl⟩
    go_wp2_with fail
    go_ret
    exact ⟨ret_int hz.out.symm, rfl⟩
  by_cases o17 : o = 17
  · subst o17
    clear hB ho
    have hz := Lib.hid (show op2V 17 a b = flagI (decide (a ≤ b)) by simp [op2V])
    go_enter Tryz.func155, Tryz.ntmps155
    go_wp2_with fail
    refine (truth_any (decide (a ≤ b)) w).mono ?_
    rintro e w' ⟨rfl, rfl⟩
    go_wp2_with fail
    go_ret
    exact ⟨ret_int hz.out.symm, rfl⟩
  by_cases o18 : o = 18
  · subst o18
    clear hB ho
    have hz := Lib.hid (show op2V 18 a b = flagI (a == b) by simp [op2V])
    go_enter Tryz.func155, Tryz.ntmps155
    go_wp2_with fail
    refine (truth_any (a == b) w).mono ?_
    rintro e w' ⟨rfl, rfl⟩
    go_wp2_with fail
    go_ret
    exact ⟨ret_int hz.out.symm, rfl⟩
  have h20 : o = 20 ∨ o = 21 ∨ o = 22 := by omega
  obtain ⟨hBa, hBb⟩ := hB (by omega)
  clear hB ho ha hb b1 b2 o8 o9 o10 o11 o16 o17 o18
  rcases hBa with rfl | rfl <;> rcases hBb with rfl | rfl <;> rcases h20 with rfl | rfl | rfl
  all_goals
    go_enter Tryz.func155, Tryz.ntmps155
    go_wp2_with fail
    go_ret
    exact ⟨ret_int (by first | (simp [op2V]; done) | rfl), rfl⟩
end Go.Proofs.YtpgbckgjlgecpaaGreat
/- contract of Formula.Value -/
namespace Go.Proofs.YtpgbckgjlgecpaaGreat
open Go.RowKit Go.Sort
set_option linter.unusedVariables false
set_option linter.unusedSimpArgs false
set_option maxRecDepth 100000
def ValS (q : List Int) (aa : Option Addr) (ac : Nat) (X : Nat → Prop) (f : FormM) : Prop := ∀ (b off : Nat) (w : World), FormsAt X w b off [f] → fok q f → IntsAt w aa q → Calls Tryz.prog 114 #[.pointer (some ⟨b, off, none⟩), .slice aa q.length ac] w fun e w' => e = .returned (.int .i64 (fval q f)) ∧ Below w.heap.size w w'
theorem below_cell {w w' : World} {b o : Nat} {v : Value} (h : w.cell? ⟨b, o, none⟩ = some v) (hb : b < w.heap.size) (hw : Below w.heap.size w w') : w'.cell? ⟨b, o, none⟩ = some v := (hw.cell (p := ⟨b, o, none⟩) hb).trans h
theorem fok_args {q : List Int} {o n : Int} {l : List FormM} (h : fok q (.mk o n l)) (o1 : o ≠ 1) (o6 : o ≠ 6) : 7 ≤ o ∧ o ≤ 22 ∧ argsFitB o l.length = true ∧ (19 ≤ o → ∀ k, k < l.length → isB (iAt (fvalL q l) k)) ∧ fokL q l := by
  rw [fok, if_neg o1, if_neg o6] at h; exact h
theorem fval_op {q : List Int} {o n : Int} {l : List FormM} (o1 : o ≠ 1) (o6 : o ≠ 6) : fval q (.mk o n l) = opV o (fvalL q l) := by rw [fval, if_neg o1, if_neg o6]
set_option maxHeartbeats 1600000 in
theorem value_leaf (q : List Int) (aa : Option Addr) (ac : Nat) (X : Nat → Prop) (o n : Int) (l : List FormM) (ho : o = 1 ∨ o = 6) (hq : q.length ≤ 140737488355328) : ValS q aa ac X (.mk o n l) := by
  intro b off w hF hok hI
  obtain ⟨a, cap, hb, c0, c1, c2, hl, hA⟩ := hF.one
  simp only [FormM.op, FormM.num, FormM.args] at c0 c1 c2
  rcases ho with rfl | rfl
  · have hz := Lib.hid (show fval q (.mk 1 n l) = n by rw [fval, if_pos rfl])
    clear hF hok hI hA
    go_enter Tryz.func114, Tryz.ntmps114
    go_wp2_with fail
    go_ret
    exact ⟨ret_int hz.out.symm, Below.refl _ _⟩
  · rw [fok, if_neg (by decide), if_pos rfl] at hok
    obtain ⟨n0, n1, _⟩ := hok
    obtain ⟨m, rfl⟩ := Int.eq_ofNat_of_zero_le n0
    have hz := Lib.hid (show fval q (.mk 6 m l) = iAt q m by rw [fval, if_neg (by decide), if_pos rfl, Int.toNat_natCast])
    have hm : m < q.length := by omega
    obtain ⟨b', off', rfl, hb', hcs⟩ := hI.cells (by omega)
    have d0 := hcs m hm
    clear hF hI hA hcs n0 n1
    go_enter Tryz.func114, Tryz.ntmps114
    go_wp2_with fail
    go_ret
    exact ⟨ret_int hz.out.symm, Below.refl _ _⟩
set_option maxHeartbeats 3200000 in
theorem value_if (q : List Int) (aa : Option Addr) (ac : Nat) (X : Nat → Prop) (n : Int) (l : List FormM) (hq : q.length ≤ 140737488355328) (IH : Hid (∀ k, k < l.length → ValS q aa ac X (gAt l k))) : ValS q aa ac X (.mk 14 n l) := by
  intro b off w hF hok hI
  obtain ⟨a, cap, hb, c0, c1, c2, hl, hA⟩ := hF.one
  simp only [FormM.op, FormM.num, FormM.args] at c0 c1 c2 hl
  replace hA : FArgsAt X w a l := hA
  obtain ⟨h7, h22, hfit, hbool, hokl⟩ := fok_args hok (by decide) (by decide)
  have hlen : l.length = 3 := by simp [argsFitB] at hfit; omega
  have HI := Lib.hid hI
  obtain ⟨b', off', rfl, hb', hcs⟩ := hA.cells (by omega)
  have F0 := Lib.hid (show FormsAt X w b' off' [gAt l 0] from hcs.at 0 (by omega))
  have K0 := Lib.hid (fokL_at hokl 0 (by omega))
  have v0 := Lib.hid (fvalL_at q l 0 (by omega))
  have R0 := fval_in _ K0.out
  have F1 := Lib.hid (show FormsAt X w b' (off' + 3) [gAt l 1] from hcs.at 1 (by omega))
  have K1 := Lib.hid (fokL_at hokl 1 (by omega))
  have v1 := Lib.hid (fvalL_at q l 1 (by omega))
  have R1 := fval_in _ K1.out
  have F2 := Lib.hid (show FormsAt X w b' (off' + 6) [gAt l 2] from hcs.at 2 (by omega))
  have K2 := Lib.hid (fokL_at hokl 2 (by omega))
  have v2 := Lib.hid (fvalL_at q l 2 (by omega))
  have R2 := fval_in _ K2.out
  have Hz := Lib.hid (show fval q (.mk 14 n l) = if fval q (gAt l 0) ≠ 0 then fval q (gAt l 1) else fval q (gAt l 2) by rw [fval_op (by decide) (by decide), ← v0.out, ← v1.out, ← v2.out]; simp [opV])
  have I0 := Lib.hid (IH.out 0 (by omega))
  have I1 := Lib.hid (IH.out 1 (by omega))
  have I2 := Lib.hid (IH.out 2 (by omega))
  clear hF hok hI hA hcs hokl hfit hbool R0 R1 R2
  rw [hlen] at c2
  clear hlen hl
  go_enter Tryz.func114, Tryz.ntmps114
  go_wp2_with fail
  refine (I0.out b' off' w F0.out K0.out HI.out).mono ?_
  rintro e w1 ⟨rfl, hb1⟩
  have d2 := below_cell c2 hb hb1
  have hs1 := hb1.size
  have G1 := Lib.hid (F1.out.kept hb1)
  have G2 := Lib.hid (F2.out.kept hb1)
  have HI1 := Lib.hid (HI.out.below hb1)
  have HB1 := Lib.hid hb1
  clear hb1 c0 c1 c2
  by_cases e0 : fval q (gAt l 0) = 0
  · have hz := Lib.hid (Hz.out.trans (if_neg (by simpa using e0)))
    rw [e0]
    go_wp2_with fail
    refine (I2.out b' (off' + 6) w1 G2.out K2.out HI1.out).mono ?_
    rintro e w2 ⟨rfl, hb2⟩
    have HB2 := Lib.hid (Below.then HB1.out hb2)
    clear hb2 d2
    go_wp2_with fail
    go_ret
    exact ⟨ret_int hz.out.symm, HB2.out⟩
  · have hz := Lib.hid (Hz.out.trans (if_pos (by simpa using e0)))
    have e1 : (fval q (gAt l 0) != 0) = true := by simpa using e0
    go_wp2_with fail
    refine (I1.out b' (off' + 3) w1 G1.out K1.out HI1.out).mono ?_
    rintro e w2 ⟨rfl, hb2⟩
    have HB2 := Lib.hid (Below.then HB1.out hb2)
    clear hb2 d2
    go_wp2_with fail
    go_ret
    exact ⟨ret_int hz.out.symm, HB2.out⟩
set_option maxHeartbeats 3200000 in
theorem value_neg (q : List Int) (aa : Option Addr) (ac : Nat) (X : Nat → Prop) (n : Int) (l : List FormM) (hq : q.length ≤ 140737488355328) (IH : Hid (∀ k, k < l.length → ValS q aa ac X (gAt l k))) : ValS q aa ac X (.mk 7 n l) := by
  intro b off w hF hok hI
  obtain ⟨a, cap, hb, c0, c1, c2, hl, hA⟩ := hF.one
  simp only [FormM.op, FormM.num, FormM.args] at c0 c1 c2 hl
  replace hA : FArgsAt X w a l := hA
  obtain ⟨h7, h22, hfit, hbool, hokl⟩ := fok_args hok (by decide) (by decide)
  have hlen : l.length = 1 := by simp [argsFitB] at hfit; omega
  have HI := Lib.hid hI
  obtain ⟨b', off', rfl, hb', hcs⟩ := hA.cells (by omega)
  have F0 := Lib.hid (show FormsAt X w b' off' [gAt l 0] from hcs.at 0 (by omega))
  have K0 := Lib.hid (fokL_at hokl 0 (by omega))
  have v0 := Lib.hid (fvalL_at q l 0 (by omega))
  have R0 := fval_in _ K0.out
  have hz := Lib.hid (show fval q (.mk 7 n l) = clampI (-fval q (gAt l 0)) by rw [fval_op (by decide) (by decide), ← v0.out]; simp [opV])
  have I0 := Lib.hid (IH.out 0 (by omega))
  obtain ⟨p1, p2⟩ := R0
  clear hF hok hI hA hcs hokl hfit hbool
  rw [hlen] at c2
  clear hlen hl
  go_enter Tryz.func114, Tryz.ntmps114
  go_wp2_with fail
  refine (I0.out b' off' w F0.out K0.out HI.out).mono ?_
  rintro e w1 ⟨rfl, hb1⟩
  have HB1 := Lib.hid hb1
  clear hb1 c0 c1 c2
  go_wp2_with fail
  refine (add_any 0 (-fval q (gAt l 0)) w1 (by unfold inR; omega) (by unfold inR; omega)).mono ?_
  rintro e w2 ⟨rfl, rfl⟩
  go_wp2_with fail
  go_ret
  exact ⟨ret_int hz.out.symm, HB1.out⟩
set_option maxHeartbeats 3200000 in
theorem value_not (q : List Int) (aa : Option Addr) (ac : Nat) (X : Nat → Prop) (n : Int) (l : List FormM) (hq : q.length ≤ 140737488355328) (IH : Hid (∀ k, k < l.length → ValS q aa ac X (gAt l k))) : ValS q aa ac X (.mk 19 n l) := by
  intro b off w hF hok hI
  obtain ⟨a, cap, hb, c0, c1, c2, hl, hA⟩ := hF.one
  simp only [FormM.op, FormM.num, FormM.args] at c0 c1 c2 hl
  replace hA : FArgsAt X w a l := hA
  obtain ⟨h7, h22, hfit, hbool, hokl⟩ := fok_args hok (by decide) (by decide)
  have hlen : l.length = 1 := by simp [argsFitB] at hfit; omega
  have HI := Lib.hid hI
  obtain ⟨b', off', rfl, hb', hcs⟩ := hA.cells (by omega)
  have F0 := Lib.hid (show FormsAt X w b' off' [gAt l 0] from hcs.at 0 (by omega))
  have K0 := Lib.hid (fokL_at hokl 0 (by omega))
  have v0 := Lib.hid (fvalL_at q l 0 (by omega))
  have R0 := fval_in _ K0.out
  have hz := Lib.hid (show fval q (.mk 19 n l) = 1 - fval q (gAt l 0) by rw [fval_op (by decide) (by decide), ← v0.out]; simp [opV])
  have hB := hbool (by decide) 0 (by omega)
  rw [v0.out] at hB
  have r1 : 0 ≤ fval q (gAt l 0) := by rcases hB with h | h <;> omega
  have r2 : fval q (gAt l 0) ≤ 1 := by rcases hB with h | h <;> omega
  clear hB
  have I0 := Lib.hid (IH.out 0 (by omega))
  obtain ⟨p1, p2⟩ := R0
  clear hF hok hI hA hcs hokl hfit hbool
  rw [hlen] at c2
  clear hlen hl
  go_enter Tryz.func114, Tryz.ntmps114
  go_wp2_with fail
  refine (I0.out b' off' w F0.out K0.out HI.out).mono ?_
  rintro e w1 ⟨rfl, hb1⟩
  have HB1 := Lib.hid hb1
  clear hb1 c0 c1 c2
  go_wp2_with fail
  go_ret
  exact ⟨ret_int hz.out.symm, HB1.out⟩
set_option maxHeartbeats 3200000 in
theorem value_in (q : List Int) (aa : Option Addr) (ac : Nat) (X : Nat → Prop) (n : Int) (l : List FormM) (hq : q.length ≤ 140737488355328) (IH : Hid (∀ k, k < l.length → ValS q aa ac X (gAt l k))) : ValS q aa ac X (.mk 15 n l) := by
  intro b off w hF hok hI
  obtain ⟨a, cap, hb, c0, c1, c2, hl, hA⟩ := hF.one
  simp only [FormM.op, FormM.num, FormM.args] at c0 c1 c2 hl
  replace hA : FArgsAt X w a l := hA
  obtain ⟨h7, h22, hfit, hbool, hokl⟩ := fok_args hok (by decide) (by decide)
  have hlen : l.length = 3 := by simp [argsFitB] at hfit; omega
  have HI := Lib.hid hI
  obtain ⟨b', off', rfl, hb', hcs⟩ := hA.cells (by omega)
  have F0 := Lib.hid (show FormsAt X w b' off' [gAt l 0] from hcs.at 0 (by omega))
  have K0 := Lib.hid (fokL_at hokl 0 (by omega))
  have v0 := Lib.hid (fvalL_at q l 0 (by omega))
  have R0 := fval_in _ K0.out
  have F1 := Lib.hid (show FormsAt X w b' (off' + 3) [gAt l 1] from hcs.at 1 (by omega))
  have K1 := Lib.hid (fokL_at hokl 1 (by omega))
  have v1 := Lib.hid (fvalL_at q l 1 (by omega))
  have R1 := fval_in _ K1.out
  have F2 := Lib.hid (show FormsAt X w b' (off' + 6) [gAt l 2] from hcs.at 2 (by omega))
  have K2 := Lib.hid (fokL_at hokl 2 (by omega))
  have v2 := Lib.hid (fvalL_at q l 2 (by omega))
  have R2 := fval_in _ K2.out
  have hz := Lib.hid (show fval q (.mk 15 n l) = flagI (bndB (fval q (gAt l 0)) (fval q (gAt l 1)) (fval q (gAt l 2))) by rw [fval_op (by decide) (by decide), ← v0.out, ← v1.out, ← v2.out]; simp [opV])
  have C0 := Lib.hid (fun d os => Calls.regrown_of (IH.out 0 (by omega) b' off' (grow (redrawn w d) os) (F0.out.kept (below_regrown w d os)) K0.out (HI.out.below (below_regrown w d os))))
  have C1 := Lib.hid (fun d os => Calls.regrown_of (IH.out 1 (by omega) b' (off' + 3) (grow (redrawn w d) os) (F1.out.kept (below_regrown w d os)) K1.out (HI.out.below (below_regrown w d os))))
  have C2 := Lib.hid (fun d os => Calls.regrown_of (IH.out 2 (by omega) b' (off' + 6) (grow (redrawn w d) os) (F2.out.kept (below_regrown w d os)) K2.out (HI.out.below (below_regrown w d os))))
  have T1 := Lib.hid (fun d os => Calls.regrown_of (same_below' (inBandF_any (fval q (gAt l 0)) (fval q (gAt l 1)) (fval q (gAt l 2)) (grow (redrawn w d) os))))
  have T2 := Lib.hid (fun d os => Calls.regrown_of (same_below' (truth_any (bndB (fval q (gAt l 0)) (fval q (gAt l 1)) (fval q (gAt l 2))) (grow (redrawn w d) os))))
  clear hF hok hI hA hcs hokl hfit hbool R0 R1 R2
  rw [hlen] at c2
  clear hlen hl
  go_enter Tryz.func114, Tryz.ntmps114
  go_wp2_with fail
  have r2 := fun d os => cell_regrown c2 d os
  refine wp_region_quiet_below (by kernel_rfl) (by kernel_rfl) ?_
  repeat (first | go_big_quiet_step (first | (with_reducible exact C0.out _ _) | (with_reducible exact C1.out _ _) | (with_reducible exact C2.out _ _) | (with_reducible exact T1.out _ _) | (with_reducible exact T2.out _ _)) | quiet_step (first | (with_reducible exact C0.out _ _) | (with_reducible exact C1.out _ _) | (with_reducible exact C2.out _ _) | (with_reducible exact T1.out _ _) | (with_reducible exact T2.out _ _)))
  refine wpQuiet_nil ?_
  intro _ hw'
  obtain ⟨⟨dq, osq⟩, hw''⟩ := hw'
  subst hw''
  clear r2 C0 C1 C2 T1 T2
  go_wp2_with fail
  go_ret
  exact ⟨ret_int hz.out.symm, below_regrown w dq osq⟩
set_option maxHeartbeats 3200000 in
theorem value_two (q : List Int) (aa : Option Addr) (ac : Nat) (X : Nat → Prop) (o n : Int) (l : List FormM) (ho : 8 ≤ o ∧ o ≤ 11 ∨ 16 ≤ o ∧ o ≤ 18 ∨ 20 ≤ o ∧ o ≤ 22) (hq : q.length ≤ 140737488355328) (IH : Hid (∀ k, k < l.length → ValS q aa ac X (gAt l k))) : ValS q aa ac X (.mk o n l) := by
  intro b off w hF hok hI
  obtain ⟨a, cap, hb, c0, c1, c2, hl, hA⟩ := hF.one
  simp only [FormM.op, FormM.num, FormM.args] at c0 c1 c2 hl
  replace hA : FArgsAt X w a l := hA
  obtain ⟨h7, h22, hfit, hbool, hokl⟩ := fok_args hok (by omega) (by omega)
  have n1 : (o == 1) = false := by simp; omega
  have n6 : (o == 6) = false := by simp; omega
  have n14 : (o == 14) = false := by simp; omega
  have n12 : (o == 12) = false := by simp; omega
  have n13 : (o == 13) = false := by simp; omega
  have n15 : (o == 15) = false := by simp; omega
  have n7 : (o == 7) = false := by simp; omega
  have n19 : (o == 19) = false := by simp; omega
  have hlen : l.length = 2 := by
    obtain rfl | rfl | rfl | rfl | rfl | rfl | rfl | rfl | rfl | rfl : o = 8 ∨ o = 9 ∨ o = 10 ∨ o = 11 ∨ o = 16 ∨ o = 17 ∨ o = 18 ∨ o = 20 ∨ o = 21 ∨ o = 22 := by omega
    all_goals (simp [argsFitB] at hfit; omega)
  have HI := Lib.hid hI
  obtain ⟨b', off', rfl, hb', hcs⟩ := hA.cells (by omega)
  have F0 := Lib.hid (show FormsAt X w b' off' [gAt l 0] from hcs.at 0 (by omega))
  have K0 := Lib.hid (fokL_at hokl 0 (by omega))
  have v0 := Lib.hid (fvalL_at q l 0 (by omega))
  have R0 := fval_in _ K0.out
  have F1 := Lib.hid (show FormsAt X w b' (off' + 3) [gAt l 1] from hcs.at 1 (by omega))
  have K1 := Lib.hid (fokL_at hokl 1 (by omega))
  have v1 := Lib.hid (fvalL_at q l 1 (by omega))
  have R1 := fval_in _ K1.out
  have hz := Lib.hid (show fval q (.mk o n l) = op2V o (fval q (gAt l 0)) (fval q (gAt l 1)) by
    rw [fval_op (by omega) (by omega), ← v0.out, ← v1.out, opV, if_neg (by omega), if_neg (by omega), if_neg (by omega), if_neg (by omega), if_neg (by omega), if_neg (by omega)])
  have HBo := Lib.hid (show 19 ≤ o → isB (fval q (gAt l 0)) ∧ isB (fval q (gAt l 1)) from fun h => by
    have h0 := hbool h 0 (by omega)
    have h1 := hbool h 1 (by omega)
    rw [v0.out] at h0
    rw [v1.out] at h1
    exact ⟨h0, h1⟩)
  have C0 := Lib.hid (fun d os => Calls.regrown_of (IH.out 0 (by omega) b' off' (grow (redrawn w d) os) (F0.out.kept (below_regrown w d os)) K0.out (HI.out.below (below_regrown w d os))))
  have C1 := Lib.hid (fun d os => Calls.regrown_of (IH.out 1 (by omega) b' (off' + 3) (grow (redrawn w d) os) (F1.out.kept (below_regrown w d os)) K1.out (HI.out.below (below_regrown w d os))))
  have T1 := Lib.hid (fun d os => Calls.regrown_of (same_below' (combine_any o (fval q (gAt l 0)) (fval q (gAt l 1)) (grow (redrawn w d) os) R0 R1 ho HBo.out)))
  clear hF hok hI hA hcs hokl hfit hbool R0 R1 ho h7 h22
  rw [hlen] at c2
  clear hlen hl
  go_enter Tryz.func114, Tryz.ntmps114
  go_wp2_with fail
  have r0 := fun d os => cell_regrown c0 d os
  have r2 := fun d os => cell_regrown c2 d os
  refine wp_region_quiet_below (by kernel_rfl) (by kernel_rfl) ?_
  repeat (first | go_big_quiet_step (first | (with_reducible exact C0.out _ _) | (with_reducible exact C1.out _ _) | (with_reducible exact T1.out _ _)) | quiet_step (first | (with_reducible exact C0.out _ _) | (with_reducible exact C1.out _ _) | (with_reducible exact T1.out _ _)))
  refine wpQuiet_nil ?_
  intro _ hw'
  obtain ⟨⟨dq, osq⟩, hw''⟩ := hw'
  subst hw''
  clear r0 r2 C0 C1 T1
  go_wp2_with fail
  go_ret
  exact ⟨ret_int hz.out.symm, below_regrown w dq osq⟩
set_option maxHeartbeats 3200000 in
theorem value_min (q : List Int) (aa : Option Addr) (ac : Nat) (X : Nat → Prop) (n : Int) (l : List FormM) (hq : q.length ≤ 140737488355328) (IH : Hid (∀ k, k < l.length → ValS q aa ac X (gAt l k))) : ValS q aa ac X (.mk 12 n l) := by
  intro b off w hF hok hI
  obtain ⟨a, cap, hb, c0, c1, c2, hl, hA⟩ := hF.one
  simp only [FormM.op, FormM.num, FormM.args] at c0 c1 c2 hl
  replace hA : FArgsAt X w a l := hA
  obtain ⟨h7, h22, hfit, hbool, hokl⟩ := fok_args hok (by decide) (by decide)
  have hlen : 2 ≤ l.length := by simp [argsFitB] at hfit; omega
  have HI := Lib.hid hI
  obtain ⟨b', off', rfl, hb', hcs⟩ := hA.cells (by omega)
  have HS := Lib.hid hcs
  have HK := Lib.hid hokl
  have F0 := Lib.hid (show FormsAt X w b' off' [gAt l 0] from hcs.at 0 (by omega))
  have K0 := Lib.hid (fokL_at hokl 0 (by omega))
  have v0 := Lib.hid (fvalL_at q l 0 (by omega))
  have Hz := Lib.hid (show fval q (.mk 12 n l) = minF (fval q (gAt l 0)) ((fvalL q l).drop 1) by rw [fval_op (by decide) (by decide), ← v0.out]; simp [opV])
  have I0 := Lib.hid (IH.out 0 (by omega))
  clear hF hok hI hA hcs hokl hfit hbool
  go_enter Tryz.func114, Tryz.ntmps114
  go_wp2_with fail
  refine (I0.out b' off' w F0.out K0.out HI.out).mono ?_
  rintro e w1 ⟨rfl, hb1⟩
  have HB1 := Lib.hid hb1
  clear hb1
  go_wp2_with fail
  go_loopw [5, 6] (fun nn i wr => ∃ (k : Nat) (acc : Int), 1 ≤ k ∧ k ≤ l.length ∧ i = .int .i64 k ∧ nn = .int .i64 acc ∧ Hid (minF (fval q (gAt l 0)) ((fvalL q l).drop 1) = minF acc ((fvalL q l).drop k)) ∧ Hid (Below w.heap.size w wr)) (fun _ i _ => l.length - (intOf i).toNat)
  case atStart => exact ⟨1, _, by omega, by omega, rfl, rfl, Lib.hid rfl, HB1⟩
  clear HB1 w1
  case round =>
    obtain ⟨k, acc, hk1, hk, rfl, rfl, hval, hbel⟩ := hrel
    have d0 := below_cell c0 hb hbel.out
    have d2 := below_cell c2 hb hbel.out
    have hs1 := hbel.out.size
    by_cases hlt : k < l.length
    · have Fk := Lib.hid ((HS.out.at k hlt).kept hbel.out)
      have Kk := Lib.hid (fokL_at HK.out k hlt)
      have Ik := Lib.hid (IH.out k hlt)
      have hst := Lib.hid (hval.out.trans (by
        rw [i_drop (fvalL q l) k (by rw [fvalL_len]; exact hlt), minF, fvalL_at q l k hlt]))
      go_wp2_with fail
      refine (Ik.out b' (off' + k * 3) wr Fk.out Kk.out (HI.out.below hbel.out)).mono ?_
      rintro e w2 ⟨rfl, hb2⟩
      have g0 := below_cell d0 (Nat.lt_of_lt_of_le hb hs1) hb2
      have hs2 := hb2.size
      have HB2 := Lib.hid (Below.then hbel.out hb2)
      clear hb2 d0 d2 Fk Kk Ik hval
      go_wp2_with fail
      go_roundw
      case rel => exact ⟨k + 1, min acc (fval q (gAt l k)), by omega, by omega, by go_num, by (congr 1; first | (split <;> omega) | omega), hst, HB2⟩
      case measure => simp [intOf]; omega
    · obtain rfl : k = l.length := by omega
      have hr := Lib.hid (show fval q (.mk 12 n l) = acc from Hz.out.trans (hval.out.trans (by rw [List.drop_of_length_le (by rw [fvalL_len]; exact Nat.le_refl _), minF])))
      go_wp2_with fail
      go_ret
      exact ⟨ret_int hr.out.symm, hbel.out⟩
set_option maxHeartbeats 3200000 in
theorem value_max (q : List Int) (aa : Option Addr) (ac : Nat) (X : Nat → Prop) (n : Int) (l : List FormM) (hq : q.length ≤ 140737488355328) (IH : Hid (∀ k, k < l.length → ValS q aa ac X (gAt l k))) : ValS q aa ac X (.mk 13 n l) := by
  intro b off w hF hok hI
  obtain ⟨a, cap, hb, c0, c1, c2, hl, hA⟩ := hF.one
  simp only [FormM.op, FormM.num, FormM.args] at c0 c1 c2 hl
  replace hA : FArgsAt X w a l := hA
  obtain ⟨h7, h22, hfit, hbool, hokl⟩ := fok_args hok (by decide) (by decide)
  have hlen : 2 ≤ l.length := by simp [argsFitB] at hfit; omega
  have HI := Lib.hid hI
  obtain ⟨b', off', rfl, hb', hcs⟩ := hA.cells (by omega)
  have HS := Lib.hid hcs
  have HK := Lib.hid hokl
  have F0 := Lib.hid (show FormsAt X w b' off' [gAt l 0] from hcs.at 0 (by omega))
  have K0 := Lib.hid (fokL_at hokl 0 (by omega))
  have v0 := Lib.hid (fvalL_at q l 0 (by omega))
  have Hz := Lib.hid (show fval q (.mk 13 n l) = maxF (fval q (gAt l 0)) ((fvalL q l).drop 1) by rw [fval_op (by decide) (by decide), ← v0.out]; simp [opV])
  have I0 := Lib.hid (IH.out 0 (by omega))
  clear hF hok hI hA hcs hokl hfit hbool
  go_enter Tryz.func114, Tryz.ntmps114
  go_wp2_with fail
  refine (I0.out b' off' w F0.out K0.out HI.out).mono ?_
  rintro e w1 ⟨rfl, hb1⟩
  have HB1 := Lib.hid hb1
  clear hb1
  go_wp2_with fail
  go_loopw [5, 6] (fun nn i wr => ∃ (k : Nat) (acc : Int), 1 ≤ k ∧ k ≤ l.length ∧ i = .int .i64 k ∧ nn = .int .i64 acc ∧ Hid (maxF (fval q (gAt l 0)) ((fvalL q l).drop 1) = maxF acc ((fvalL q l).drop k)) ∧ Hid (Below w.heap.size w wr)) (fun _ i _ => l.length - (intOf i).toNat)
  case atStart => exact ⟨1, _, by omega, by omega, rfl, rfl, Lib.hid rfl, HB1⟩
  clear HB1 w1
  case round =>
    obtain ⟨k, acc, hk1, hk, rfl, rfl, hval, hbel⟩ := hrel
    have d0 := below_cell c0 hb hbel.out
    have d2 := below_cell c2 hb hbel.out
    have hs1 := hbel.out.size
    by_cases hlt : k < l.length
    · have Fk := Lib.hid ((HS.out.at k hlt).kept hbel.out)
      have Kk := Lib.hid (fokL_at HK.out k hlt)
      have Ik := Lib.hid (IH.out k hlt)
      have hst := Lib.hid (hval.out.trans (by
        rw [i_drop (fvalL q l) k (by rw [fvalL_len]; exact hlt), maxF, fvalL_at q l k hlt]))
      go_wp2_with fail
      refine (Ik.out b' (off' + k * 3) wr Fk.out Kk.out (HI.out.below hbel.out)).mono ?_
      rintro e w2 ⟨rfl, hb2⟩
      have g0 := below_cell d0 (Nat.lt_of_lt_of_le hb hs1) hb2
      have hs2 := hb2.size
      have HB2 := Lib.hid (Below.then hbel.out hb2)
      clear hb2 d0 d2 Fk Kk Ik hval
      go_wp2_with fail
      go_roundw
      case rel => exact ⟨k + 1, max acc (fval q (gAt l k)), by omega, by omega, by go_num, by (congr 1; first | (split <;> omega) | omega), hst, HB2⟩
      case measure => simp [intOf]; omega
    · obtain rfl : k = l.length := by omega
      have hr := Lib.hid (show fval q (.mk 13 n l) = acc from Hz.out.trans (hval.out.trans (by rw [List.drop_of_length_le (by rw [fvalL_len]; exact Nat.le_refl _), maxF])))
      go_wp2_with fail
      go_ret
      exact ⟨ret_int hr.out.symm, hbel.out⟩
theorem value_any (q : List Int) (aa : Option Addr) (ac : Nat) (X : Nat → Prop) (hq : q.length ≤ 140737488355328) (f : FormM) : ValS q aa ac X f := by
  obtain ⟨m, hm⟩ : ∃ m, m = SizeOf.sizeOf f := ⟨_, rfl⟩
  induction m using Nat.strongRecOn generalizing f with
  | _ m ih =>
    subst hm
    obtain ⟨o, n, l⟩ := f
    have IH : ∀ k, k < l.length → ValS q aa ac X (gAt l k) := fun k hk => ih _ (size_garg hk) _ rfl
    by_cases o1 : o = 1 ∨ o = 6
    · exact value_leaf q aa ac X o n l o1 hq
    by_cases o14 : o = 14
    · subst o14; exact value_if q aa ac X n l hq IH
    by_cases o7 : o = 7
    · subst o7; exact value_neg q aa ac X n l hq IH
    by_cases o19 : o = 19
    · subst o19; exact value_not q aa ac X n l hq IH
    by_cases o15 : o = 15
    · subst o15; exact value_in q aa ac X n l hq IH
    by_cases o12 : o = 12
    · subst o12; exact value_min q aa ac X n l hq IH
    by_cases o13 : o = 13
    · subst o13; exact value_max q aa ac X n l hq IH
    · intro b off w hF hok hI
      have h := fok_args hok (by omega) (by omega)
      exact value_two q aa ac X o n l (by omega) hq IH b off w hF hok hI
end Go.Proofs.YtpgbckgjlgecpaaGreat
/- the names of attributes: types.Attributes -/
namespace Go.Proofs.YtpgbckgjlgecpaaGreat
open Go.RowKit Go.Sort
set_option linter.unusedVariables false
set_option linter.unusedSimpArgs false
set_option maxRecDepth 100000
def dutyNames : List ByteArray := [⟨#[108, 101, 103, 115]⟩, ⟨#[104, 101, 97, 100, 115]⟩, ⟨#[116, 121, 112, 101, 115]⟩, ⟨#[98, 108, 111, 99, 107]⟩, ⟨#[115, 112, 97, 110]⟩, ⟨#[110, 105, 103, 104, 116]⟩, ⟨#[108, 111, 110, 103, 101, 115, 116]⟩, ⟨#[115, 104, 111, 114, 116, 101, 115, 116]⟩, ⟨#[115, 104, 105, 102, 116]⟩, ⟨#[115, 116, 97, 114, 116]⟩, ⟨#[101, 110, 100]⟩]
def restNames : List ByteArray := [⟨#[114, 101, 115, 116]⟩, ⟨#[110, 105, 103, 104, 116, 115]⟩, ⟨#[104, 111, 109, 101]⟩] ++ dutyNames.map (fun s => ⟨#[98, 101, 102, 111, 114, 101, 46]⟩ ++ s) ++ dutyNames.map (fun s => ⟨#[97, 102, 116, 101, 114, 46]⟩ ++ s)
def pairNames : List ByteArray := [⟨#[100, 117, 116, 105, 101, 115]⟩, ⟨#[108, 101, 103, 115]⟩, ⟨#[104, 101, 97, 100, 115]⟩, ⟨#[100, 97, 121, 115]⟩, ⟨#[98, 108, 111, 99, 107]⟩, ⟨#[115, 112, 97, 110]⟩, ⟨#[99, 114, 101, 100, 105, 116]⟩]
def attrNames (k : Int) : List ByteArray := if k = 1 then dutyNames else if k = 2 then restNames else if k = 3 then pairNames else []
def sAt (l : List ByteArray) (k : Nat) : ByteArray := l.getD k ByteArray.empty
/-- the cells of words -/
def StrCells (w : World) (b off : Nat) (l : List ByteArray) : Prop := ∀ i, i < l.length → w.cell? ⟨b, off + i, none⟩ = some (.string (sAt l i))
theorem StrCells.below {w w' : World} {b off : Nat} {l : List ByteArray} (h : StrCells w b off l) (hb : b < w.heap.size) (hw : Below w.heap.size w w') : StrCells w' b off l :=
  fun i hi => (hw.cell (p := ⟨b, off + i, none⟩) hb).trans (h i hi)
theorem StrCells.new (w : World) (l : List ByteArray) (e : TypeId) : StrCells (w.alloc (.cells (l.map Value.string).toArray e)) w.heap.size 0 l := by
  intro i hi
  rw [World.cell?_alloc_at _ _ _ _ rfl]
  simp [sAt, hi]
set_option maxHeartbeats 400000 in
theorem attributes_duty (w : World) : Calls Tryz.prog 108 #[.int .i64 1] w fun e w' => (∃ cap, e = .returned (.slice (some ⟨w.heap.size, 0, none⟩) 11 cap)) ∧ w.heap.size < w'.heap.size ∧ StrCells w' w.heap.size 0 dutyNames ∧ Below w.heap.size w w' := by
  go_enter Tryz.func108, Tryz.ntmps108
  go_wp2_with fail
  go_ret
  exact ⟨⟨_, rfl⟩, by simp, StrCells.new w dutyNames _, below_new _ _⟩
set_option maxHeartbeats 400000 in
theorem attributes_pair (w : World) : Calls Tryz.prog 108 #[.int .i64 3] w fun e w' => (∃ cap, e = .returned (.slice (some ⟨w.heap.size, 0, none⟩) 7 cap)) ∧ w.heap.size < w'.heap.size ∧ StrCells w' w.heap.size 0 pairNames ∧ Below w.heap.size w w' := by
  go_enter Tryz.func108, Tryz.ntmps108
  go_wp2_with fail
  go_ret
  exact ⟨⟨_, rfl⟩, by simp, StrCells.new w pairNames _, below_new _ _⟩
set_option maxHeartbeats 400000 in
theorem attributes_none (w : World) : Calls Tryz.prog 108 #[.int .i64 0] w fun e w' => e = .returned (.slice none 0 0) ∧ w = w' := by
  go_enter Tryz.func108, Tryz.ntmps108
  go_wp2_with fail
  go_ret
  exact ⟨rfl, rfl⟩
end Go.Proofs.YtpgbckgjlgecpaaGreat
