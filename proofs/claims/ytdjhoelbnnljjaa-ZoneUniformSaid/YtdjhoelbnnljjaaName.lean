/- contracts of IsName -/
import Derived.Test.YtdjhoelbnnljjaaLeaf
namespace Go.Proofs.Ytdjhoelbnnljjaa
open Go.RowKit
set_option linter.unusedSimpArgs false
set_option linter.unusedVariables false

theorem getD_byte (s : ByteArray) (k : Nat) (h : k < s.size) : s.data.toList.getD k 0 = s[k] := by
  have h' : k < s.data.toList.length := by simpa using h
  rw [List.getD_eq_getElem?_getD, List.getElem?_eq_getElem h']; rfl
/-- the bytes before k may stand in a name -/
def NameUpto (s : ByteArray) (k : Nat) : Prop := ∀ j, j < k → nameAt j ((s.data.toList.getD j 0).toNat : Int) = true
theorem NameUpto.step {s : ByteArray} {k : Nat} (h : k < s.size) (H : NameUpto s k) (hk : nameAt k (s[k].toNat : Int) = true) : NameUpto s (k + 1) := by
  intro j hj
  by_cases e : j = k
  · subst e; rw [getD_byte s j h]; exact hk
  · exact H j (by omega)
theorem NameUpto.done {s : ByteArray} (h1 : 1 ≤ s.size) (h2 : s.size ≤ 16) (H : NameUpto s s.size) : nameB s.data.toList = true := by
  have h' : s.data.toList.length = s.size := by simp
  unfold nameB
  rw [nameAll_true s.data.toList 0 (fun k hk => by
    have := H k (by omega)
    rw [List.getD_eq_getElem?_getD, List.getElem?_eq_getElem hk] at this
    simpa using this)]
  simp; omega
theorem NameUpto.bad {s : ByteArray} {k : Nat} (h : k < s.size) (hk : nameAt k (s[k].toNat : Int) = false) : nameB s.data.toList = false := by
  have h' : s.data.toList.length = s.size := by simp
  unfold nameB
  rw [nameAll_false s.data.toList 0 k (by omega) (by rw [Nat.zero_add]; exact hk)]
  simp
theorem nameAt_yes {k : Nat} {c : Int} (h : 0 < k ∨ lowB c = true) (h' : lowB c = true ∨ numB c = true ∨ (c != 95) = false) : nameAt k c = true := by
  simp only [nameAt, Bool.or_eq_true, Bool.and_eq_true, decide_eq_true_eq, beq_iff_eq]
  simp only [bne_eq_false_iff_eq] at h'
  rcases h with h | h
  · rcases h' with h' | h' | h'
    · exact .inl h'
    · exact .inr ⟨h, .inl h'⟩
    · exact .inr ⟨h, .inr h'⟩
  · exact .inl h
theorem nameAt_no {k : Nat} {c : Int} (h1 : ¬ lowB c = true) (h2 : ¬ numB c = true) (h3 : (c != 95) = true) : nameAt k c = false := by
  simp at h1 h2 h3
  simp [nameAt, h1, h2, h3]
theorem NameUpto.len {s : ByteArray} (h : s.size < 1 ∨ 16 < s.size) : nameB s.data.toList = false := by
  have h' : s.data.toList.length = s.size := by simp
  unfold nameB
  simp; omega

set_option maxHeartbeats 400000 in
theorem isName_any (s : ByteArray) (w : World) (hs : s.size ≤ maxLen) :
    Calls Try.prog 31 #[.string s] w fun e w' => e = .returned (.bool (nameB s.data.toList)) ∧ w = w' := by
  unfold maxLen at hs
  by_cases h1 : s.size < 1 ∨ 16 < s.size
  · have hf := Lib.hid (NameUpto.len h1)
    rcases h1 with h1 | h1
    all_goals
      go_enter Try.func31, Try.ntmps31
      go_wp2
      go_ret
      exact ⟨ret_bool (by rw [hf.out]), rfl⟩
  · go_enter Try.func31, Try.ntmps31
    go_wp2
    go_loop [15] (fun i => ∃ k : Nat, k ≤ s.size ∧ i = .int .i64 k ∧ NameUpto s k) (fun i => s.size - (intOf i).toNat)
    case atStart => exact ⟨0, Nat.zero_le _, rfl, fun j h => absurd h (Nat.not_lt_zero _)⟩
    case round =>
      obtain ⟨k, hk, rfl, hall⟩ := hrel
      by_cases hlt : k < s.size
      · go_wp2
        all_goals first
          | (go_ret
             refine ⟨ret_bool (by rw [NameUpto.bad hlt (by simp only [nameAt, lowB, numB, Bool.or_eq_false_iff, Bool.and_eq_false_iff, decide_eq_false_iff_not, beq_eq_false_iff_ne] at *; omega)]), rfl⟩)
          | (go_round
             case rel => exact ⟨k + 1, by omega, by go_num, NameUpto.step hlt hall (by simp only [nameAt, lowB, numB, Bool.or_eq_true, Bool.and_eq_true, decide_eq_true_eq, beq_iff_eq] at *; omega)⟩
             case measure => simp [intOf]; omega)
      · obtain rfl : k = s.size := by omega
        have hf := Lib.hid (NameUpto.done (by omega) (by omega) hall)
        go_wp2
        go_ret
        exact ⟨ret_bool (by rw [hf.out]), rfl⟩

set_option maxHeartbeats 400000 in
theorem isNameR_any (s : ByteArray) (w : World) (hs : s.size ≤ maxLen) :
    Calls Try.prog 34 #[.string s] w fun e w' => e = .returned (.bool (nameB s.data.toList)) ∧ w = w' := by
  unfold maxLen at hs
  by_cases h1 : s.size < 1 ∨ 16 < s.size
  · have hf := Lib.hid (NameUpto.len h1)
    rcases h1 with h1 | h1
    all_goals
      go_enter Try.func34, Try.ntmps34
      go_wp2
      go_ret
      exact ⟨ret_bool (by rw [hf.out]), rfl⟩
  · have h0 : 0 < s.size := by omega
    cases hl : lowB (s[0].toNat : Int)
    · have hf := Lib.hid (NameUpto.bad h0 (by simp only [nameAt, hl]; simp))
      go_enter Try.func34, Try.ntmps34
      go_wp2_with (first | (go_at_call 48; refine (lower_any _ _).mono ?_; rintro e w' ⟨rfl, rfl⟩))
      go_ret
      exact ⟨ret_bool (by rw [hf.out]), rfl⟩
    · have hl' := Lib.hid hl
      go_enter Try.func34, Try.ntmps34
      go_wp2_with (first | (go_at_call 48; refine (lower_any _ _).mono ?_; rintro e w' ⟨rfl, rfl⟩))
      clear hl
      go_loop [3] (fun i => ∃ k : Nat, k ≤ s.size ∧ i = .int .i64 k ∧ NameUpto s k) (fun i => s.size - (intOf i).toNat)
      case atStart => exact ⟨0, Nat.zero_le _, rfl, fun j h => absurd h (Nat.not_lt_zero _)⟩
      case round =>
        obtain ⟨k, hk, rfl, hall⟩ := hrel
        by_cases hlt : k < s.size
        · have h0k := Lib.hid (show 0 < k ∨ lowB (s[k].toNat : Int) = true from by
            by_cases e : k = 0
            · subst e; exact .inr hl'.out
            · exact .inl (by omega))
          go_wp2_with (first | (go_at_call 48; refine (lower_any _ _).mono ?_; rintro e w' ⟨rfl, rfl⟩) | (go_at_call 49; refine (number_any _ _).mono ?_; rintro e w' ⟨rfl, rfl⟩))
          all_goals first
            | (go_ret
               exact ⟨ret_bool (by rw [NameUpto.bad hlt (nameAt_no (by assumption) (by assumption) (by assumption))]), rfl⟩)
            | (go_round
               case rel => exact ⟨k + 1, by omega, by go_num, NameUpto.step hlt hall (nameAt_yes h0k.out (by first | exact .inl (by assumption) | exact .inr (.inl (by assumption)) | exact .inr (.inr (by assumption))))⟩
               case measure => simp [intOf]; omega)
        · obtain rfl : k = s.size := by omega
          have hf := Lib.hid (NameUpto.done (by omega) (by omega) hall)
          go_wp2
          go_ret
          exact ⟨ret_bool (by rw [hf.out]), rfl⟩
end Go.Proofs.Ytdjhoelbnnljjaa
