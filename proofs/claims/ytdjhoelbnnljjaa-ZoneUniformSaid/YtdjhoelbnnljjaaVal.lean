/- contracts of Validate -/
import Derived.Test.YtdjhoelbnnljjaaName
import Derived.WalkSmall
namespace Go.Proofs.Ytdjhoelbnnljjaa
open Go.RowKit
set_option linter.unusedSimpArgs false
set_option linter.unusedVariables false

/-- the cells of a list of shifts -/
def ShCells (w : World) (b off : Nat) (l : List (Int × Int)) : Prop :=
  ∀ i, i < l.length → w.cell? ⟨b, off + i * 2, none⟩ = some (.int .i64 (shAt l i).1) ∧ w.cell? ⟨b, off + i * 2 + 1, none⟩ = some (.int .i64 (shAt l i).2)
/-- a slice at a holds the shifts l -/
def ShAt (w : World) (a : Option Addr) (l : List (Int × Int)) : Prop := l = [] ∨ ∃ b off, a = some ⟨b, off, none⟩ ∧ b < w.heap.size ∧ ShCells w b off l
theorem ShCells.below {w w' : World} {b off : Nat} {l : List (Int × Int)} (h : ShCells w b off l) (hb : b < w.heap.size) (hw : Below w.heap.size w w') : ShCells w' b off l :=
  fun i hi => ⟨(hw.cell (p := ⟨b, off + i * 2, none⟩) hb).trans (h i hi).1, (hw.cell (p := ⟨b, off + i * 2 + 1, none⟩) hb).trans (h i hi).2⟩
theorem ShAt.below {w w' : World} {a : Option Addr} {l : List (Int × Int)} (h : ShAt w a l) (hw : Below w.heap.size w w') : ShAt w' a l := by
  rcases h with h | ⟨b, off, h, hb, hc⟩
  · exact .inl h
  · exact .inr ⟨b, off, h, Nat.lt_of_lt_of_le hb hw.size, hc.below hb hw⟩

set_option maxHeartbeats 400000 in
theorem validate_nil (s : ByteArray) (o : Int) (a : Option Addr) (cap : Nat) (w : World) (hs : s.size ≤ maxLen) :
    Calls Try.prog 12 #[.agg #[.string s, .int .i64 o, .slice a 0 cap]] w fun e w' => e = .returned (.int .i64 (valZone s.data.toList o [])) ∧ Below w.heap.size w w' := by
  cases h1 : nameB s.data.toList
  · have hf := Lib.hid (show valZone s.data.toList o [] = 1 from by simp [valZone, h1])
    go_enter Try.func12, Try.ntmps12
    go_wp2_with (first | (go_at_call 31; refine (isName_any _ _ hs).mono ?_; rintro e w' ⟨rfl, rfl⟩) | (go_at_call 32; refine (offset_any _ _).mono ?_; rintro e w' ⟨rfl, rfl⟩))
    go_ret
    exact ⟨ret_int hf.out.symm, (Below.refl _ _).alloc (Nat.le_refl _) _⟩
  cases h2 : offB o
  · have hf := Lib.hid (show valZone s.data.toList o [] = 5 from by simp [valZone, h1, h2])
    go_enter Try.func12, Try.ntmps12
    go_wp2_with (first | (go_at_call 31; refine (isName_any _ _ hs).mono ?_; rintro e w' ⟨rfl, rfl⟩) | (go_at_call 32; refine (offset_any _ _).mono ?_; rintro e w' ⟨rfl, rfl⟩))
    go_ret
    exact ⟨ret_int hf.out.symm, (Below.refl _ _).alloc (Nat.le_refl _) _⟩
  have hf := Lib.hid (show valZone s.data.toList o [] = 0 from by simp [valZone, h1, h2, valShifts])
  go_enter Try.func12, Try.ntmps12
  go_wp2_with (first | (go_at_call 31; refine (isName_any _ _ hs).mono ?_; rintro e w' ⟨rfl, rfl⟩) | (go_at_call 32; refine (offset_any _ _).mono ?_; rintro e w' ⟨rfl, rfl⟩))
  go_loop [20] (fun i => i = .int .i64 0) (fun _ => 0)
  case atStart => rfl
  case round =>
    subst hrel
    go_wp2
    go_ret
    exact ⟨ret_int hf.out.symm, (Below.refl _ _).alloc (Nat.le_refl _) _⟩

set_option maxHeartbeats 400000 in
theorem validate_walk (s : ByteArray) (o : Int) (l : List (Int × Int)) (b off cap : Nat) (w : World) (hs : s.size ≤ maxLen) (hl : l.length ≤ 1000000) (hb : b < w.heap.size) (hc : ShCells w b off l) :
    Calls Try.prog 12 #[.agg #[.string s, .int .i64 o, .slice (some ⟨b, off, none⟩) l.length cap]] w fun e w' => e = .returned (.int .i64 (valZone s.data.toList o l)) ∧ Below w.heap.size w w' := by
  cases h1 : nameB s.data.toList
  · have hf := Lib.hid (show valZone s.data.toList o l = 1 from by simp [valZone, h1])
    go_enter Try.func12, Try.ntmps12
    go_wp2_with (first | (go_at_call 31; refine (isName_any _ _ hs).mono ?_; rintro e w' ⟨rfl, rfl⟩) | (go_at_call 32; refine (offset_any _ _).mono ?_; rintro e w' ⟨rfl, rfl⟩))
    go_ret
    exact ⟨ret_int hf.out.symm, (Below.refl _ _).alloc (Nat.le_refl _) _⟩
  cases h2 : offB o
  · have hf := Lib.hid (show valZone s.data.toList o l = 5 from by simp [valZone, h1, h2])
    go_enter Try.func12, Try.ntmps12
    go_wp2_with (first | (go_at_call 31; refine (isName_any _ _ hs).mono ?_; rintro e w' ⟨rfl, rfl⟩) | (go_at_call 32; refine (offset_any _ _).mono ?_; rintro e w' ⟨rfl, rfl⟩))
    go_ret
    exact ⟨ret_int hf.out.symm, (Below.refl _ _).alloc (Nat.le_refl _) _⟩
  by_cases h3 : 16 < l.length
  · have hf := Lib.hid (show valZone s.data.toList o l = 10 from by simp [valZone, h1, h2, h3])
    go_enter Try.func12, Try.ntmps12
    go_wp2_with (first | (go_at_call 31; refine (isName_any _ _ hs).mono ?_; rintro e w' ⟨rfl, rfl⟩) | (go_at_call 32; refine (offset_any _ _).mono ?_; rintro e w' ⟨rfl, rfl⟩))
    go_ret
    exact ⟨ret_int hf.out.symm, (Below.refl _ _).alloc (Nat.le_refl _) _⟩
  go_enter Try.func12, Try.ntmps12
  go_wp2_with (first | (go_at_call 31; refine (isName_any _ _ hs).mono ?_; rintro e w' ⟨rfl, rfl⟩) | (go_at_call 32; refine (offset_any _ _).mono ?_; rintro e w' ⟨rfl, rfl⟩))
  have hv : valZone s.data.toList o l = valShifts none l := by simp [valZone, h1, h2, h3]
  have hv := Lib.hid hv
  clear h1 h2
  generalize hW : w.alloc (Obj.cells #[Value.string s, Value.int IntKind.i64 o, Value.slice (some { block := b, off := off }) l.length cap] 24) = W
  have hbW : Below w.heap.size w W := by rw [← hW]; exact (Below.refl _ _).alloc (Nat.le_refl _) _
  have hWs : w.heap.size < W.heap.size := by rw [← hW]; simp
  have hcW : W.cell? ⟨w.heap.size, 2, none⟩ = some (Value.slice (some { block := b, off := off }) l.length cap) := by clear hbW hWs; subst hW; go_simp
  clear hW
  go_loopw [20] (fun i wr => ∃ k : Nat, k ≤ l.length ∧ i = .int .i64 k ∧ ValUpto l k ∧ Below W.heap.size W wr) (fun i _ => l.length - (intOf i).toNat)
  case atStart => exact ⟨0, Nat.zero_le _, rfl, ValUpto.zero _, Below.refl _ _⟩
  case round =>
    obtain ⟨k, hk, rfl, hall, hbel⟩ := hrel
    have hc3 := (hbel.cell (p := ⟨w.heap.size, 2, none⟩) hWs).trans hcW
    have hbk := (hbW.trans (hbel.mono (Nat.le_of_lt hWs)))
    by_cases hlt : k < l.length
    · have hcell := hc k hlt
      have hc1 := (hbel.cell (p := ⟨b, off + k * 2, none⟩) (by simp; omega)).trans ((hbW.cell (p := ⟨b, off + k * 2, none⟩) hb).trans hcell.1)
      have hc2 := (hbel.cell (p := ⟨b, off + k * 2 + 1, none⟩) (by simp; omega)).trans ((hbW.cell (p := ⟨b, off + k * 2 + 1, none⟩) hb).trans hcell.2)
      clear hcell
      have hz1 : w.heap.size < wr.heap.size := Nat.lt_of_lt_of_le hWs hbel.size
      have hz2 : b < wr.heap.size := by omega
      cases i1 : insB (shAt l k).1
      · have hf := Lib.hid (hv.out.trans (hall.bad hlt (.inl i1)))
        go_wp2_with (first | (go_at_call 33; refine (instant_any _ _).mono ?_; rintro e w' ⟨rfl, rfl⟩) | (go_at_call 32; refine (offset_any _ _).mono ?_; rintro e w' ⟨rfl, rfl⟩))
        go_ret
        exact ⟨ret_int hf.out.symm, (hbk.alloc (Nat.le_trans (Nat.le_of_lt hWs) hbel.size) _)⟩
      cases i2 : offB (shAt l k).2
      · have hf := Lib.hid (hv.out.trans (hall.bad hlt (.inr i2)))
        go_wp2_with (first | (go_at_call 33; refine (instant_any _ _).mono ?_; rintro e w' ⟨rfl, rfl⟩) | (go_at_call 32; refine (offset_any _ _).mono ?_; rintro e w' ⟨rfl, rfl⟩))
        go_ret
        exact ⟨ret_int hf.out.symm, (hbk.alloc (Nat.le_trans (Nat.le_of_lt hWs) hbel.size) _)⟩
      by_cases h0 : k = 0
      · have hst := Lib.hid (hall.step hlt i1 i2 (.inl h0))
        have hd : decide (0 < k) = false := by simp; omega
        clear h0
        go_wp2_with (first | (go_at_call 33; refine (instant_any _ _).mono ?_; rintro e w' ⟨rfl, rfl⟩) | (go_at_call 32; refine (offset_any _ _).mono ?_; rintro e w' ⟨rfl, rfl⟩))
        go_quiet (fail)
        go_wp2
        go_roundw
        case rel => exact ⟨k + 1, by omega, by go_num, hst.out, below_drewN (hbel.alloc hbel.size _) _⟩
        case measure => simp [intOf]; omega
      · obtain ⟨m, rfl⟩ : ∃ m, k = m + 1 := ⟨k - 1, by omega⟩
        have hcell := hc m (by omega)
        have hc4 := (hbel.cell (p := ⟨b, off + m * 2, none⟩) (by simp; omega)).trans ((hbW.cell (p := ⟨b, off + m * 2, none⟩) hb).trans hcell.1)
        clear hcell
        by_cases ho : (shAt l (m + 1)).1 ≤ (shAt l m).1
        · have hf := Lib.hid (hv.out.trans (hall.order hlt i1 i2 (by omega) ho))
          go_wp2_with (first | (go_at_call 33; refine (instant_any _ _).mono ?_; rintro e w' ⟨rfl, rfl⟩) | (go_at_call 32; refine (offset_any _ _).mono ?_; rintro e w' ⟨rfl, rfl⟩))
          go_quiet (fail)
          go_wp2
          go_ret
          exact ⟨ret_int hf.out.symm, below_drewN (hbk.alloc (Nat.le_trans (Nat.le_of_lt hWs) hbel.size) _) _⟩
        · have hst := Lib.hid (hall.step hlt i1 i2 (.inr (Int.not_le.1 ho)))
          go_wp2_with (first | (go_at_call 33; refine (instant_any _ _).mono ?_; rintro e w' ⟨rfl, rfl⟩) | (go_at_call 32; refine (offset_any _ _).mono ?_; rintro e w' ⟨rfl, rfl⟩))
          go_quiet (fail)
          go_wp2
          go_roundw
          case rel => exact ⟨m + 1 + 1, by omega, by go_num, hst.out, below_drewN (hbel.alloc hbel.size _) _⟩
          case measure => simp [intOf]; omega
    · obtain rfl : k = l.length := by omega
      have hf := Lib.hid (hv.out.trans hall.done)
      go_wp2
      go_ret
      exact ⟨ret_int hf.out.symm, hbk⟩

theorem validate_any (s : ByteArray) (o : Int) (l : List (Int × Int)) (a : Option Addr) (cap : Nat) (w : World) (hs : s.size ≤ maxLen) (hl : l.length ≤ 1000000) (ha : ShAt w a l) :
    Calls Try.prog 12 #[.agg #[.string s, .int .i64 o, .slice a l.length cap]] w fun e w' => e = .returned (.int .i64 (valZone s.data.toList o l)) ∧ Below w.heap.size w w' := by
  rcases ha with rfl | ⟨b, off, rfl, hb, hc⟩
  · exact validate_nil s o a cap w hs
  · exact validate_walk s o l b off cap w hs hl hb hc

set_option maxHeartbeats 400000 in
theorem validateR_nil (s : ByteArray) (o : Int) (a : Option Addr) (cap : Nat) (w : World) (hs : s.size ≤ maxLen) :
    Calls Try.prog 13 #[.agg #[.string s, .int .i64 o, .slice a 0 cap]] w fun e w' => e = .returned (.int .i64 (valZone s.data.toList o [])) ∧ Below w.heap.size w w' := by
  cases h1 : nameB s.data.toList
  · have hf := Lib.hid (show valZone s.data.toList o [] = 1 from by simp [valZone, h1])
    go_enter Try.func13, Try.ntmps13
    go_wp2_with (first | (go_at_call 34; refine (isNameR_any _ _ hs).mono ?_; rintro e w' ⟨rfl, rfl⟩) | (go_at_call 35; refine (offsetR_any _ _).mono ?_; rintro e w' ⟨rfl, rfl⟩))
    go_ret
    exact ⟨ret_int hf.out.symm, (Below.refl _ _).alloc (Nat.le_refl _) _⟩
  cases h2 : offB o
  · have hf := Lib.hid (show valZone s.data.toList o [] = 5 from by simp [valZone, h1, h2])
    go_enter Try.func13, Try.ntmps13
    go_wp2_with (first | (go_at_call 34; refine (isNameR_any _ _ hs).mono ?_; rintro e w' ⟨rfl, rfl⟩) | (go_at_call 35; refine (offsetR_any _ _).mono ?_; rintro e w' ⟨rfl, rfl⟩))
    go_ret
    exact ⟨ret_int hf.out.symm, (Below.refl _ _).alloc (Nat.le_refl _) _⟩
  have hf := Lib.hid (show valZone s.data.toList o [] = 0 from by simp [valZone, h1, h2, valShifts])
  go_enter Try.func13, Try.ntmps13
  go_wp2_with (first | (go_at_call 34; refine (isNameR_any _ _ hs).mono ?_; rintro e w' ⟨rfl, rfl⟩) | (go_at_call 35; refine (offsetR_any _ _).mono ?_; rintro e w' ⟨rfl, rfl⟩))
  go_loop [3] (fun i => i = .int .i64 0) (fun _ => 0)
  case atStart => rfl
  case round =>
    subst hrel
    go_wp2
    go_ret
    exact ⟨ret_int hf.out.symm, (Below.refl _ _).alloc (Nat.le_refl _) _⟩

set_option maxHeartbeats 400000 in
theorem validateR_walk (s : ByteArray) (o : Int) (l : List (Int × Int)) (b off cap : Nat) (w : World) (hs : s.size ≤ maxLen) (hl : l.length ≤ 1000000) (hb : b < w.heap.size) (hc : ShCells w b off l) :
    Calls Try.prog 13 #[.agg #[.string s, .int .i64 o, .slice (some ⟨b, off, none⟩) l.length cap]] w fun e w' => e = .returned (.int .i64 (valZone s.data.toList o l)) ∧ Below w.heap.size w w' := by
  cases h1 : nameB s.data.toList
  · have hf := Lib.hid (show valZone s.data.toList o l = 1 from by simp [valZone, h1])
    go_enter Try.func13, Try.ntmps13
    go_wp2_with (first | (go_at_call 34; refine (isNameR_any _ _ hs).mono ?_; rintro e w' ⟨rfl, rfl⟩) | (go_at_call 35; refine (offsetR_any _ _).mono ?_; rintro e w' ⟨rfl, rfl⟩))
    go_ret
    exact ⟨ret_int hf.out.symm, (Below.refl _ _).alloc (Nat.le_refl _) _⟩
  cases h2 : offB o
  · have hf := Lib.hid (show valZone s.data.toList o l = 5 from by simp [valZone, h1, h2])
    go_enter Try.func13, Try.ntmps13
    go_wp2_with (first | (go_at_call 34; refine (isNameR_any _ _ hs).mono ?_; rintro e w' ⟨rfl, rfl⟩) | (go_at_call 35; refine (offsetR_any _ _).mono ?_; rintro e w' ⟨rfl, rfl⟩))
    go_ret
    exact ⟨ret_int hf.out.symm, (Below.refl _ _).alloc (Nat.le_refl _) _⟩
  by_cases h3 : 16 < l.length
  · have hf := Lib.hid (show valZone s.data.toList o l = 10 from by simp [valZone, h1, h2, h3])
    go_enter Try.func13, Try.ntmps13
    go_wp2_with (first | (go_at_call 34; refine (isNameR_any _ _ hs).mono ?_; rintro e w' ⟨rfl, rfl⟩) | (go_at_call 35; refine (offsetR_any _ _).mono ?_; rintro e w' ⟨rfl, rfl⟩))
    go_ret
    exact ⟨ret_int hf.out.symm, (Below.refl _ _).alloc (Nat.le_refl _) _⟩
  go_enter Try.func13, Try.ntmps13
  go_wp2_with (first | (go_at_call 34; refine (isNameR_any _ _ hs).mono ?_; rintro e w' ⟨rfl, rfl⟩) | (go_at_call 35; refine (offsetR_any _ _).mono ?_; rintro e w' ⟨rfl, rfl⟩))
  have hv : valZone s.data.toList o l = valShifts none l := by simp [valZone, h1, h2, h3]
  have hv := Lib.hid hv
  clear h1 h2
  generalize hW : w.alloc (Obj.cells #[Value.string s, Value.int IntKind.i64 o, Value.slice (some { block := b, off := off }) l.length cap] 24) = W
  have hbW : Below w.heap.size w W := by rw [← hW]; exact (Below.refl _ _).alloc (Nat.le_refl _) _
  have hWs : w.heap.size < W.heap.size := by rw [← hW]; simp
  have hcW : W.cell? ⟨w.heap.size, 2, none⟩ = some (Value.slice (some { block := b, off := off }) l.length cap) := by clear hbW hWs; subst hW; go_simp
  clear hW
  go_loopw [3] (fun i wr => ∃ k : Nat, k ≤ l.length ∧ i = .int .i64 k ∧ ValUpto l k ∧ Below W.heap.size W wr) (fun i _ => l.length - (intOf i).toNat)
  case atStart => exact ⟨0, Nat.zero_le _, rfl, ValUpto.zero _, Below.refl _ _⟩
  case round =>
    obtain ⟨k, hk, rfl, hall, hbel⟩ := hrel
    have hc3 := (hbel.cell (p := ⟨w.heap.size, 2, none⟩) hWs).trans hcW
    have hbk := (hbW.trans (hbel.mono (Nat.le_of_lt hWs)))
    by_cases hlt : k < l.length
    · have hcell := hc k hlt
      have hc1 := (hbel.cell (p := ⟨b, off + k * 2, none⟩) (by simp; omega)).trans ((hbW.cell (p := ⟨b, off + k * 2, none⟩) hb).trans hcell.1)
      have hc2 := (hbel.cell (p := ⟨b, off + k * 2 + 1, none⟩) (by simp; omega)).trans ((hbW.cell (p := ⟨b, off + k * 2 + 1, none⟩) hb).trans hcell.2)
      clear hcell
      have hz1 : w.heap.size < wr.heap.size := Nat.lt_of_lt_of_le hWs hbel.size
      have hz2 : b < wr.heap.size := by omega
      cases i1 : insB (shAt l k).1
      · have hf := Lib.hid (hv.out.trans (hall.bad hlt (.inl i1)))
        go_wp2_with (first | (go_at_call 36; refine (instantR_any _ _).mono ?_; rintro e w' ⟨rfl, rfl⟩) | (go_at_call 35; refine (offsetR_any _ _).mono ?_; rintro e w' ⟨rfl, rfl⟩))
        go_ret
        exact ⟨ret_int hf.out.symm, hbk⟩
      cases i2 : offB (shAt l k).2
      · have hf := Lib.hid (hv.out.trans (hall.bad hlt (.inr i2)))
        go_wp2_with (first | (go_at_call 36; refine (instantR_any _ _).mono ?_; rintro e w' ⟨rfl, rfl⟩) | (go_at_call 35; refine (offsetR_any _ _).mono ?_; rintro e w' ⟨rfl, rfl⟩))
        go_ret
        exact ⟨ret_int hf.out.symm, hbk⟩
      by_cases h0 : k = 0
      · have hst := Lib.hid (hall.step hlt i1 i2 (.inl h0))
        have hd : decide (0 < k) = false := by simp; omega
        clear h0
        go_wp2_with (first | (go_at_call 36; refine (instantR_any _ _).mono ?_; rintro e w' ⟨rfl, rfl⟩) | (go_at_call 35; refine (offsetR_any _ _).mono ?_; rintro e w' ⟨rfl, rfl⟩))
        go_quiet (fail)
        go_wp2
        go_roundw
        case rel => exact ⟨k + 1, by omega, by go_num, hst.out, below_drewN hbel _⟩
        case measure => simp [intOf]; omega
      · obtain ⟨m, rfl⟩ : ∃ m, k = m + 1 := ⟨k - 1, by omega⟩
        have hcell := hc m (by omega)
        have hc4 := (hbel.cell (p := ⟨b, off + m * 2, none⟩) (by simp; omega)).trans ((hbW.cell (p := ⟨b, off + m * 2, none⟩) hb).trans hcell.1)
        clear hcell
        by_cases ho : (shAt l (m + 1)).1 ≤ (shAt l m).1
        · have hf := Lib.hid (hv.out.trans (hall.order hlt i1 i2 (by omega) ho))
          go_wp2_with (first | (go_at_call 36; refine (instantR_any _ _).mono ?_; rintro e w' ⟨rfl, rfl⟩) | (go_at_call 35; refine (offsetR_any _ _).mono ?_; rintro e w' ⟨rfl, rfl⟩))
          go_quiet (fail)
          go_wp2
          go_ret
          exact ⟨ret_int hf.out.symm, below_drewN hbk _⟩
        · have hst := Lib.hid (hall.step hlt i1 i2 (.inr (Int.not_le.1 ho)))
          go_wp2_with (first | (go_at_call 36; refine (instantR_any _ _).mono ?_; rintro e w' ⟨rfl, rfl⟩) | (go_at_call 35; refine (offsetR_any _ _).mono ?_; rintro e w' ⟨rfl, rfl⟩))
          go_quiet (fail)
          go_wp2
          go_roundw
          case rel => exact ⟨m + 1 + 1, by omega, by go_num, hst.out, below_drewN hbel _⟩
          case measure => simp [intOf]; omega
    · obtain rfl : k = l.length := by omega
      have hf := Lib.hid (hv.out.trans hall.done)
      go_wp2
      go_ret
      exact ⟨ret_int hf.out.symm, hbk⟩

theorem validateR_any (s : ByteArray) (o : Int) (l : List (Int × Int)) (a : Option Addr) (cap : Nat) (w : World) (hs : s.size ≤ maxLen) (hl : l.length ≤ 1000000) (ha : ShAt w a l) :
    Calls Try.prog 13 #[.agg #[.string s, .int .i64 o, .slice a l.length cap]] w fun e w' => e = .returned (.int .i64 (valZone s.data.toList o l)) ∧ Below w.heap.size w w' := by
  rcases ha with rfl | ⟨b, off, rfl, hb, hc⟩
  · exact validateR_nil s o a cap w hs
  · exact validateR_walk s o l b off cap w hs hl hb hc
end Go.Proofs.Ytdjhoelbnnljjaa
