/- contracts of offsetAt and Offset -/
import Derived.Test.YtdjhoelbnnljjaaVal
namespace Go.Proofs.Ytdjhoelbnnljjaa
open Go.RowKit
set_option linter.unusedSimpArgs false
set_option linter.unusedVariables false

set_option maxHeartbeats 400000 in
theorem offsetAt_nil (s : ByteArray) (o t : Int) (a : Option Addr) (cap : Nat) (w : World) :
    Calls Try.prog 37 #[.agg #[.string s, .int .i64 o, .slice a 0 cap], .int .i64 t] w fun e w' => e = .returned (.int .i64 (offP o [] t)) ∧ Below w.heap.size w w' := by
  go_enter Try.func37, Try.ntmps37
  go_wp2
  go_loop [5, 13] (fun m i => m = .int .i64 o ∧ i = .int .i64 0) (fun _ _ => 0)
  case atStart => exact ⟨rfl, rfl⟩
  case round =>
    obtain ⟨rfl, rfl⟩ := hrel
    go_wp2
    go_ret
    exact ⟨rfl, (Below.refl _ _).alloc (Nat.le_refl _) _⟩

set_option maxHeartbeats 400000 in
theorem offsetAt_walk (s : ByteArray) (o t : Int) (l : List (Int × Int)) (b off cap : Nat) (w : World) (hl : l.length ≤ 1000000) (hb : b < w.heap.size) (hc : ShCells w b off l) :
    Calls Try.prog 37 #[.agg #[.string s, .int .i64 o, .slice (some ⟨b, off, none⟩) l.length cap], .int .i64 t] w fun e w' => e = .returned (.int .i64 (offP o l t)) ∧ Below w.heap.size w w' := by
  go_enter Try.func37, Try.ntmps37
  go_wp2
  generalize hW : w.alloc (Obj.cells #[Value.string s, Value.int IntKind.i64 o, Value.slice (some { block := b, off := off }) l.length cap] 24) = W
  have hbW : Below w.heap.size w W := by rw [← hW]; exact (Below.refl _ _).alloc (Nat.le_refl _) _
  have hWs : w.heap.size < W.heap.size := by rw [← hW]; simp
  clear hW
  go_loopw [5, 13] (fun m i wr => ∃ (n : Int) (k : Nat), k ≤ l.length ∧ i = .int .i64 k ∧ m = .int .i64 n ∧ Hid (offP o l t = offP n (l.drop k) t) ∧ Below W.heap.size W wr) (fun _ i _ => l.length - (intOf i).toNat)
  case atStart => exact ⟨o, 0, Nat.zero_le _, rfl, rfl, Lib.hid rfl, Below.refl _ _⟩
  case round =>
    obtain ⟨n, k, hk, rfl, rfl, hall, hbel⟩ := hrel
    have hbk := (hbW.trans (hbel.mono (Nat.le_of_lt hWs)))
    by_cases hlt : k < l.length
    · have hcell := hc k hlt
      have hc1 := (hbel.cell (p := ⟨b, off + k * 2, none⟩) (by simp; omega)).trans ((hbW.cell (p := ⟨b, off + k * 2, none⟩) hb).trans hcell.1)
      have hc2 := (hbel.cell (p := ⟨b, off + k * 2 + 1, none⟩) (by simp; omega)).trans ((hbW.cell (p := ⟨b, off + k * 2 + 1, none⟩) hb).trans hcell.2)
      clear hcell
      have hz1 : w.heap.size < wr.heap.size := Nat.lt_of_lt_of_le hWs hbel.size
      by_cases ht : t < (shAt l k).1
      · have hf := Lib.hid (hall.out.trans (offP_drop_stop hlt ht))
        go_wp2
        go_ret
        exact ⟨ret_int hf.out.symm, hbk.alloc (Nat.le_trans (Nat.le_of_lt hWs) hbel.size) _⟩
      · have hf := Lib.hid (hall.out.trans (offP_drop_step hlt ht))
        go_wp2
        go_roundw
        case rel => exact ⟨_, k + 1, by omega, by go_num, rfl, hf, hbel.alloc hbel.size _⟩
        case measure => simp [intOf]; omega
    · have hf := Lib.hid (hall.out.trans (offP_drop_done hlt))
      go_wp2
      go_ret
      exact ⟨ret_int hf.out.symm, hbk⟩
theorem offsetAt_any (s : ByteArray) (o t : Int) (l : List (Int × Int)) (a : Option Addr) (cap : Nat) (w : World) (hl : l.length ≤ 1000000) (ha : ShAt w a l) :
    Calls Try.prog 37 #[.agg #[.string s, .int .i64 o, .slice a l.length cap], .int .i64 t] w fun e w' => e = .returned (.int .i64 (offP o l t)) ∧ Below w.heap.size w w' := by
  rcases ha with rfl | ⟨b, off, rfl, hb, hc⟩
  · exact offsetAt_nil s o t a cap w
  · exact offsetAt_walk s o t l b off cap w hl hb hc

set_option maxHeartbeats 400000 in
theorem offsetRef_nil (s : ByteArray) (o t : Int) (a : Option Addr) (cap : Nat) (w : World) :
    Calls Try.prog 38 #[.agg #[.string s, .int .i64 o, .slice a 0 cap], .int .i64 t] w fun e w' => e = .returned (.int .i64 (offR o [] t)) ∧ Below w.heap.size w w' := by
  go_enter Try.func38, Try.ntmps38
  go_wp2
  go_loop [5, 6] (fun m i => m = .int .i64 o ∧ i = .int .i64 0) (fun _ _ => 0)
  case atStart => exact ⟨rfl, rfl⟩
  case round =>
    obtain ⟨rfl, rfl⟩ := hrel
    go_wp2
    go_ret
    exact ⟨rfl, (Below.refl _ _).alloc (Nat.le_refl _) _⟩
set_option maxHeartbeats 400000 in
theorem offsetRef_walk (s : ByteArray) (o t : Int) (l : List (Int × Int)) (b off cap : Nat) (w : World) (hl : l.length ≤ 1000000) (hb : b < w.heap.size) (hc : ShCells w b off l) :
    Calls Try.prog 38 #[.agg #[.string s, .int .i64 o, .slice (some ⟨b, off, none⟩) l.length cap], .int .i64 t] w fun e w' => e = .returned (.int .i64 (offR o l t)) ∧ Below w.heap.size w w' := by
  go_enter Try.func38, Try.ntmps38
  go_wp2
  generalize hW : w.alloc (Obj.cells #[Value.string s, Value.int IntKind.i64 o, Value.slice (some { block := b, off := off }) l.length cap] 24) = W
  have hbW : Below w.heap.size w W := by rw [← hW]; exact (Below.refl _ _).alloc (Nat.le_refl _) _
  have hWs : w.heap.size < W.heap.size := by rw [← hW]; simp
  have hcW : W.cell? ⟨w.heap.size, 2, none⟩ = some (Value.slice (some { block := b, off := off }) l.length cap) := by clear hbW hWs; subst hW; go_simp
  clear hW
  go_loop [5, 6] (fun m i => ∃ (n : Int) (k : Nat), k ≤ l.length ∧ i = .int .i64 k ∧ m = .int .i64 n ∧ Hid (offR o l t = offR n (l.drop k) t)) (fun _ i => l.length - (intOf i).toNat)
  case atStart => exact ⟨o, 0, Nat.zero_le _, rfl, rfl, Lib.hid rfl⟩
  case round =>
    obtain ⟨n, k, hk, rfl, rfl, hall⟩ := hrel
    by_cases hlt : k < l.length
    · have hcell := hc k hlt
      have hc1 := ((hbW.cell (p := ⟨b, off + k * 2, none⟩) hb).trans hcell.1)
      have hc2 := ((hbW.cell (p := ⟨b, off + k * 2 + 1, none⟩) hb).trans hcell.2)
      clear hcell
      by_cases ht : (shAt l k).1 ≤ t
      · have hf := Lib.hid (hall.out.trans (offR_drop_yes hlt ht))
        go_wp2
        go_round
        case rel => exact ⟨_, k + 1, by omega, by go_num, rfl, hf⟩
        case measure => simp [intOf]; omega
      · have hf := Lib.hid (hall.out.trans (offR_drop_no hlt ht))
        go_wp2
        go_round
        case rel => exact ⟨_, k + 1, by omega, by go_num, rfl, hf⟩
        case measure => simp [intOf]; omega
    · have hf := Lib.hid (hall.out.trans (offR_drop_done hlt))
      go_wp2
      go_ret
      exact ⟨ret_int hf.out.symm, hbW⟩
theorem offsetRef_any (s : ByteArray) (o t : Int) (l : List (Int × Int)) (a : Option Addr) (cap : Nat) (w : World) (hl : l.length ≤ 1000000) (ha : ShAt w a l) :
    Calls Try.prog 38 #[.agg #[.string s, .int .i64 o, .slice a l.length cap], .int .i64 t] w fun e w' => e = .returned (.int .i64 (offR o l t)) ∧ Below w.heap.size w w' := by
  rcases ha with rfl | ⟨b, off, rfl, hb, hc⟩
  · exact offsetRef_nil s o t a cap w
  · exact offsetRef_walk s o t l b off cap w hl hb hc
end Go.Proofs.Ytdjhoelbnnljjaa
