/- contract of Instants -/
import Derived.Test.YtdjhoelbnnljjaaSegN
import Derived.Test.YtdjhoelbnnljjaaInst0
namespace Go.Proofs.Ytdjhoelbnnljjaa
open Go.RowKit Go.Sort
set_option linter.unusedSimpArgs false
set_option linter.unusedVariables false

theorem info3 : (Try.prog.info? 3).map (fun i => (i.zero, i.size, i.bytes)) = some (some (.int .i64 0), 1, 8) := by kernel_rfl
theorem segCells_at (L : List (Int × Int × Int)) : ∀ k, k < L.length → (segCells L)[k * 3]? = some (.int .i64 (segAt L k).1) ∧ (segCells L)[k * 3 + 1]? = some (.int .i64 (segAt L k).2.1) ∧ (segCells L)[k * 3 + 2]? = some (.int .i64 (segAt L k).2.2) := by
  induction L with
  | nil => intro k h; simp at h
  | cons g L ih =>
    intro k h
    cases k with
    | zero => simp [segCells, segAt]
    | succ k =>
      have := ih k (by simpa using h)
      have e : segCells (g :: L) = [.int .i64 g.1, .int .i64 g.2.1, .int .i64 g.2.2] ++ segCells L := by simp [segCells]
      have e2 : segAt (g :: L) (k + 1) = segAt L k := by simp [segAt]
      rw [e, e2]
      refine ⟨?_, ?_, ?_⟩
      · rw [List.getElem?_append_right (by simp; omega)]; simpa [show (k + 1) * 3 - 3 = k * 3 by omega] using this.1
      · rw [List.getElem?_append_right (by simp; omega)]; simpa [show (k + 1) * 3 + 1 - 3 = k * 3 + 1 by omega] using this.2.1
      · rw [List.getElem?_append_right (by simp; omega)]; simpa [show (k + 1) * 3 + 2 - 3 = k * 3 + 2 by omega] using this.2.2
/-- the cells of a row of segments -/
def SegRow (w : World) (g : Nat) (L : List (Int × Int × Int)) : Prop :=
  g < w.heap.size ∧ ∀ k, k < L.length → w.cell? ⟨g, k * 3, none⟩ = some (.int .i64 (segAt L k).1) ∧ w.cell? ⟨g, k * 3 + 1, none⟩ = some (.int .i64 (segAt L k).2.1) ∧ w.cell? ⟨g, k * 3 + 2, none⟩ = some (.int .i64 (segAt L k).2.2)
theorem add_zero_off (g j : Nat) : Addr.add ⟨g, 0, none⟩ j = ⟨g, j, none⟩ := by
  unfold Addr.add; split
  · next h => rw [h]
  · simp
theorem SegRow.below {w w' : World} {g : Nat} {L : List (Int × Int × Int)} (h : SegRow w g L) (hb : Below w.heap.size w w') : SegRow w' g L :=
  ⟨Nat.lt_of_lt_of_le h.1 hb.size, fun k hk => ⟨(hb.cell (p := ⟨g, k * 3, none⟩) h.1).trans (h.2 k hk).1, (hb.cell (p := ⟨g, k * 3 + 1, none⟩) h.1).trans (h.2 k hk).2.1, (hb.cell (p := ⟨g, k * 3 + 2, none⟩) h.1).trans (h.2 k hk).2.2⟩⟩
/-- what 'segments' returns: nil, or a row -/
theorem segs_of_own {w : World} {base : Nat} {v : Value} {L : List (Int × Int × Int)} (h : w.ownsRow base 58 3 v L.length (segCells L)) :
    (v = .slice none 0 0 ∧ L = []) ∨ ∃ g cap, v = .slice (some ⟨g, 0, none⟩) L.length cap ∧ SegRow w g L := by
  rcases h.2 with ⟨hv, hn⟩ | ⟨g, cap, cur, hv, hr⟩
  · exact .inl ⟨hv, List.length_eq_zero_iff.1 hn⟩
  · have hown : v.ownBlock = some g := by rw [hv]; rfl
    have hlt := (h.lt g hown).2
    have hc := h.cells hown
    refine .inr ⟨g, cap, hv, hlt, fun k hk => ?_⟩
    obtain ⟨h1, h2, h3⟩ := segCells_at L k hk
    have c1 := hc _ _ h1
    have c2 := hc _ _ h2
    have c3 := hc _ _ h3
    rw [add_zero_off] at c1 c2 c3
    exact ⟨c1, c2, c3⟩

set_option maxHeartbeats 800000 in
theorem Instants_any (s : ByteArray) (o day clock : Int) (l : List (Int × Int)) (a : Option Addr) (cap : Nat) (w : World) (hs : s.size ≤ maxLen) (hl : l.length ≤ 1000000) (ha : ShAt w a l) :
    Calls Try.prog 23 #[.agg #[.string s, .int .i64 o, .slice a l.length cap], .int .i64 day, .int .i64 clock] w fun e w' =>
      ∃ v, e = .returned (.tuple #[v, .int .i64 (instZ s.data.toList o l day clock).2]) ∧ w'.ownsRow w.heap.size 3 1 v (instZ s.data.toList o l day clock).1.length ((instZ s.data.toList o l day clock).1.map (Value.int .i64)) ∧ Below w.heap.size w w' := by
  have hA := Lib.hid (fun W (h : Below w.heap.size w W) => ha.below h)
  clear ha
  obtain ⟨i0, hi, hz0, hz1, hz2⟩ := info_parts info3
  go_enter Try.func23, Try.ntmps23
  go_wp2_with fail
  have zb := ZBox.new w s o a l.length cap
  have hbW := below_new w (Obj.cells #[Value.string s, Value.int IntKind.i64 o, Value.slice a l.length cap] 24)
  generalize (w.alloc (Obj.cells #[Value.string s, Value.int IntKind.i64 o, Value.slice a l.length cap] 24)) = W at *
  refine (validate_any s o l a cap _ hs hl (hA.out _ hbW)).mono ?_
  rintro e w1 ⟨rfl, hb1⟩
  have hB1 := Below.then hbW hb1
  replace zb := zb.below hb1
  clear hb1 hbW
  clear W
  obtain ⟨z0, z1, z2, z3⟩ := Lib.hid zb |>.out
  by_cases hv : valZone s.data.toList o l = 0
  · have hv0 := Lib.hid hv
    have hn : (valZone s.data.toList o l != 0) = false := by simpa using hv
    cases hc : clkB clock
    · have hz := Lib.hid (show instZ s.data.toList o l day clock = ([], 5) from by simp [instZ, hv, hc])
      clear hv
      go_wp2_with (go_at_call 42; refine (clock_any _ _).mono ?_; rintro e w' ⟨rfl, rfl⟩)
      go_ret2
      exact ⟨_, by rw [hz.out]; rfl, by rw [hz.out]; exact ⟨rfl, .inl ⟨rfl, rfl⟩⟩, hB1⟩
    cases hd : dayB day
    · have hz := Lib.hid (show instZ s.data.toList o l day clock = (instsP (segsP 0 o l 0 52596000) (day * 1440 + clock), 0) from by simp [instZ, hv, hc, hd])
      have hd' : ¬ (day < -2 ∨ 36527 < day) := by simpa [dayB] using hd
      have hd1 : -2 ≤ day := by omega
      have hd2 : day ≤ 36527 := by omega
      obtain ⟨hk1, hk2⟩ := clkB_iff hc
      have hoff := Lib.hid (segsP_off l none 0 o 0 52596000 (valZone_zero hv).2.2.2 (valZone_zero hv).2.1)
      have hlen := segsP_len l 0 o 0 52596000
      clear hv hd hd'
      go_wp2_with (go_at_call 42; refine (clock_any _ _).mono ?_; rintro e w' ⟨rfl, rfl⟩)
      refine (segments_any s o 0 52596000 l a cap _ hl (hA.out _ hB1)).mono ?_
      rintro e w2 ⟨v, rfl, hown, hb2⟩
      have hB2 := Below.then hB1 hb2
      clear hb2 z0 z1 z2 z3 zb hB1
      generalize segsP 0 o l 0 52596000 = L at *
      rcases segs_of_own hown with ⟨rfl, rfl⟩ | ⟨g, cap', rfl, hrow⟩
      · clear hown
        go_wp2_with fail
        go_loop [9, 31] (fun m i => m = .slice none 0 0 ∧ i = .int .i64 0) (fun _ _ => 0)
        case atStart => exact ⟨rfl, rfl⟩
        case round =>
          obtain ⟨rfl, rfl⟩ := hrel
          go_wp2
          go_ret2
          exact ⟨_, by rw [hz.out]; rfl, by rw [hz.out]; exact ⟨rfl, .inl ⟨rfl, rfl⟩⟩, hB2⟩
      · clear hown
        go_wp2_with fail
        go_loopw [9, 31] (fun out i wr => ∃ (k : Nat) (v : Value) (M : List Int), k ≤ L.length ∧ M.length ≤ k ∧ i = .int .i64 k ∧ out = v ∧
          wr.ownsRow w2.heap.size 3 1 v M.length (M.map (Value.int .i64)) ∧ Hid (instsP L (day * 1440 + clock) = M ++ instsP (L.drop k) (day * 1440 + clock)) ∧ Below w2.heap.size w2 wr) (fun _ i _ => L.length - (intOf i).toNat)
        case atStart => exact ⟨0, _, [], Nat.zero_le _, Nat.le_refl _, rfl, rfl, ⟨rfl, .inl ⟨rfl, rfl⟩⟩, Lib.hid (by simp), Below.refl _ _⟩
        case round =>
          obtain ⟨k, v, M, hk, hM, rfl, rfl, hown, hdef, hbel⟩ := hrel
          by_cases hlt : k < L.length
          · obtain ⟨c1, c2, c3⟩ := (hrow.below hbel).2 k hlt
            have hgr := (hrow.below hbel).1
            have ho := offB_iff (hoff.out _ (segAt_mem L k hlt))
            have hdx := Lib.hid (hdef.out.trans (congrArg (M ++ ·) (instsP_step hlt)))
            by_cases t1 : (segAt L k).1 ≤ day * 1440 + clock - (segAt L k).2.2
            · by_cases t2 : day * 1440 + clock - (segAt L k).2.2 < (segAt L k).2.1
              · have hs1 := Lib.hid (inst1_yes t1 t2)
                go_wp2_with (at_builtin; refine wpList_append_own _ rfl _ _ 38 rfl w2.heap.size 3 i0 (.int .i64 0) 1 8 Try.underlying38 hi hz0 hz1 hz2 rfl (by decide) _ _ _ rfl ((hown.alloc _).alloc _) ⟨wr.heap.size + 1, 0, none⟩ 1 1 [.int .i64 (day * 1440 + clock - (segAt L k).2.2)] rfl rfl ?c1 ?c2 ?c3 ?c4 ?c5 ?_)
                case c1 => have := fresh_cells (wr.alloc (Obj.cells #[Value.int .i64 (segAt L k).1, Value.int .i64 (segAt L k).2.1, Value.int .i64 (segAt L k).2.2] 58)) [.int .i64 (day * 1440 + clock - (segAt L k).2.2)] 3; simpa using this
                case c2 => intro u hu; simp at hu; rcases hu with rfl; rfl
                case c3 => unfold maxLen; omega
                case c4 => omega
                case c5 => have := hbel.size; simp; omega
                intro v' w3 hown' hgrow _
                have hbel3 := below_append (e' := 3) (hbel.alloc hbel.size _) rfl (hown.alloc _) hgrow
                have hd3 := Lib.hid (show instsP L (day * 1440 + clock) = (M ++ [day * 1440 + clock - (segAt L k).2.2]) ++ instsP (L.drop (k + 1)) (day * 1440 + clock) from by rw [hdx.out, hs1.out]; simp)
                go_wp2_with fail
                go_roundw
                case rel => exact ⟨k + 1, _, M ++ [day * 1440 + clock - (segAt L k).2.2], by omega, by rw [List.length_append, List.length_singleton]; omega, by go_num, rfl, by simpa using hown', hd3, hbel3⟩
                case measure => simp [intOf]; omega
              · have hs1 := Lib.hid (inst1_no (g := segAt L k) (loc := day * 1440 + clock) (fun h => t2 h.2))
                have hd3 := Lib.hid (show instsP L (day * 1440 + clock) = M ++ instsP (L.drop (k + 1)) (day * 1440 + clock) from by rw [hdx.out, hs1.out]; simp)
                go_wp2_with fail
                go_roundw
                case rel => exact ⟨k + 1, _, M, by omega, by omega, by go_num, rfl, hown.alloc _, hd3, hbel.alloc hbel.size _⟩
                case measure => simp [intOf]; omega
            · have hs1 := Lib.hid (inst1_no (g := segAt L k) (loc := day * 1440 + clock) (fun h => t1 h.1))
              have hd3 := Lib.hid (show instsP L (day * 1440 + clock) = M ++ instsP (L.drop (k + 1)) (day * 1440 + clock) from by rw [hdx.out, hs1.out]; simp)
              go_wp2_with fail
              go_roundw
              case rel => exact ⟨k + 1, _, M, by omega, by omega, by go_num, rfl, hown.alloc _, hd3, hbel.alloc hbel.size _⟩
              case measure => simp [intOf]; omega
          · have hf := Lib.hid (hdef.out.trans (by rw [instsP_end hlt, List.append_nil]))
            go_wp2
            go_ret2
            refine ⟨_, by rw [hz.out]; rfl, ?_, Below.then hB2 hbel⟩
            rw [hz.out, hf.out]
            exact own_mono hown hB2.size
    · have hz := Lib.hid (show instZ s.data.toList o l day clock = ([], 0) from by simp [instZ, hv, hc, hd])
      have hd' : day < -2 ∨ 36527 < day := by simpa [dayB] using hd
      clear hv hd
      rcases hd' with hd' | hd'
      all_goals
        go_wp2_with (go_at_call 42; refine (clock_any _ _).mono ?_; rintro e w' ⟨rfl, rfl⟩)
        go_ret2
        exact ⟨_, by rw [hz.out]; rfl, by rw [hz.out]; exact ⟨rfl, .inl ⟨rfl, rfl⟩⟩, hB1⟩
  · have hz := Lib.hid (show instZ s.data.toList o l day clock = ([], valZone s.data.toList o l) from by simp [instZ, hv])
    have hn : (valZone s.data.toList o l != 0) = true := by simpa using hv
    clear hv
    go_wp2_with fail
    go_ret2
    exact ⟨_, by rw [hz.out]; rfl, by rw [hz.out]; exact ⟨rfl, .inl ⟨rfl, rfl⟩⟩, hB1⟩
end Go.Proofs.Ytdjhoelbnnljjaa
