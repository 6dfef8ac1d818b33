/- merged texts: ZW5 ZW6 At2 Fo4 Fo5 Fo6 Fo7 Fo8 -/
import Derived.RegionTactic
import Derived.Deep.RegionHeld3
import Derived.Deep.AppendLies
import Derived.Test.YtpgbckgjlgecpaaGreatG1
import Derived.Test.YtpgbckgjlgecpaaGreatG3
/- zone: by conv.py from the texts of the zone seat -/
namespace Go.Proofs.YtpgbckgjlgecpaaGreat
open Go.RowKit Go.Sort
set_option linter.unusedSimpArgs false
set_option linter.unusedVariables false
set_option maxRecDepth 100000

theorem info58 : (Tryz.prog.info? 253).map (fun i => (i.zero, i.size, i.bytes)) = some (some (.agg #[.int .i64 0, .int .i64 0, .int .i64 0]), 3, 24) := by kernel_rfl
/-- the cells of a list of segments -/
def segCells (L : List (Int × Int × Int)) : List Value := L.flatMap fun g => [.int .i64 g.1, .int .i64 g.2.1, .int .i64 g.2.2]
theorem segCells_snoc (L : List (Int × Int × Int)) (g : Int × Int × Int) : segCells (L ++ [g]) = segCells L ++ [.int .i64 g.1, .int .i64 g.2.1, .int .i64 g.2.2] := by simp [segCells]

theorem fresh_cells (w : World) (news : List Value) (e : TypeId) (j : Nat) (u : Value) (h : news[j]? = some u) : (w.alloc (.cells news.toArray e)).cell? (Addr.add ⟨w.heap.size, 0, none⟩ j) = some u := by
  have hj : (Addr.add ⟨w.heap.size, 0, none⟩ j) = ⟨w.heap.size, j, none⟩ := by
    unfold Addr.add; split
    · next h => rw [h]
    · simp
  rw [hj]
  rw [World.cell?_alloc_at _ _ _ _ rfl]
  simpa using h
theorem own_base {w : World} {base : Nat} {e : TypeId} {size : Nat} {v : Value} {n : Nat} {xs : List Value} (h : w.ownsRow base e size v n xs) (k : Nat) (hk : v.ownBlock = some k) : base ≤ k := by
  rcases h.2 with ⟨rfl, _⟩ | ⟨g, cap, cur, rfl, hg, _⟩
  · simp [Value.ownBlock] at hk
  · simp [Value.ownBlock] at hk; omega
theorem own_mono {w : World} {base base' : Nat} {e : TypeId} {size : Nat} {v : Value} {n : Nat} {xs : List Value} (h : w.ownsRow base e size v n xs) (hb : base' ≤ base) : w.ownsRow base' e size v n xs := by
  refine ⟨h.1, ?_⟩
  rcases h.2 with h | ⟨g, cap, cur, hv, hg, h⟩
  · exact .inl h
  · exact .inr ⟨g, cap, cur, hv, Nat.le_trans hb hg, h⟩
/-- what an append of a new element leaves -/
theorem below_append {B : Nat} {W wd w1 : World} {e e' : TypeId} {size : Nat} {v : Value} {n : Nat} {xs : List Value} {o : Obj} (hb : Below W.heap.size W wd) (hB : B = W.heap.size) (hown : wd.ownsRow B e size v n xs) (hg : (wd.alloc o).grownBy w1 v.ownBlock) : Below W.heap.size W w1 := by
  subst hB
  have h1 := hb.size
  exact (hb.alloc h1 o).grown hg (by simp; omega) (fun k hk => own_base hown k hk)

set_option maxHeartbeats 800000 in
theorem segments_walk (s : ByteArray) (o x y : Int) (l : List (Int × Int)) (b off cap : Nat) (w : World) (hl : l.length ≤ 1000000) (hb : b < w.heap.size) (hc : ShCells w b off l) :
    Calls Tryz.prog 216 #[.agg #[.string s, .int .i64 o, .slice (some ⟨b, off, none⟩) l.length cap], .agg #[.int .i64 x, .int .i64 y]] w fun e w' =>
      ∃ v, e = .returned v ∧ w'.ownsRow w.heap.size 253 3 v (segsP 0 o l x y).length (segCells (segsP 0 o l x y)) ∧ Below w.heap.size w w' := by
  obtain ⟨i0, hi, hz0, hz1, hz2⟩ := info_parts info58
  go_enter Tryz.func216, Tryz.ntmps216
  go_wp2_with fail
  obtain ⟨zb, sb, hbW⟩ := boxes w s o (some ⟨b, off, none⟩) l.length cap x y
  generalize ((w.alloc (Obj.cells #[Value.string s, Value.int IntKind.i64 o, Value.slice (some ⟨b, off, none⟩) l.length cap] 85)).alloc (Obj.cells #[Value.int IntKind.i64 x, Value.int IntKind.i64 y] 50)) = W at *
  obtain ⟨z0, z1, z2, z3⟩ := Lib.hid zb |>.out
  obtain ⟨t0, t1, t2⟩ := Lib.hid sb |>.out
  go_quiet (fail)
  go_wp2_with fail
  have hb1 : Below W.heap.size W (W.drewN nq) := below_drewN (Below.refl _ _) _
  generalize W.drewN nq = W1 at *
  replace zb := zb.below hb1
  replace sb := sb.below hb1
  have hB1 := Below.then hbW hb1
  clear hb1 hbW z0 z1 z2 z3 t0 t1 t2
  clear W
  have hcW : ShCells W1 b off l := hc.below hb hB1
  have hbW1 : b < W1.heap.size := Nat.lt_of_lt_of_le hb hB1.size
  go_loopw [5, 6, 7, 8] (fun out fr oo i wr => ∃ (k : Nat) (v : Value) (f q : Int) (L : List (Int × Int × Int)), k ≤ l.length + 1 ∧ L.length ≤ k ∧ i = .int .i64 k ∧ out = v ∧ fr = .int .i64 f ∧ oo = .int .i64 q ∧
      wr.ownsRow W1.heap.size 253 3 v L.length (segCells L) ∧ Hid (segsP 0 o l x y = L ++ segsK f q l k x y) ∧ Below W1.heap.size W1 wr) (fun _ _ _ i _ => l.length + 1 - (intOf i).toNat)
  case atStart => exact ⟨0, _, _, _, [], Nat.zero_le _, Nat.le_refl _, rfl, rfl, rfl, rfl, ⟨rfl, .inl ⟨rfl, rfl⟩⟩, Lib.hid (segsK_zero o l x y), Below.refl _ _⟩
  case round =>
    obtain ⟨k, v, f, q, L, hk, hL, rfl, rfl, rfl, rfl, hown, hdef, hbel⟩ := hrel
    obtain ⟨z0, z1, z2, z3⟩ := Lib.hid (zb.below hbel) |>.out
    obtain ⟨t0, t1, t2⟩ := Lib.hid (sb.below hbel) |>.out
    by_cases hle : k ≤ l.length
    · by_cases hlt : k < l.length
      · have hcell := hcW k hlt
        have hc1 := (hbel.cell (p := ⟨b, off + k * 2, none⟩) hbW1).trans hcell.1
        have hc2 := (hbel.cell (p := ⟨b, off + k * 2 + 1, none⟩) hbW1).trans hcell.2
        clear hcell
        by_cases ht : mx f x < mn (shAt l k).1 y
        · have hd2 := Lib.hid (hdef.out.trans (congrArg (L ++ ·) (segsK_lt hlt)))
          have hs1 := Lib.hid (seg1_yes (o := q) ht)
          go_wp2_with fail
          go_quiet (fail)
          have hown2 : (wr.drewN nq).ownsRow W1.heap.size 253 3 u5 L.length (segCells L) := hown
          have hbd : Below wr.heap.size wr (wr.drewN nq) := below_drewN (Below.refl _ _) _
          simp only [show (if f < x then x else f) = mx f x from rfl, show (if y < (shAt l k).1 then y else (shAt l k).1) = mn (shAt l k).1 y from rfl]
          generalize mx f x = A at *
          generalize mn (shAt l k).1 y = B at *
          generalize wr.drewN nq = wd at *
          have hbel2 := hbel.trans (hbd.mono hbel.size)
          clear hown z0 z1 z2 z3 t0 t1 t2 hbd hbel hc1 hc2
          clear wr
          obtain ⟨z0, z1, z2, z3⟩ := Lib.hid (zb.below hbel2) |>.out
          obtain ⟨t0, t1, t2⟩ := Lib.hid (sb.below hbel2) |>.out
          go_wp2_with (at_builtin; refine wpList_append_own _ rfl _ _ 250 rfl W1.heap.size 253 i0 (.agg #[.int .i64 0, .int .i64 0, .int .i64 0]) 3 24 Tryz.underlying250 hi hz0 hz1 hz2 rfl (by decide) _ _ _ rfl (hown2.alloc _) ⟨wd.heap.size, 0, none⟩ 1 1 [.int .i64 A, .int .i64 B, .int .i64 q] rfl rfl ?c1 ?c2 ?c3 ?c4 ?c5 ?_)
          case c1 => exact fresh_cells wd [.int .i64 A, .int .i64 B, .int .i64 q] 253
          case c2 => intro u hu; simp at hu; rcases hu with rfl | rfl | rfl <;> rfl
          case c3 => unfold maxLen; omega
          case c4 => omega
          case c5 => have := hbel2.size; simp; omega
          intro v' w1 hown' hgrow _
          have hbel3 := below_append (e' := 253) hbel2 rfl hown2 hgrow
          rw [show segCells L ++ [Value.int .i64 A, .int .i64 B, .int .i64 q] = segCells (L ++ [(A, B, q)]) from (segCells_snoc L (A, B, q)).symm] at hown'
          have hd3 := Lib.hid (show segsP 0 o l x y = (L ++ [(A, B, q)]) ++ segsK (shAt l k).1 (shAt l k).2 l (k + 1) x y from by rw [hd2.out, hs1.out]; simp)
          clear hown2 z0 z1 z2 z3 t0 t1 t2 hbel2 hgrow hd2 hs1
          obtain ⟨z0, z1, z2, z3⟩ := Lib.hid (zb.below hbel3) |>.out
          obtain ⟨t0, t1, t2⟩ := Lib.hid (sb.below hbel3) |>.out
          have hcell := hcW k hlt
          have hc1 := (hbel3.cell (p := ⟨b, off + k * 2, none⟩) hbW1).trans hcell.1
          have hc2 := (hbel3.cell (p := ⟨b, off + k * 2 + 1, none⟩) hbW1).trans hcell.2
          clear hcell
          go_wp2_with fail
          go_quiet (fail)
          go_wp2_with fail
          go_roundw
          case rel => exact ⟨k + 1, _, _, _, L ++ [(A, B, q)], by omega, by rw [List.length_append, List.length_singleton]; omega, by go_num, rfl, rfl, rfl, by simpa using (show (w1.drewN nq).ownsRow _ _ _ _ _ _ from hown'), hd3, (below_drewN hbel3 _)⟩
          case measure => first | (simp [intOf]; done) | (simp [intOf]; omega)
        · have hd2 := Lib.hid (hdef.out.trans (congrArg (L ++ ·) (segsK_lt hlt)))
          have hs1 := Lib.hid (seg1_no (o := q) ht)
          go_wp2_with fail
          go_quiet (fail)
          have hown2 : (wr.drewN nq).ownsRow W1.heap.size 253 3 u5 L.length (segCells L) := hown
          have hbd : Below wr.heap.size wr (wr.drewN nq) := below_drewN (Below.refl _ _) _
          simp only [show (if f < x then x else f) = mx f x from rfl, show (if y < (shAt l k).1 then y else (shAt l k).1) = mn (shAt l k).1 y from rfl]
          generalize mx f x = A at *
          generalize mn (shAt l k).1 y = B at *
          generalize wr.drewN nq = wd at *
          have hbel2 := hbel.trans (hbd.mono hbel.size)
          clear hown z0 z1 z2 z3 t0 t1 t2 hbd hbel hc1 hc2
          clear wr
          obtain ⟨z0, z1, z2, z3⟩ := Lib.hid (zb.below hbel2) |>.out
          obtain ⟨t0, t1, t2⟩ := Lib.hid (sb.below hbel2) |>.out
          have hcell := hcW k hlt
          have hc1 := (hbel2.cell (p := ⟨b, off + k * 2, none⟩) hbW1).trans hcell.1
          have hc2 := (hbel2.cell (p := ⟨b, off + k * 2 + 1, none⟩) hbW1).trans hcell.2
          clear hcell
          have hd3 := Lib.hid (show segsP 0 o l x y = L ++ segsK (shAt l k).1 (shAt l k).2 l (k + 1) x y from by rw [hd2.out, hs1.out]; simp)
          go_wp2_with fail
          go_quiet (fail)
          go_wp2_with fail
          go_roundw
          case rel => exact ⟨k + 1, _, _, _, L, by omega, by omega, by go_num, rfl, rfl, rfl, (show (wd.drewN nq).ownsRow _ _ _ _ _ _ from hown2), hd3, (below_drewN hbel2 _)⟩
          case measure => first | (simp [intOf]; done) | (simp [intOf]; omega)
      · obtain rfl : k = l.length := by omega
        by_cases ht : mx f x < mn 52596000 y
        · have hd2 := Lib.hid (hdef.out.trans (congrArg (L ++ ·) (segsK_len)))
          have hs1 := Lib.hid (seg1_yes (o := q) ht)
          go_wp2_with fail
          go_quiet (fail)
          have hown2 : (wr.drewN nq).ownsRow W1.heap.size 253 3 u5 L.length (segCells L) := hown
          have hbd : Below wr.heap.size wr (wr.drewN nq) := below_drewN (Below.refl _ _) _
          simp only [show (if f < x then x else f) = mx f x from rfl, show (if y < 52596000 then y else 52596000) = mn 52596000 y from rfl]
          generalize mx f x = A at *
          generalize mn 52596000 y = B at *
          generalize wr.drewN nq = wd at *
          have hbel2 := hbel.trans (hbd.mono hbel.size)
          clear hown z0 z1 z2 z3 t0 t1 t2 hbd hbel
          clear wr
          obtain ⟨z0, z1, z2, z3⟩ := Lib.hid (zb.below hbel2) |>.out
          obtain ⟨t0, t1, t2⟩ := Lib.hid (sb.below hbel2) |>.out
          go_wp2_with (at_builtin; refine wpList_append_own _ rfl _ _ 250 rfl W1.heap.size 253 i0 (.agg #[.int .i64 0, .int .i64 0, .int .i64 0]) 3 24 Tryz.underlying250 hi hz0 hz1 hz2 rfl (by decide) _ _ _ rfl (hown2.alloc _) ⟨wd.heap.size, 0, none⟩ 1 1 [.int .i64 A, .int .i64 B, .int .i64 q] rfl rfl ?c1 ?c2 ?c3 ?c4 ?c5 ?_)
          case c1 => exact fresh_cells wd [.int .i64 A, .int .i64 B, .int .i64 q] 253
          case c2 => intro u hu; simp at hu; rcases hu with rfl | rfl | rfl <;> rfl
          case c3 => unfold maxLen; omega
          case c4 => omega
          case c5 => have := hbel2.size; simp; omega
          intro v' w1 hown' hgrow _
          have hbel3 := below_append (e' := 253) hbel2 rfl hown2 hgrow
          rw [show segCells L ++ [Value.int .i64 A, .int .i64 B, .int .i64 q] = segCells (L ++ [(A, B, q)]) from (segCells_snoc L (A, B, q)).symm] at hown'
          have hd3 := Lib.hid (show segsP 0 o l x y = (L ++ [(A, B, q)]) ++ segsK f q l (l.length + 1) x y from by rw [hd2.out, hs1.out]; simp)
          clear hown2 z0 z1 z2 z3 t0 t1 t2 hbel2 hgrow hd2 hs1
          obtain ⟨z0, z1, z2, z3⟩ := Lib.hid (zb.below hbel3) |>.out
          obtain ⟨t0, t1, t2⟩ := Lib.hid (sb.below hbel3) |>.out
          go_wp2_with fail
          go_roundw
          case rel => exact ⟨l.length + 1, _, _, _, L ++ [(A, B, q)], by omega, by rw [List.length_append, List.length_singleton]; omega, by go_num, rfl, rfl, rfl, by simpa using hown', hd3, hbel3⟩
          case measure => first | (simp [intOf]; done) | (simp [intOf]; omega)
        · have hd2 := Lib.hid (hdef.out.trans (congrArg (L ++ ·) (segsK_len)))
          have hs1 := Lib.hid (seg1_no (o := q) ht)
          go_wp2_with fail
          go_quiet (fail)
          have hown2 : (wr.drewN nq).ownsRow W1.heap.size 253 3 u5 L.length (segCells L) := hown
          have hbd : Below wr.heap.size wr (wr.drewN nq) := below_drewN (Below.refl _ _) _
          simp only [show (if f < x then x else f) = mx f x from rfl, show (if y < 52596000 then y else 52596000) = mn 52596000 y from rfl]
          generalize mx f x = A at *
          generalize mn 52596000 y = B at *
          generalize wr.drewN nq = wd at *
          have hbel2 := hbel.trans (hbd.mono hbel.size)
          clear hown z0 z1 z2 z3 t0 t1 t2 hbd hbel
          clear wr
          obtain ⟨z0, z1, z2, z3⟩ := Lib.hid (zb.below hbel2) |>.out
          obtain ⟨t0, t1, t2⟩ := Lib.hid (sb.below hbel2) |>.out
          have hd3 := Lib.hid (show segsP 0 o l x y = L ++ segsK f q l (l.length + 1) x y from by rw [hd2.out, hs1.out]; simp)
          go_wp2_with fail
          go_roundw
          case rel => exact ⟨l.length + 1, _, _, _, L, by omega, by omega, by go_num, rfl, rfl, rfl, hown2, hd3, hbel2⟩
          case measure => first | (simp [intOf]; done) | (simp [intOf]; omega)
    · have hfin := Lib.hid (hdef.out.trans (by rw [segsK_end hle, List.append_nil]))
      go_wp2
      go_ret
      refine ⟨_, rfl, ?_, Below.then hB1 hbel⟩
      rw [hfin.out]
      exact own_mono hown hB1.size

set_option maxHeartbeats 800000 in
theorem segments_nil (s : ByteArray) (o x y : Int) (a : Option Addr) (cap : Nat) (w : World) :
    Calls Tryz.prog 216 #[.agg #[.string s, .int .i64 o, .slice a 0 cap], .agg #[.int .i64 x, .int .i64 y]] w fun e w' =>
      ∃ v, e = .returned v ∧ w'.ownsRow w.heap.size 253 3 v (segsP 0 o [] x y).length (segCells (segsP 0 o [] x y)) ∧ Below w.heap.size w w' := by
  obtain ⟨i0, hi, hz0, hz1, hz2⟩ := info_parts info58
  go_enter Tryz.func216, Tryz.ntmps216
  go_wp2_with fail
  obtain ⟨zb, sb, hbW⟩ := boxes w s o a 0 cap x y
  generalize ((w.alloc (Obj.cells #[Value.string s, Value.int IntKind.i64 o, Value.slice a 0 cap] 85)).alloc (Obj.cells #[Value.int IntKind.i64 x, Value.int IntKind.i64 y] 50)) = W at *
  obtain ⟨z0, z1, z2, z3⟩ := Lib.hid zb |>.out
  obtain ⟨t0, t1, t2⟩ := Lib.hid sb |>.out
  go_quiet (fail)
  go_wp2_with fail
  have hb1 : Below W.heap.size W (W.drewN nq) := below_drewN (Below.refl _ _) _
  generalize W.drewN nq = W1 at *
  replace zb := zb.below hb1
  replace sb := sb.below hb1
  have hB1 := Below.then hbW hb1
  clear hb1 hbW z0 z1 z2 z3 t0 t1 t2
  clear W
  go_loopw [5, 6, 7, 8] (fun out fr oo i wr => ∃ (k : Nat) (v : Value) (f q : Int) (L : List (Int × Int × Int)), k ≤ 1 ∧ L.length ≤ k ∧ i = .int .i64 k ∧ out = v ∧ fr = .int .i64 f ∧ oo = .int .i64 q ∧
      wr.ownsRow W1.heap.size 253 3 v L.length (segCells L) ∧ Hid (segsP 0 o [] x y = L ++ segsK f q [] k x y) ∧ Below W1.heap.size W1 wr) (fun _ _ _ i _ => 1 - (intOf i).toNat)
  case atStart => exact ⟨0, _, _, _, [], Nat.zero_le _, Nat.le_refl _, rfl, rfl, rfl, rfl, ⟨rfl, .inl ⟨rfl, rfl⟩⟩, Lib.hid (segsK_zero o [] x y), Below.refl _ _⟩
  case round =>
    obtain ⟨k, v, f, q, L, hk, hL, rfl, rfl, rfl, rfl, hown, hdef, hbel⟩ := hrel
    obtain ⟨z0, z1, z2, z3⟩ := Lib.hid (zb.below hbel) |>.out
    obtain ⟨t0, t1, t2⟩ := Lib.hid (sb.below hbel) |>.out
    by_cases hle : k ≤ 0
    · obtain rfl : k = 0 := by simpa using hle
      by_cases ht : mx f x < mn 52596000 y
      · have hd2 := Lib.hid (hdef.out.trans (congrArg (L ++ ·) (segsK_len (l := []))))
        have hs1 := Lib.hid (seg1_yes (o := q) ht)
        go_wp2_with fail
        go_quiet (fail)
        have hown2 : (wr.drewN nq).ownsRow W1.heap.size 253 3 u5 L.length (segCells L) := hown
        have hbd : Below wr.heap.size wr (wr.drewN nq) := below_drewN (Below.refl _ _) _
        simp only [show (if f < x then x else f) = mx f x from rfl, show (if y < 52596000 then y else 52596000) = mn 52596000 y from rfl]
        generalize mx f x = A at *
        generalize mn 52596000 y = B at *
        generalize wr.drewN nq = wd at *
        have hbel2 := hbel.trans (hbd.mono hbel.size)
        clear hown z0 z1 z2 z3 t0 t1 t2 hbd hbel
        clear wr
        obtain ⟨z0, z1, z2, z3⟩ := Lib.hid (zb.below hbel2) |>.out
        obtain ⟨t0, t1, t2⟩ := Lib.hid (sb.below hbel2) |>.out
        go_wp2_with (at_builtin; refine wpList_append_own _ rfl _ _ 250 rfl W1.heap.size 253 i0 (.agg #[.int .i64 0, .int .i64 0, .int .i64 0]) 3 24 Tryz.underlying250 hi hz0 hz1 hz2 rfl (by decide) _ _ _ rfl (hown2.alloc _) ⟨wd.heap.size, 0, none⟩ 1 1 [.int .i64 A, .int .i64 B, .int .i64 q] rfl rfl ?c1 ?c2 ?c3 ?c4 ?c5 ?_)
        case c1 => exact fresh_cells wd [.int .i64 A, .int .i64 B, .int .i64 q] 253
        case c2 => intro u hu; simp at hu; rcases hu with rfl | rfl | rfl <;> rfl
        case c3 => unfold maxLen; omega
        case c4 => omega
        case c5 => have := hbel2.size; simp; omega
        intro v' w1 hown' hgrow _
        have hbel3 := below_append (e' := 253) hbel2 rfl hown2 hgrow
        rw [show segCells L ++ [Value.int .i64 A, .int .i64 B, .int .i64 q] = segCells (L ++ [(A, B, q)]) from (segCells_snoc L (A, B, q)).symm] at hown'
        have hd3 := Lib.hid (show segsP 0 o [] x y = (L ++ [(A, B, q)]) ++ segsK f q [] (1) x y from by rw [hd2.out, hs1.out]; simp)
        clear hown2 z0 z1 z2 z3 t0 t1 t2 hbel2 hgrow hd2 hs1
        obtain ⟨z0, z1, z2, z3⟩ := Lib.hid (zb.below hbel3) |>.out
        obtain ⟨t0, t1, t2⟩ := Lib.hid (sb.below hbel3) |>.out
        go_wp2_with fail
        go_roundw
        case rel => exact ⟨1, _, _, _, L ++ [(A, B, q)], by omega, by rw [List.length_append, List.length_singleton]; omega, by go_num, rfl, rfl, rfl, by simpa using hown', hd3, hbel3⟩
        case measure => first | (simp [intOf]; done) | (simp [intOf]; omega)
      · have hd2 := Lib.hid (hdef.out.trans (congrArg (L ++ ·) (segsK_len (l := []))))
        have hs1 := Lib.hid (seg1_no (o := q) ht)
        go_wp2_with fail
        go_quiet (fail)
        have hown2 : (wr.drewN nq).ownsRow W1.heap.size 253 3 u5 L.length (segCells L) := hown
        have hbd : Below wr.heap.size wr (wr.drewN nq) := below_drewN (Below.refl _ _) _
        simp only [show (if f < x then x else f) = mx f x from rfl, show (if y < 52596000 then y else 52596000) = mn 52596000 y from rfl]
        generalize mx f x = A at *
        generalize mn 52596000 y = B at *
        generalize wr.drewN nq = wd at *
        have hbel2 := hbel.trans (hbd.mono hbel.size)
        clear hown z0 z1 z2 z3 t0 t1 t2 hbd hbel
        clear wr
        obtain ⟨z0, z1, z2, z3⟩ := Lib.hid (zb.below hbel2) |>.out
        obtain ⟨t0, t1, t2⟩ := Lib.hid (sb.below hbel2) |>.out
        have hd3 := Lib.hid (show segsP 0 o [] x y = L ++ segsK f q [] (1) x y from by rw [hd2.out, hs1.out]; simp)
        go_wp2_with fail
        go_roundw
        case rel => exact ⟨1, _, _, _, L, by omega, by omega, by go_num, rfl, rfl, rfl, hown2, hd3, hbel2⟩
        case measure => first | (simp [intOf]; done) | (simp [intOf]; omega)
    · have hfin := Lib.hid (hdef.out.trans (by rw [segsK_end (l := []) hle, List.append_nil]))
      go_wp2
      go_ret
      refine ⟨_, rfl, ?_, Below.then hB1 hbel⟩
      rw [hfin.out]
      exact own_mono hown hB1.size
theorem segments_any (s : ByteArray) (o x y : Int) (l : List (Int × Int)) (a : Option Addr) (cap : Nat) (w : World) (hl : l.length ≤ 1000000) (ha : ShAt w a l) :
    Calls Tryz.prog 216 #[.agg #[.string s, .int .i64 o, .slice a l.length cap], .agg #[.int .i64 x, .int .i64 y]] w fun e w' =>
      ∃ v, e = .returned v ∧ w'.ownsRow w.heap.size 253 3 v (segsP 0 o l x y).length (segCells (segsP 0 o l x y)) ∧ Below w.heap.size w w' := by
  rcases ha with rfl | ⟨b, off, rfl, hb, hc⟩
  · exact segments_nil s o x y a cap w
  · exact segments_walk s o x y l b off cap w hl hb hc

theorem info3 : (Tryz.prog.info? 3).map (fun i => (i.zero, i.size, i.bytes)) = some (some (.int .i64 0), 1, 8) := by kernel_rfl
theorem segCells_at (L : List (Int × Int × Int)) : ∀ k, k < L.length → (segCells L)[k * 3]? = some (.int .i64 (segAt L k).1) ∧ (segCells L)[k * 3 + 1]? = some (.int .i64 (segAt L k).2.1) ∧ (segCells L)[k * 3 + 2]? = some (.int .i64 (segAt L k).2.2) := by
  induction L with
  | nil => intro k h; simp at h
  | cons g L ih =>
    intro k h
    cases k with
    | zero => simp [segCells, segAt]
    | succ k =>
      have := ih k (by simpa using h)
      have e : segCells (g :: L) = [.int .i64 g.1, .int .i64 g.2.1, .int .i64 g.2.2] ++ segCells L := by simp [segCells]
      have e2 : segAt (g :: L) (k + 1) = segAt L k := by simp [segAt]
      rw [e, e2]
      refine ⟨?_, ?_, ?_⟩
      · rw [List.getElem?_append_right (by simp; omega)]; simpa [show (k + 1) * 3 - 3 = k * 3 by omega] using this.1
      · rw [List.getElem?_append_right (by simp; omega)]; simpa [show (k + 1) * 3 + 1 - 3 = k * 3 + 1 by omega] using this.2.1
      · rw [List.getElem?_append_right (by simp; omega)]; simpa [show (k + 1) * 3 + 2 - 3 = k * 3 + 2 by omega] using this.2.2
/-- the cells of a row of segments -/
def SegRow (w : World) (g : Nat) (L : List (Int × Int × Int)) : Prop :=
  g < w.heap.size ∧ ∀ k, k < L.length → w.cell? ⟨g, k * 3, none⟩ = some (.int .i64 (segAt L k).1) ∧ w.cell? ⟨g, k * 3 + 1, none⟩ = some (.int .i64 (segAt L k).2.1) ∧ w.cell? ⟨g, k * 3 + 2, none⟩ = some (.int .i64 (segAt L k).2.2)
theorem add_zero_off (g j : Nat) : Addr.add ⟨g, 0, none⟩ j = ⟨g, j, none⟩ := by
  unfold Addr.add; split
  · next h => rw [h]
  · simp
theorem SegRow.below {w w' : World} {g : Nat} {L : List (Int × Int × Int)} (h : SegRow w g L) (hb : Below w.heap.size w w') : SegRow w' g L :=
  ⟨Nat.lt_of_lt_of_le h.1 hb.size, fun k hk => ⟨(hb.cell (p := ⟨g, k * 3, none⟩) h.1).trans (h.2 k hk).1, (hb.cell (p := ⟨g, k * 3 + 1, none⟩) h.1).trans (h.2 k hk).2.1, (hb.cell (p := ⟨g, k * 3 + 2, none⟩) h.1).trans (h.2 k hk).2.2⟩⟩
/-- what 'segments' returns: nil, or a row -/
theorem segs_of_own {w : World} {base : Nat} {v : Value} {L : List (Int × Int × Int)} (h : w.ownsRow base 253 3 v L.length (segCells L)) :
    (v = .slice none 0 0 ∧ L = []) ∨ ∃ g cap, v = .slice (some ⟨g, 0, none⟩) L.length cap ∧ SegRow w g L := by
  rcases h.2 with ⟨hv, hn⟩ | ⟨g, cap, cur, hv, hr⟩
  · exact .inl ⟨hv, List.length_eq_zero_iff.1 hn⟩
  · have hown : v.ownBlock = some g := by rw [hv]; rfl
    have hlt := (h.lt g hown).2
    have hc := h.cells hown
    refine .inr ⟨g, cap, hv, hlt, fun k hk => ?_⟩
    obtain ⟨h1, h2, h3⟩ := segCells_at L k hk
    have c1 := hc _ _ h1
    have c2 := hc _ _ h2
    have c3 := hc _ _ h3
    rw [add_zero_off] at c1 c2 c3
    exact ⟨c1, c2, c3⟩

end Go.Proofs.YtpgbckgjlgecpaaGreat
/- zone: by conv.py from the texts of the zone seat -/
namespace Go.Proofs.YtpgbckgjlgecpaaGreat
open Go.RowKit Go.Sort
set_option linter.unusedSimpArgs false
set_option linter.unusedVariables false
set_option maxRecDepth 100000
/-- a row of the call's own, behind a call that leaves all as it was -/
theorem own_below {w1 wr w2 : World} {e : TypeId} {size : Nat} {v : Value} {n : Nat} {xs : List Value} (h : wr.ownsRow w1.heap.size e size v n xs) (_hb : Below w1.heap.size w1 wr) (hb2 : Below wr.heap.size wr w2) : w2.ownsRow w1.heap.size e size v n xs := by
  refine ⟨h.1, ?_⟩
  rcases h.2 with h' | ⟨g, cap, cur, hv, hg, hh, r⟩
  · exact .inl h'
  · have hlt : g < wr.heap.size := (h.lt g (by rw [hv]; rfl)).2
    exact .inr ⟨g, cap, cur, hv, hg, (hb2.block g hlt).trans hh, r⟩

theorem info35 : (Tryz.prog.info? 50).map (fun i => (i.zero, i.size, i.bytes)) = some (some (.agg #[.int .i64 0, .int .i64 0]), 2, 16) := by kernel_rfl
def runCells (R : List (Int × Int)) : List Value := R.flatMap fun r => [.int .i64 r.1, .int .i64 r.2]
theorem runCells_snoc (R : List (Int × Int)) (a b : Int) : runCells (R ++ [(a, b)]) = runCells R ++ [.int .i64 a, .int .i64 b] := by simp [runCells]
theorem runCells_at (R : List (Int × Int)) : ∀ k, k < R.length → (runCells R)[k * 2]? = some (.int .i64 (runAt R k).1) ∧ (runCells R)[k * 2 + 1]? = some (.int .i64 (runAt R k).2) := by
  induction R with
  | nil => intro k h; simp at h
  | cons r R ih =>
    intro k h
    cases k with
    | zero => simp [runCells, runAt]
    | succ k =>
      have := ih k (by simpa using h)
      have e : runCells (r :: R) = [.int .i64 r.1, .int .i64 r.2] ++ runCells R := by simp [runCells]
      have e2 : runAt (r :: R) (k + 1) = runAt R k := by simp [runAt]
      rw [e, e2]
      refine ⟨?_, ?_⟩
      · rw [List.getElem?_append_right (by simp; omega)]; simpa [show (k + 1) * 2 - 2 = k * 2 by omega] using this.1
      · rw [List.getElem?_append_right (by simp; omega)]; simpa [show (k + 1) * 2 + 1 - 2 = k * 2 + 1 by omega] using this.2
theorem runCells_set (R : List (Int × Int)) (b : Int) : ∀ k, k < R.length → (runCells R).set (k * 2 + 1) (.int .i64 b) = runCells (R.set k ((runAt R k).1, b)) := by
  induction R with
  | nil => intro k h; simp at h
  | cons r R ih =>
    intro k h
    cases k with
    | zero => simp [runCells, runAt]
    | succ k =>
      have := ih k (by simpa using h)
      have e : ∀ (r : Int × Int) R, runCells (r :: R) = .int .i64 r.1 :: .int .i64 r.2 :: runCells R := by simp [runCells]
      have e2 : runAt (r :: R) (k + 1) = runAt R k := by simp [runAt]
      rw [e2, List.set_cons_succ, e r R, e r (R.set k _), ← this, show (k + 1) * 2 + 1 = (k * 2 + 1) + 1 + 1 by omega, List.set_cons_succ, List.set_cons_succ]

/-- a row of spans is no box of a segment -/
theorem own_ne {w : World} {base : Nat} {v : Value} {n : Nat} {xs : List Value} {bx : Nat} {c : Array Value} (h : w.ownsRow base 50 2 v n xs) (hb : w.heap[bx]? = some (.cells c 253)) : some bx ≠ v.ownBlock := by
  rcases h.2 with ⟨rfl, _⟩ | ⟨g, cap, cur, rfl, hg, hh, _⟩
  · simp [Value.ownBlock]
  · intro e
    simp [Value.ownBlock] at e
    subst e
    rw [hb] at hh
    simp at hh
theorem box_cell {w : World} {bx : Nat} {c : Array Value} (hb : w.heap[bx]? = some (.cells c 253)) (i : Nat) : w.cell? ⟨bx, i, none⟩ = c[i]? := by
  simp [World.cell?, hb]
theorem box_lt {w : World} {bx : Nat} {o : Obj} (hb : w.heap[bx]? = some o) : bx < w.heap.size := (Array.getElem?_eq_some_iff.1 hb).1
theorem box_grown {w w' : World} {bx : Nat} {o : Obj} {row : Option Nat} (hb : w.heap[bx]? = some o) (hg : w.grownBy w' row) (hne : some bx ≠ row) : w'.heap[bx]? = some o :=
  (hg.block bx (box_lt hb) hne).trans hb
theorem box_alloc {w : World} {bx : Nat} {o : Obj} (hb : w.heap[bx]? = some o) (o' : Obj) : (w.alloc o').heap[bx]? = some o := (Below.heap_alloc _ _ _ (box_lt hb)).trans hb

set_option maxRecDepth 100000 in
set_option maxHeartbeats 4000000 in
theorem bandRuns_any (s : ByteArray) (o x y fr to : Int) (l : List (Int × Int)) (a : Option Addr) (cap : Nat) (w : World) (hl : l.length ≤ 1000000) (ha : ShAt w a l) (hv : valZone s.data.toList o l = 0) (hfr : 0 ≤ fr ∧ fr < 1440) (hto : 0 ≤ to ∧ to < 1440) :
    Calls Tryz.prog 191 #[.agg #[.string s, .int .i64 o, .slice a l.length cap], .agg #[.int .i64 x, .int .i64 y], .int .i64 fr, .int .i64 to] w fun e w' =>
      ∃ v, e = .returned (.tuple #[v, .int .i64 (bandLen fr to)]) ∧ w'.ownsRow w.heap.size 50 2 v (bandZ o l x y fr to).length (runCells (bandZ o l x y fr to)) ∧ Below w.heap.size w w' := by
  have hA := Lib.hid (fun W (h : Below w.heap.size w W) => ha.below h)
  have hok := Lib.hid (segsP_ok l 0 o x y (okay_of hv) (Int.le_refl _) (valZone_zero hv).2.1)
  have hlen := segsP_len l 0 o x y
  clear ha hv
  obtain ⟨hf1, hf2⟩ := hfr
  obtain ⟨ht1, ht2⟩ := hto
  obtain ⟨i0, hi, hz0, hz1, hz2⟩ := info_parts info35
  by_cases h0 : bandLen fr to = 0
  · have hz := Lib.hid (show bandZ o l x y fr to = [] from if_pos h0)
    have h0' := Lib.hid h0
    have hb0 : ((to - fr + 1440) % 1440 == 0) = true := by simpa [bandLen] using h0
    clear h0
    go_enter Tryz.func191, Tryz.ntmps191
    go_wp2_with fail
    go_ret2
    exact ⟨_, by rw [h0'.out]; rfl, by rw [hz.out]; exact ⟨rfl, .inl ⟨rfl, rfl⟩⟩, Below.then (below_new _ _) (below_new _ _)⟩
  have hz := Lib.hid (show bandZ o l x y fr to = allRuns fr (bandLen fr to) (segsP 0 o l x y) [] from if_neg h0)
  have hb0 : ((to - fr + 1440) % 1440 == 0) = false := by simpa [bandLen] using h0
  have hln1 : 0 < bandLen fr to := by unfold bandLen at *; omega
  have hln2 : bandLen fr to < 1440 := by unfold bandLen; omega
  clear h0
  go_enter Tryz.func191, Tryz.ntmps191
  go_wp2_with fail
  rw [show (to - fr + 1440) % 1440 = bandLen fr to from rfl]
  clear hb0
  generalize hlne : bandLen fr to = ln at *
  have Hln := Lib.hid hlne
  clear hlne
  obtain ⟨zb, sb, hbW⟩ := boxes w s o a l.length cap x y
  generalize ((w.alloc (Obj.cells #[Value.string s, Value.int IntKind.i64 o, Value.slice a l.length cap] 85)).alloc (Obj.cells #[Value.int IntKind.i64 x, Value.int IntKind.i64 y] 50)) = W at *
  refine (segments_any s o x y l a cap _ hl (hA.out _ hbW)).mono ?_
  rintro e w2 ⟨v, rfl, hown, hb2⟩
  have hB2 := Below.then hbW hb2
  clear hb2 hbW zb sb
  generalize segsP 0 o l x y = L at *
  rcases segs_of_own hown with ⟨rfl, rfl⟩ | ⟨g, cap', rfl, hrow⟩
  · clear hown
    go_wp2_with fail
    go_loop [11, 34] (fun m i => m = .slice none 0 0 ∧ i = .int .i64 0) (fun _ _ => 0)
    case atStart => exact ⟨rfl, rfl⟩
    case round =>
      obtain ⟨rfl, rfl⟩ := hrel
      go_wp2
      go_ret2
      exact ⟨_, by rw [Hln.out]; rfl, by rw [hz.out]; exact ⟨rfl, .inl ⟨rfl, rfl⟩⟩, hB2⟩
  clear hown
  go_wp2_with fail
  go_loopw [11, 34] (fun out i wr => ∃ (k : Nat) (v : Value) (R : List (Int × Int)), k ≤ L.length ∧ R.length ≤ k * 40000 ∧ i = .int .i64 k ∧ out = v ∧
    wr.ownsRow w2.heap.size 50 2 v R.length (runCells R) ∧ Hid (allRuns fr ln L [] = allRuns fr ln (L.drop k) R) ∧ Below w2.heap.size w2 wr) (fun _ i _ => L.length - (intOf i).toNat)
  case atStart => exact ⟨0, _, [], Nat.zero_le _, Nat.le_refl _, rfl, rfl, ⟨rfl, .inl ⟨rfl, rfl⟩⟩, Lib.hid rfl, Below.refl _ _⟩
  case round =>
    obtain ⟨k, v, R, hk, hR, rfl, rfl, hown, hdef, hbel⟩ := hrel
    by_cases hlt : k < L.length
    · obtain ⟨c1, c2, c3⟩ := (hrow.below hbel).2 k hlt
      have hgr := (hrow.below hbel).1
      obtain ⟨s1, s2, s3, s4, s5⟩ := hok.out _ (segAt_mem L k hlt)
      obtain ⟨e1, e2, e3, e4, e5⟩ := segDay_bd (hok.out _ (segAt_mem L k hlt))
      have hdx := Lib.hid (hdef.out.trans (allRuns_step hlt))
      have E3 := Lib.hid e3
      clear e3
      go_wp2_with (go_at_call 172; refine (split_any _ _ (by omega) (by omega)).mono ?_; rintro e w' ⟨rfl, rfl⟩)
      generalize hwb : wr.alloc (Obj.cells #[Value.int IntKind.i64 (segAt L k).1, Value.int IntKind.i64 (segAt L k).2.1, Value.int IntKind.i64 (segAt L k).2.2] 253) = wb
      have hbb : Below wr.heap.size wr wb := by rw [← hwb]; exact below_new _ _
      have hbox : wb.heap[wr.heap.size]? = some (.cells #[.int .i64 (segAt L k).1, .int .i64 (segAt L k).2.1, .int .i64 (segAt L k).2.2] 253) := by rw [← hwb]; exact heap_new _ _
      have hbelb := hbel.trans (hbb.mono hbel.size)
      have hownb : wb.ownsRow w2.heap.size 50 2 u11 R.length (runCells R) := by rw [← hwb]; exact hown.alloc _
      clear hwb c1 c2 c3 hown hbb
      generalize hg : segAt L k = G at *
      rw [show (G.1 + G.2.2) / 1440 - 1 = segDay G from rfl]
      generalize hlast : (G.2.1 - 1 + G.2.2) / 1440 = lastd at *
      have Hg := Lib.hid hg
      have Hlast := Lib.hid hlast
      clear hg hlast
      generalize hN : segN G = N at *
      have HN := Lib.hid hN
      clear hN
      have hsr := Lib.hid (show segRuns G fr ln R = dayRuns G fr ln N (segDay G) R from by unfold segRuns; rw [HN.out])
      have e3 := E3.out
      have e6 : (N : Int) ≤ lastd - segDay G + 1 := by omega
      have e7 : lastd - segDay G + 1 ≤ (N : Int) := by omega
      clear e3
      generalize wr.heap.size = bx at *
      go_loopw [11, 18] (fun out d wi => ∃ (j : Nat) (v : Value) (Q : List (Int × Int)), j ≤ N ∧ Q.length ≤ k * 40000 + j ∧ d = .int .i64 (segDay G + j) ∧ out = v ∧
        wi.ownsRow w2.heap.size 50 2 v Q.length (runCells Q) ∧ Hid (segRuns G fr ln R = dayRuns G fr ln (N - j) (segDay G + j) Q) ∧ wi.heap[bx]? = some (.cells #[.int .i64 G.1, .int .i64 G.2.1, .int .i64 G.2.2] 253) ∧ Below w2.heap.size w2 wi) (fun _ d _ => (lastd + 1 - intOf d).toNat)
      case atStart => exact ⟨0, _, R, Nat.zero_le _, by omega, by simp, rfl, hownb, Lib.hid (by simpa using hsr.out), hbox, hbelb⟩
      case round =>
        obtain ⟨j, v, Q, hj, hQ, rfl, rfl, hownQ, hdefQ, hbx, hbi⟩ := hrel
        by_cases hjl : j < N
        · have E1 := Lib.hid (show N - j - 1 = N - (j + 1) ∧ segDay G + (j : Int) + 1 = segDay G + ((j + 1 : Nat) : Int) from by omega)
          have hdq := Lib.hid (hdefQ.out.trans (dayRuns_step (by omega)))
          by_cases hAB : dayLo G fr (segDay G + j) < dayHi G fr ln (segDay G + j)
          · have hdr := Lib.hid (hdq.out.trans (by rw [day1_yes hAB]))
            rcases hownQ.2 with ⟨rfl, hn0⟩ | ⟨g', cap2, cur, rfl, hbase, hrest⟩
            · obtain rfl := List.length_eq_zero_iff.1 hn0
              have hd3 := Lib.hid (hdr.out.trans (by rw [addRun_new (by simp)]))
              clear hn0
              have p1 := box_cell hbx 0
              have p2 := box_cell hbx 1
              have p3 := box_cell hbx 2
              simp only [List.getElem?_toArray, List.getElem?_cons_zero, List.getElem?_cons_succ] at p1 p2 p3
              go_wp2_with fail
              go_quiet (fail)
              have hbi2 : Below w2.heap.size w2 (wr.drewN nq) := below_drewN hbi _
              have hbx2 : (wr.drewN nq).heap[bx]? = _ := hbx
              have hown2 : (wr.drewN nq).ownsRow w2.heap.size 50 2 (.slice none 0 0) 0 (runCells []) := hownQ
              simp only [show (if (segDay G + (j : Int)) * 1440 + fr - G.2.2 < G.1 then G.1 else (segDay G + (j : Int)) * 1440 + fr - G.2.2) = dayLo G fr (segDay G + j) from rfl, show (if G.2.1 < (segDay G + (j : Int)) * 1440 + fr - G.2.2 + ln then G.2.1 else (segDay G + (j : Int)) * 1440 + fr - G.2.2 + ln) = dayHi G fr ln (segDay G + j) from rfl]
              generalize dayLo G fr (segDay G + j) = A at *
              generalize dayHi G fr ln (segDay G + j) = B at *
              generalize wr.drewN nq = wd at *
              clear p1 p2 p3
              go_wp2_with (at_builtin; refine wpList_append_own _ rfl _ _ 229 rfl w2.heap.size 50 i0 (.agg #[.int .i64 0, .int .i64 0]) 2 16 Tryz.underlying229 hi hz0 hz1 hz2 rfl (by decide) _ _ _ rfl (hown2.alloc _) ⟨wd.heap.size, 0, none⟩ 1 1 [.int .i64 A, .int .i64 B] rfl rfl ?c1 ?c2 ?c3 ?c4 ?c5 ?_)
              case c1 => exact fresh_cells wd [.int .i64 A, .int .i64 B] 50
              case c2 => intro u hu; simp at hu; rcases hu with rfl | rfl <;> rfl
              case c3 => unfold maxLen; omega
              case c4 => omega
              case c5 => have := hbi2.size; simp; omega
              intro v' w3 hown' hgrow _
              have hbel3 := below_append (e' := 50) hbi2 rfl hown2 hgrow
              have hbox3 := box_grown (box_alloc hbx2 _) hgrow (own_ne hown2 hbx2)
              go_wp2_with fail
              go_roundw
              case rel => exact ⟨j + 1, _, [] ++ [(A, B)], by omega, by simp; omega, by go_num, rfl, by simpa [runCells] using hown', Lib.hid (by rw [hd3.out, E1.out.1, E1.out.2]), hbox3, hbel3⟩
              case measure => simp [intOf]; omega
            · clear hbase hrest
              by_cases hQ0 : Q.length = 0
              · obtain rfl := List.length_eq_zero_iff.1 hQ0
                have hd3 := Lib.hid (hdr.out.trans (by rw [addRun_new (by simp)]))
                clear hQ0
                have p1 := box_cell hbx 0
                have p2 := box_cell hbx 1
                have p3 := box_cell hbx 2
                simp only [List.getElem?_toArray, List.getElem?_cons_zero, List.getElem?_cons_succ] at p1 p2 p3
                go_wp2_with fail
                go_quiet (fail)
                have hbi2 : Below w2.heap.size w2 (wr.drewN nq) := below_drewN hbi _
                have hbx2 : (wr.drewN nq).heap[bx]? = _ := hbx
                have hown2 : (wr.drewN nq).ownsRow w2.heap.size 50 2 (.slice (some ⟨g', 0, none⟩) 0 cap2) 0 (runCells []) := hownQ
                simp only [show (if (segDay G + (j : Int)) * 1440 + fr - G.2.2 < G.1 then G.1 else (segDay G + (j : Int)) * 1440 + fr - G.2.2) = dayLo G fr (segDay G + j) from rfl, show (if G.2.1 < (segDay G + (j : Int)) * 1440 + fr - G.2.2 + ln then G.2.1 else (segDay G + (j : Int)) * 1440 + fr - G.2.2 + ln) = dayHi G fr ln (segDay G + j) from rfl]
                generalize dayLo G fr (segDay G + j) = A at *
                generalize dayHi G fr ln (segDay G + j) = B at *
                generalize wr.drewN nq = wd at *
                clear p1 p2 p3
                go_wp2_with (at_builtin; refine wpList_append_own _ rfl _ _ 229 rfl w2.heap.size 50 i0 (.agg #[.int .i64 0, .int .i64 0]) 2 16 Tryz.underlying229 hi hz0 hz1 hz2 rfl (by decide) _ _ _ rfl (hown2.alloc _) ⟨wd.heap.size, 0, none⟩ 1 1 [.int .i64 A, .int .i64 B] rfl rfl ?c1 ?c2 ?c3 ?c4 ?c5 ?_)
                case c1 => exact fresh_cells wd [.int .i64 A, .int .i64 B] 50
                case c2 => intro u hu; simp at hu; rcases hu with rfl | rfl <;> rfl
                case c3 => unfold maxLen; omega
                case c4 => omega
                case c5 => have := hbi2.size; simp; omega
                intro v' w3 hown' hgrow _
                have hbel3 := below_append (e' := 50) hbi2 rfl hown2 hgrow
                have hbox3 := box_grown (box_alloc hbx2 _) hgrow (own_ne hown2 hbx2)
                go_wp2_with fail
                go_roundw
                case rel => exact ⟨j + 1, _, [] ++ [(A, B)], by omega, by simp; omega, by go_num, rfl, by simpa [runCells] using hown', Lib.hid (by rw [hd3.out, E1.out.1, E1.out.2]), hbox3, hbel3⟩
                case measure => simp [intOf]; omega
              · obtain ⟨m, hm⟩ : ∃ m, Q.length = m + 1 := ⟨Q.length - 1, by omega⟩
                have hq1 := runCells_at Q m (by omega)
                have hQm := Lib.hid (show Q.length - 1 = m from by omega)
                by_cases hjn : (runAt Q m).2 = dayLo G fr (segDay G + j)
                · have hd3 := Lib.hid (hdr.out.trans (by rw [addRun_join (by omega) (by rw [hQm.out]; exact hjn), hQm.out]))
                  have hset := Lib.hid (runCells_set Q (dayHi G fr ln (segDay G + j)) m (by omega))
                  have hjb : ((runAt Q m).2 == dayLo G fr (segDay G + j)) = true := by simpa using hjn
                  have Hm := Lib.hid hm
                  rw [hm] at hownQ hQ
                  clear hjn hQ0
                  have hcell := (World.ownsRow.cells hownQ (g := g') rfl) (m * 2 + 1) _ hq1.2
                  rw [add_zero_off] at hcell
                  have hfrz := World.ownsRow.frozenAt hownQ (m * 2 + 1)
                  clear hq1 hm
                  simp only [Hm.out]
                  have p1 := box_cell hbx 0
                  have p2 := box_cell hbx 1
                  have p3 := box_cell hbx 2
                  simp only [List.getElem?_toArray, List.getElem?_cons_zero, List.getElem?_cons_succ] at p1 p2 p3
                  go_wp2_with fail
                  go_quiet (fail)
                  have hbi2 : Below w2.heap.size w2 (wr.drewN nq) := below_drewN hbi _
                  have hbx2 : (wr.drewN nq).heap[bx]? = _ := hbx
                  have hown2 : (wr.drewN nq).ownsRow w2.heap.size 50 2 (.slice (some ⟨g', 0, none⟩) (m + 1) cap2) (m + 1) (runCells Q) := hownQ
                  have hcell2 : (wr.drewN nq).cell? ⟨g', m * 2 + 1, none⟩ = _ := hcell
                  have hfrz2 : (wr.drewN nq).frozen? ⟨g', m * 2 + 1, none⟩ = false := hfrz
                  simp only [show (if (segDay G + (j : Int)) * 1440 + fr - G.2.2 < G.1 then G.1 else (segDay G + (j : Int)) * 1440 + fr - G.2.2) = dayLo G fr (segDay G + j) from rfl, show (if G.2.1 < (segDay G + (j : Int)) * 1440 + fr - G.2.2 + ln then G.2.1 else (segDay G + (j : Int)) * 1440 + fr - G.2.2 + ln) = dayHi G fr ln (segDay G + j) from rfl]
                  generalize dayLo G fr (segDay G + j) = A at *
                  generalize dayHi G fr ln (segDay G + j) = B at *
                  generalize wr.drewN nq = wd at *
                  clear p1 p2 p3 hcell hfrz hownQ
                  go_wp2_with fail
                  have hst := hown2.stored (m * 2 + 1) (.int .i64 B)
                  rw [hset.out] at hst
                  have hbel3 := hbi2.grown hst.2 hbi2.size (fun q hq => own_base hown2 q hq)
                  have hbox3 := box_grown hbx2 hst.2 (own_ne hown2 hbx2)
                  go_roundw
                  case rel => exact ⟨j + 1, _, Q.set m ((runAt Q m).1, B), by omega, by rw [List.length_set, Hm.out]; omega, by go_num, rfl, by rw [List.length_set, Hm.out]; exact hst.1, Lib.hid (by rw [hd3.out, E1.out.1, E1.out.2]), hbox3, hbel3⟩
                  case measure => simp [intOf]; omega
                · have hd3 := Lib.hid (hdr.out.trans (by rw [addRun_new (fun h => hjn (by rw [← h.2, hQm.out]))]))
                  have hjb : ((runAt Q m).2 == dayLo G fr (segDay G + j)) = false := by simpa using hjn
                  have Hm := Lib.hid hm
                  rw [hm] at hownQ hQ
                  clear hjn hQ0
                  have hcell := (World.ownsRow.cells hownQ (g := g') rfl) (m * 2 + 1) _ hq1.2
                  rw [add_zero_off] at hcell
                  have hfrz := World.ownsRow.frozenAt hownQ (m * 2 + 1)
                  clear hq1 hm
                  simp only [Hm.out]
                  have p1 := box_cell hbx 0
                  have p2 := box_cell hbx 1
                  have p3 := box_cell hbx 2
                  simp only [List.getElem?_toArray, List.getElem?_cons_zero, List.getElem?_cons_succ] at p1 p2 p3
                  go_wp2_with fail
                  go_quiet (fail)
                  have hbi2 : Below w2.heap.size w2 (wr.drewN nq) := below_drewN hbi _
                  have hbx2 : (wr.drewN nq).heap[bx]? = _ := hbx
                  have hown2 : (wr.drewN nq).ownsRow w2.heap.size 50 2 (.slice (some ⟨g', 0, none⟩) (m + 1) cap2) (m + 1) (runCells Q) := hownQ
                  have hcell2 : (wr.drewN nq).cell? ⟨g', m * 2 + 1, none⟩ = _ := hcell
                  have hfrz2 : (wr.drewN nq).frozen? ⟨g', m * 2 + 1, none⟩ = false := hfrz
                  simp only [show (if (segDay G + (j : Int)) * 1440 + fr - G.2.2 < G.1 then G.1 else (segDay G + (j : Int)) * 1440 + fr - G.2.2) = dayLo G fr (segDay G + j) from rfl, show (if G.2.1 < (segDay G + (j : Int)) * 1440 + fr - G.2.2 + ln then G.2.1 else (segDay G + (j : Int)) * 1440 + fr - G.2.2 + ln) = dayHi G fr ln (segDay G + j) from rfl]
                  generalize dayLo G fr (segDay G + j) = A at *
                  generalize dayHi G fr ln (segDay G + j) = B at *
                  generalize wr.drewN nq = wd at *
                  clear p1 p2 p3 hcell hfrz hownQ
                  go_wp2_with (at_builtin; refine wpList_append_own _ rfl _ _ 229 rfl w2.heap.size 50 i0 (.agg #[.int .i64 0, .int .i64 0]) 2 16 Tryz.underlying229 hi hz0 hz1 hz2 rfl (by decide) _ _ _ rfl (hown2.alloc _) ⟨wd.heap.size, 0, none⟩ 1 1 [.int .i64 A, .int .i64 B] rfl rfl ?c1 ?c2 ?c3 ?c4 ?c5 ?_)
                  case c1 => exact fresh_cells wd [.int .i64 A, .int .i64 B] 50
                  case c2 => intro u hu; simp at hu; rcases hu with rfl | rfl <;> rfl
                  case c3 => unfold maxLen; omega
                  case c4 => omega
                  case c5 => have := hbi2.size; simp; omega
                  intro v' w3 hown' hgrow _
                  have hbel3 := below_append (e' := 50) hbi2 rfl hown2 hgrow
                  have hbox3 := box_grown (box_alloc hbx2 _) hgrow (own_ne hown2 hbx2)
                  go_wp2_with fail
                  go_roundw
                  case rel => exact ⟨j + 1, _, Q ++ [(A, B)], by omega, by rw [List.length_append, List.length_singleton, Hm.out]; omega, by go_num, rfl, by rw [List.length_append, List.length_singleton, Hm.out, runCells_snoc]; exact hown', Lib.hid (by rw [hd3.out, E1.out.1, E1.out.2]), hbox3, hbel3⟩
                  case measure => simp [intOf]; omega
          · have hd3 := Lib.hid (hdq.out.trans (by rw [day1_no hAB]))
            have p1 := box_cell hbx 0
            have p2 := box_cell hbx 1
            have p3 := box_cell hbx 2
            simp only [List.getElem?_toArray, List.getElem?_cons_zero, List.getElem?_cons_succ] at p1 p2 p3
            go_wp2_with fail
            go_quiet (fail)
            have hbi2 : Below w2.heap.size w2 (wr.drewN nq) := below_drewN hbi _
            have hbx2 : (wr.drewN nq).heap[bx]? = _ := hbx
            have hown2 : (wr.drewN nq).ownsRow w2.heap.size 50 2 u11 Q.length (runCells Q) := hownQ
            simp only [show (if (segDay G + (j : Int)) * 1440 + fr - G.2.2 < G.1 then G.1 else (segDay G + (j : Int)) * 1440 + fr - G.2.2) = dayLo G fr (segDay G + j) from rfl, show (if G.2.1 < (segDay G + (j : Int)) * 1440 + fr - G.2.2 + ln then G.2.1 else (segDay G + (j : Int)) * 1440 + fr - G.2.2 + ln) = dayHi G fr ln (segDay G + j) from rfl]
            generalize dayLo G fr (segDay G + j) = A at *
            generalize dayHi G fr ln (segDay G + j) = B at *
            go_wp2_with fail
            go_roundw
            case rel => exact ⟨j + 1, _, Q, by omega, by omega, by go_num, rfl, hown2, Lib.hid (by rw [hd3.out, E1.out.1, E1.out.2]), hbx2, hbi2⟩
            case measure => simp [intOf]; omega
        · have hbelx := hbi
          have hjN : j = N := by omega
          have hfin := Lib.hid (hdefQ.out.trans (by rw [hjN, Nat.sub_self, dayRuns]))
          go_wp2_with fail
          go_roundw
          case rel => exact ⟨k + 1, _, Q, by omega, by omega, by go_num, rfl, hownQ, Lib.hid (by rw [hdx.out, hfin.out]), hbi⟩
          case measure => simp [intOf]; omega
    · have hf := Lib.hid (hdef.out.trans (allRuns_end hlt))
      go_wp2_with fail
      go_ret2
      refine ⟨_, by rw [Hln.out]; rfl, ?_, Below.then hB2 hbel⟩
      rw [hz.out, hf.out]
      exact own_mono hown hB2.size
end Go.Proofs.YtpgbckgjlgecpaaGreat
/- types.Attributes of rests -/
namespace Go.Proofs.YtpgbckgjlgecpaaGreat
open Go.RowKit Go.Sort
set_option linter.unusedVariables false
set_option linter.unusedSimpArgs false
set_option maxRecDepth 100000
def preNames : List ByteArray := [⟨#[98, 101, 102, 111, 114, 101, 46]⟩, ⟨#[97, 102, 116, 101, 114, 46]⟩]
def rest3 : List ByteArray := [⟨#[114, 101, 115, 116]⟩, ⟨#[110, 105, 103, 104, 116, 115]⟩, ⟨#[104, 111, 109, 101]⟩]
def rstK (k : Nat) : List ByteArray := rest3 ++ (preNames.take k).flatMap fun p => dutyNames.map (p ++ ·)
def rstJ (k j : Nat) : List ByteArray := rstK k ++ (dutyNames.take j).map (sAt preNames k ++ ·)
theorem rstK_two : rstK 2 = restNames := rfl
theorem rstJ_zero (k : Nat) : rstJ k 0 = rstK k := by simp [rstJ]
theorem rstJ_succ (k j : Nat) (hj : j < 11) : rstJ k (j + 1) = rstJ k j ++ [sAt preNames k ++ sAt dutyNames j] := by
  have : dutyNames.take (j + 1) = dutyNames.take j ++ [sAt dutyNames j] := by
    rw [List.take_succ_eq_append_getElem (show j < dutyNames.length from hj)]
    simp [sAt, show j < dutyNames.length from hj]
  simp [rstJ, this]
theorem rstJ_all (k : Nat) (hk : k < 2) : rstJ k 11 = rstK (k + 1) := by
  match k, hk with
  | 0, _ => rfl
  | 1, _ => rfl
theorem rstJ_len (k j : Nat) (hk : k < 2) (hj : j ≤ 11) : (rstJ k j).length = 3 + 11 * k + j := by
  have h1 : dutyNames.length = 11 := rfl
  match k, hk with
  | 0, _ => simp [rstJ, rstK, rest3, h1]; omega
  | 1, _ => simp [rstJ, rstK, rest3, preNames, h1]; omega
theorem rstJ_head (k j : Nat) : ((rstJ k j).map Value.string)[0]? = some (.string ⟨#[114, 101, 115, 116]⟩) := rfl
theorem own_neq {w : World} {base : Nat} {e : TypeId} {v : Value} {n : Nat} {xs : List Value} (h : w.ownsRow base e 1 v n xs) {x y : Value} {b : Nat} (h0 : xs[0]? = some x) (hc : w.cell? ⟨b, 0, none⟩ = some y) (hne : x ≠ y) : v.ownBlock ≠ some b := by
  rcases h.2 with ⟨rfl, _⟩ | ⟨g, cap, cur, rfl, _, hg, _, _, _, ht⟩
  · simp [Value.ownBlock]
  · intro hb
    simp [Value.ownBlock] at hb
    subst hb
    have : cur[0]? = some x := by
      rw [← ht] at h0
      rw [List.getElem?_take] at h0
      split at h0
      · simpa using h0
      · simp at h0
    simp [World.cell?, hg] at hc
    rw [this] at hc
    exact hne (by simpa using hc)
theorem StrCells.grown {w w' : World} {b off : Nat} {l : List ByteArray} {row : Option Nat} (h : StrCells w b off l) (hb : b < w.heap.size) (hw : w.grownBy w' row) (hne : row ≠ some b) : StrCells w' b off l := by
  intro i hi
  have e := hw.block b hb (Ne.symm hne)
  have := h i hi
  simp only [World.cell?, e] at this ⊢
  exact this
theorem pre_size : ∀ k, k < 2 → (sAt preNames k).size ≤ 7 := by decide
theorem duty_size : ∀ k, k < 11 → (sAt dutyNames k).size ≤ 8 := by decide
theorem infoStr : (Tryz.prog.info? 9).map (fun i => (i.zero, i.size, i.bytes)) = some (some (.string ByteArray.empty), 1, 16) := by kernel_rfl
set_option maxHeartbeats 1600000 in
theorem attributes_rest (w : World) : Calls Tryz.prog 108 #[.int .i64 2] w fun e w' => ∃ v, e = .returned v ∧ w'.ownsRow w.heap.size 9 1 v 25 (restNames.map Value.string) ∧ Below w.heap.size w w' := by
  obtain ⟨i0, hi, hz0, hz1, hz2⟩ := info_parts infoStr
  go_enter Tryz.func108, Tryz.ntmps108
  go_wp2_with fail
  obtain ⟨W, hW⟩ : ∃ W, W = ((w.alloc (.cells (rest3.map Value.string).toArray 9)).alloc (.cells (preNames.map Value.string).toArray 9)) := ⟨_, rfl⟩
  have HO := Lib.hid (show World.ownsRow ((w.alloc (.cells (rest3.map Value.string).toArray 9)).alloc (.cells (preNames.map Value.string).toArray 9)) w.heap.size 9 1 (.slice (some ⟨w.heap.size, 0, none⟩) 3 3) 3 ((rstK 0).map Value.string) from by
    refine ⟨rfl, .inr ⟨w.heap.size, 3, (rest3.map Value.string).toArray, rfl, Nat.le_refl _, ?_, Nat.le_refl _, by decide, rfl, rfl⟩⟩
    show ((w.heap.push _).push _)[w.heap.size]? = _
    simp [Array.getElem?_push])
  have HP := Lib.hid (StrCells.new (w.alloc (.cells (rest3.map Value.string).toArray 9)) preNames 9)
  have HB := Lib.hid (Below.then (below_new w (.cells (rest3.map Value.string).toArray 9)) (below_new _ (.cells (preNames.map Value.string).toArray 9)))
  have hs : w.heap.size + 1 < ((w.alloc (.cells (rest3.map Value.string).toArray 9)).alloc (.cells (preNames.map Value.string).toArray 9)).heap.size := by simp
  rw [show (w.alloc (.cells (rest3.map Value.string).toArray 9)).heap.size = w.heap.size + 1 from by simp] at HP
  rw [← hW] at HO HP HB hs
  change Code.wp _ _ _ _ ((w.alloc (.cells (rest3.map Value.string).toArray 9)).alloc (.cells (preNames.map Value.string).toArray 9))
  rw [← hW]
  clear hW
  go_loopw [3, 17] (fun out i wr => ∃ (k : Nat) (v : Value), k ≤ 2 ∧ i = .int .i64 k ∧ out = v ∧ Hid (wr.ownsRow w.heap.size 9 1 v (rstK k).length ((rstK k).map Value.string)) ∧ Hid (StrCells wr (w.heap.size + 1) 0 preNames) ∧ w.heap.size + 1 < wr.heap.size ∧ Hid (Below w.heap.size w wr)) (fun _ i _ => 2 - (intOf i).toNat)
  case atStart => exact ⟨0, _, Nat.zero_le _, rfl, rfl, HO, HP, hs, HB⟩
  clear HO HP HB hs
  clear W
  case round =>
    obtain ⟨k, v, hk, rfl, rfl, hO, hP, hs, hB⟩ := hrel
    by_cases hlt : k < 2
    · have c1 := hP.out k hlt
      rw [Nat.zero_add] at c1
      have hltI : (k : Int) < 2 := by omega
      go_wp2_with fail
      refine (attributes_duty _).mono ?_
      rintro e w1 ⟨⟨cp, rfl⟩, hs1, hN, hb1⟩
      have HN := Lib.hid hN
      have HP := Lib.hid (hP.out.below hs hb1)
      have HB := Lib.hid (Below.then hB.out hb1)
      have HO := Lib.hid (own_below hO.out hB.out hb1)
      rw [← rstJ_zero k] at HO
      have hs2 : w.heap.size + 1 < w1.heap.size := by omega
      clear hN hb1 hO hP hB c1
      obtain ⟨b, hb⟩ : ∃ b, b = wr.heap.size := ⟨_, rfl⟩
      rw [← hb] at hs1 HN hs
      simp only [← hb]
      clear hb
      clear wr
      go_wp2_with fail
      go_loopw [3, 23] (fun out i wr => ∃ (j : Nat) (v : Value), j ≤ 11 ∧ i = .int .i64 j ∧ out = v ∧ Hid (wr.ownsRow w.heap.size 9 1 v (rstJ k j).length ((rstJ k j).map Value.string)) ∧ Hid (StrCells wr (w.heap.size + 1) 0 preNames) ∧ Hid (StrCells wr b 0 dutyNames) ∧ (w.heap.size + 1 < wr.heap.size ∧ b < wr.heap.size) ∧ Hid (Below w.heap.size w wr)) (fun _ i _ => 11 - (intOf i).toNat)
      case atStart => exact ⟨0, _, Nat.zero_le _, rfl, rfl, HO, HP, HN, ⟨hs2, hs1⟩, HB⟩
      clear HO HP HN hs2 hs1 HB
      clear w1
      case round =>
        obtain ⟨j, v, hj, rfl, rfl, hO, hP, hN, ⟨hs1, hs2⟩, hB⟩ := hrel
        by_cases hjt : j < 11
        · have c1 := hN.out j hjt
          rw [Nat.zero_add] at c1
          have hjtI : (j : Int) < 11 := by omega
          have ne1 := own_neq hO.out (rstJ_head k j) (hN.out 0 (by decide)) (by simp [sAt, dutyNames])
          have ne2 := own_neq hO.out (rstJ_head k j) (hP.out 0 (by decide)) (by simp [sAt, preNames])
          have HLEN := Lib.hid (rstJ_len k j hlt hj)
          have hsz1 : (sAt preNames k).size ≤ 7 := pre_size k hlt
          have hsz2 : (sAt dutyNames j).size ≤ 8 := duty_size j hjt
          have hszz : ((sAt preNames k).size : Int) + ((sAt dutyNames j).size : Int) ≤ 9223372036854775807 := by omega
          have hszn : (sAt preNames k).size + (sAt dutyNames j).size ≤ 9223372036854775807 := by omega
          go_wp2_with (at_builtin; refine wpList_append_own _ rfl _ _ 165 rfl w.heap.size 9 i0 (.string ByteArray.empty) 1 16 Tryz.underlying165 hi hz0 hz1 hz2 rfl (by decide) _ _ _ rfl (hO.out.alloc _) ⟨wr.heap.size, 0, none⟩ 1 1 [.string (sAt preNames k ++ sAt dutyNames j)] rfl rfl ?c1 ?c2 ?c3 ?c4 ?c5 ?_)
          case c1 => exact fresh_cells wr [.string (sAt preNames k ++ sAt dutyNames j)] 9
          case c2 => intro u hu; simp at hu; subst hu; rfl
          case c3 => rw [HLEN.out]; unfold maxLen; omega
          case c4 => rw [HLEN.out]; omega
          case c5 => have := hB.out.size; simp; omega
          intro v' w1 hown' hgrow _
          have HB1 := Lib.hid (below_append (e' := 9) hB.out rfl hO.out hgrow)
          have HP1 := Lib.hid ((hP.out.below hs1 (below_new _ _)).grown (by simp; omega) hgrow ne2)
          have HN1 := Lib.hid ((hN.out.below hs2 (below_new _ _)).grown (by simp; omega) hgrow ne1)
          have hsz : wr.heap.size ≤ w1.heap.size := Nat.le_trans (by simp) hgrow.size
          have hs3 : w.heap.size + 1 < w1.heap.size := by omega
          have hs4 : b < w1.heap.size := by omega
          have HO1 := Lib.hid (show w1.ownsRow w.heap.size 9 1 v' (rstJ k (j + 1)).length ((rstJ k (j + 1)).map Value.string) by
            rw [rstJ_succ k j hjt, List.length_append, List.map_append]; exact hown')
          clear hown' hgrow ne1 ne2 HLEN hsz1 hsz2 hszz hszn hO hP hN hB hs1 hs2 hsz c1
          go_wp2_with fail
          go_roundw
          case rel => first | exact ⟨j + 1, _, by omega, by go_num, rfl, HO1, HP1, HN1, ⟨hs3, hs4⟩, HB1⟩ | ((repeat apply Exists.intro); exact ⟨⟨j + 1, _, by omega, by go_num, rfl, HO1, HP1, HN1, ⟨hs3, hs4⟩, HB1⟩, rfl⟩)
          case measure => simp [intOf]; omega
        · obtain rfl : j = 11 := by omega
          rw [rstJ_all k hlt] at hO
          go_wp2_with fail
          go_roundw
          case rel => exact ⟨k + 1, _, by omega, by go_num, rfl, hO, hP, hs1, hB⟩
          case measure => simp [intOf]; omega
    · obtain rfl : k = 2 := by omega
      go_wp2_with fail
      go_ret
      exact ⟨_, rfl, hO.out, hB.out⟩
end Go.Proofs.YtpgbckgjlgecpaaGreat
/- compiled expressions: plain; the compiler in memory -/
namespace Go.Proofs.YtpgbckgjlgecpaaGreat
open Go.RowKit Go.Sort
set_option linter.unusedVariables false
set_option linter.unusedSimpArgs false
set_option maxRecDepth 100000
/-- the first place of a word -/
def wi (l : List ByteArray) (s : ByteArray) : Option Nat := l.findIdx? fun x => decide (x = s)
def plA (k : Int) (s : ByteArray) : Option Nat := wi (attrNames k) s
mutual
def cmpE (cv : ByteArray → Int) (sc : Int) : ExprM → FormM
  | .mk o n s l => if o = 1 ∨ o = 2 ∨ o = 3 then .mk 1 n [] else if o = 4 then .mk 1 1 [] else if o = 5 then .mk 1 0 []
    else if o = 6 then (match plA sc s with | some i => .mk 6 i [] | none => .mk 1 (cv s) []) else .mk o 0 (cmpL cv sc l)
def cmpL (cv : ByteArray → Int) (sc : Int) : List ExprM → List FormM
  | [] => []
  | x :: l => cmpE cv sc x :: cmpL cv sc l
end
theorem cmpL_len (cv : ByteArray → Int) (sc : Int) : ∀ l, (cmpL cv sc l).length = l.length
  | [] => rfl
  | x :: l => by rw [cmpL, List.length_cons, List.length_cons, cmpL_len cv sc l]
theorem cmpL_take (cv : ByteArray → Int) (sc : Int) : ∀ (l : List ExprM) (k : Nat), k < l.length → cmpL cv sc (l.take (k + 1)) = cmpL cv sc (l.take k) ++ [cmpE cv sc (eAt l k)]
  | [], k, h => by simp at h
  | x :: l, 0, h => by simp [cmpL, eAt]
  | x :: l, k + 1, h => by
    have := cmpL_take cv sc l k (by simpa using h)
    simp only [List.take_succ_cons, cmpL, List.cons_append] at this ⊢
    rw [this]; rfl
def cvU (l : List ConstM) (T : List Int) (s : ByteArray) : Int := match fi l s with
  | some i => T.getD i 0
  | none => 0
def tabV (l : List ConstM) : Nat → List Int
  | 0 => []
  | i + 1 => tabV l i ++ [fval [] (cmpE (cvU l (tabV l i)) 0 (csAt l i).ex)]
/-- the value of constant i -/
def cval (l : List ConstM) (i : Nat) : Int := fval [] (cmpE (cvU l (tabV l i)) 0 (csAt l i).ex)
def cvC (l : List ConstM) (n : Nat) (s : ByteArray) : Int := match fi l s with
  | some i => if i < n then cval l i else 0
  | none => 0
theorem tabV_len (l : List ConstM) (n : Nat) : (tabV l n).length = n := by
  induction n with
  | zero => rfl
  | succ n ih => simp [tabV, ih]
theorem tabV_get (l : List ConstM) (n i : Nat) : (tabV l n).getD i 0 = if i < n then cval l i else 0 := by
  by_cases h : i < n
  · rw [if_pos h]
    induction n with
    | zero => omega
    | succ n ih =>
      rw [tabV, List.getD_eq_getElem?_getD]
      by_cases e : i = n
      · subst e
        rw [List.getElem?_append_right (by rw [tabV_len]; exact Nat.le_refl _), tabV_len]
        simp [cval]
      · rw [List.getElem?_append_left (by rw [tabV_len]; omega), ← List.getD_eq_getElem?_getD]
        exact ih (by omega)
  · rw [if_neg h, List.getD_eq_getElem?_getD, List.getElem?_eq_none (by rw [tabV_len]; omega)]; rfl
theorem cvU_eq (l : List ConstM) (n : Nat) : cvU l (tabV l n) = cvC l n := by
  funext s
  unfold cvU cvC
  cases fi l s with
  | none => rfl
  | some i => exact tabV_get l n i
theorem cval_eq (l : List ConstM) (i : Nat) : cval l i = fval [] (cmpE (cvC l i) 0 (csAt l i).ex) := by rw [cval, cvU_eq]

/-- a map from words to their first places -/
def WIdx (w : World) (b : Nat) (l : List ByteArray) : Prop := ∃ M, MapOf Tryz.prog w b .string M ∧ ∀ s, mget M (.string s) = (wi l s).map fun i => Value.int .i64 i
theorem WIdx.below {w w' : World} {b : Nat} {l : List ByteArray} (h : WIdx w b l) (hb : Below w.heap.size w w') : WIdx w' b l := by
  obtain ⟨M, h1, h2⟩ := h
  exact ⟨M, h1.below hb, h2⟩
theorem WIdx.grown {w w' : World} {b : Nat} {l : List ByteArray} {row : Option Nat} (h : WIdx w b l) (hg : w.grownBy w' row) (hne : some b ≠ row) : WIdx w' b l := by
  obtain ⟨M, h1, h2⟩ := h
  exact ⟨M, h1.grown hg hne, h2⟩
theorem WIdx.lt {w : World} {b : Nat} {l : List ByteArray} (h : WIdx w b l) : b < w.heap.size := by
  obtain ⟨M, h1, h2⟩ := h
  exact h1.lt
def wiN (l : List ByteArray) (s : ByteArray) : Nat := (wi l s).getD 0
def wiB (l : List ByteArray) (s : ByteArray) : Bool := (wi l s).isSome
theorem look_wi {w : World} {b : Nat} {l : List ByteArray} (h : WIdx w b l) (s : ByteArray) : (Instr.lookup 197 (.map (some b)) (.string s) true).run Tryz.prog w = .ok (.tuple #[.int .i64 (wiN l s), .bool (wiB l s)]) w := by
  obtain ⟨M, h1, h2⟩ := h
  rw [run_lookup_ok Tryz.underlying197 Tryz.underlying9 h1 (key := .string s) trivial (zeroInt _), h2]
  unfold wiN wiB
  cases wi l s <;> rfl
theorem wi_snoc {l : List ByteArray} {k : Nat} (hk : k < l.length) (s : ByteArray) : wi (l.take (k + 1)) s = match wi (l.take k) s with | some i => some i | none => if sAt l k = s then some k else none := by
  have e : l.take (k + 1) = l.take k ++ [sAt l k] := by
    rw [List.take_succ_eq_append_getElem hk, sAt, List.getD_eq_getElem?_getD, List.getElem?_eq_getElem hk]; rfl
  unfold wi
  rw [e, List.findIdx?_append]
  cases hh : (l.take k).findIdx? (fun x => decide (x = s)) with
  | some i => simp
  | none =>
    have : (l.take k).length = k := by simp; omega
    by_cases hn : sAt l k = s <;> simp [hn, this]
/-- no word stands twice -/
def once (l : List ByteArray) : Bool := (List.range l.length).all fun j => (wi (l.take j) (sAt l j)).isNone
theorem once_at {l : List ByteArray} (h : once l = true) {k : Nat} (hk : k < l.length) : wi (l.take k) (sAt l k) = none := by
  have := List.all_eq_true.1 h k (List.mem_range.2 hk)
  simpa using this
theorem once_duty : once dutyNames = true := by decide +kernel
theorem once_rest : once restNames = true := by decide +kernel
theorem once_pair : once pairNames = true := by decide +kernel
theorem once_attr (k : Int) : once (attrNames k) = true := by
  unfold attrNames
  split
  · exact once_duty
  · split
    · exact once_rest
    · split
      · exact once_pair
      · rfl
theorem put_wi {w : World} {b : Nat} {l : List ByteArray} {k : Nat} (h : WIdx w b (l.take k)) (hk : k < l.length) (ho : once l = true) :
    ∃ w', (Instr.mapUpdate 197 (.map (some b)) (.string (sAt l k)) (.int .i64 k)).run Tryz.prog w = .ok () w' ∧ WIdx w' b (l.take (k + 1)) ∧ w.grownBy w' (some b) := by
  obtain ⟨M, h1, h2⟩ := h
  obtain ⟨w', g1, g2, g3⟩ := run_update Tryz.underlying197 Tryz.underlying9 h1 (key := .string (sAt l k)) (.int .i64 k) trivial
  refine ⟨w', g1, ⟨_, g2, fun s => ?_⟩, g3⟩
  rw [mget_mput_string, h2, wi_snoc hk]
  by_cases e : sAt l k = s
  · subst e; rw [if_pos rfl, once_at ho hk]; simp
  · rw [if_neg e]
    cases wi (l.take k) s with
    | none => simp [e]
    | some i => rfl
/-- the values of constants that are known -/
def ValsOf (w : World) (b : Nat) (l : List ConstM) : Prop := ∃ M, MapOf Tryz.prog w b (.int .i64) M ∧ ∀ (i : Nat) v, mget M (.int .i64 i) = some v → v = .int .i64 (cval l i)
theorem ValsOf.below {w w' : World} {b : Nat} {l : List ConstM} (h : ValsOf w b l) (hb : Below w.heap.size w w') : ValsOf w' b l := by
  obtain ⟨M, h1, h2⟩ := h
  exact ⟨M, h1.below hb, h2⟩
theorem ValsOf.grown {w w' : World} {b : Nat} {l : List ConstM} {row : Option Nat} (h : ValsOf w b l) (hg : w.grownBy w' row) (hne : some b ≠ row) : ValsOf w' b l := by
  obtain ⟨M, h1, h2⟩ := h
  exact ⟨M, h1.grown hg hne, h2⟩
theorem ValsOf.lt {w : World} {b : Nat} {l : List ConstM} (h : ValsOf w b l) : b < w.heap.size := by
  obtain ⟨M, h1, h2⟩ := h
  exact h1.lt
theorem look_val {w : World} {b : Nat} {l : List ConstM} (h : ValsOf w b l) (i : Nat) : (Instr.lookup 198 (.map (some b)) (.int .i64 i) true).run Tryz.prog w = .ok (.tuple #[.int .i64 (cval l i), .bool true]) w ∨ (Instr.lookup 198 (.map (some b)) (.int .i64 i) true).run Tryz.prog w = .ok (.tuple #[.int .i64 0, .bool false]) w := by
  obtain ⟨M, h1, h2⟩ := h
  have e := run_lookup_ok Tryz.underlying198 Tryz.underlying3 h1 (key := .int .i64 i) rfl (zeroInt _)
  cases hm : mget M (.int .i64 i) with
  | none => rw [hm] at e; exact .inr e
  | some v =>
    rw [hm] at e
    obtain rfl := h2 i v hm
    exact .inl e
theorem put_val {w : World} {b : Nat} {l : List ConstM} (h : ValsOf w b l) (i : Nat) :
    ∃ w', (Instr.mapUpdate 198 (.map (some b)) (.int .i64 i) (.int .i64 (cval l i))).run Tryz.prog w = .ok () w' ∧ ValsOf w' b l ∧ w.grownBy w' (some b) := by
  obtain ⟨M, h1, h2⟩ := h
  obtain ⟨w', g1, g2, g3⟩ := run_update Tryz.underlying198 Tryz.underlying3 h1 (key := .int .i64 i) (.int .i64 (cval l i)) rfl
  refine ⟨w', g1, ⟨_, g2, fun j v hj => ?_⟩, g3⟩
  rw [mget_mput_int M i j _ h1.2] at hj
  by_cases e : (i : Int) = j
  · rw [if_pos e] at hj
    obtain rfl : i = j := by omega
    exact (Option.some.inj hj).symm
  · rw [if_neg e] at hj
    exact h2 j v hj
/-- the compiler's own cells -/
def cmpA (v0 v1 v2 : Value) (ps : List Nat) : Array Value := (v0 :: v1 :: v2 :: (ps.map (fun b => Value.map (some b)) ++ List.replicate (4 - ps.length) (Value.map none))).toArray
def pAt (ps : List Nat) (k : Nat) : Nat := ps.getD k 0
theorem cmpA_next (v0 v1 v2 : Value) (ps : List Nat) (h : ps.length < 4) : (cmpA v0 v1 v2 ps)[3 + ps.length]? = some (Value.map none) := by
  unfold cmpA
  rw [Nat.add_comm 3]
  simp only [List.getElem?_toArray, List.getElem?_cons_succ]
  rw [List.getElem?_append_right (by simp), List.length_map, Nat.sub_self, List.getElem?_replicate, if_pos (by omega)]
theorem cmpA_at (v0 v1 v2 : Value) (ps : List Nat) (k : Nat) (h : k < ps.length) : (cmpA v0 v1 v2 ps)[3 + k]? = some (Value.map (some (pAt ps k))) := by
  unfold cmpA
  rw [Nat.add_comm 3]
  simp only [List.getElem?_toArray, List.getElem?_cons_succ]
  rw [List.getElem?_append_left (by simpa using h)]
  simp [pAt, h]
theorem cmpA_set (v0 v1 v2 : Value) (ps : List Nat) (b : Nat) (h : ps.length < 4) : (cmpA v0 v1 v2 ps).setIfInBounds (3 + ps.length) (Value.map (some b)) = cmpA v0 v1 v2 (ps ++ [b]) := by
  obtain ⟨m, hm⟩ : ∃ m, 4 - ps.length = m + 1 := ⟨4 - ps.length - 1, by omega⟩
  have hm2 : 4 - (ps ++ [b]).length = m := by simp; omega
  unfold cmpA
  rw [hm, hm2, List.replicate_succ, Nat.add_comm 3]
  simp
/-- the compiler in memory -/
structure CompAt (B : Nat) (w : World) (kp ib vb : Nat) (ps : List Nat) (l : List ConstM) (a : Option Addr) (cap : Nat) : Prop where
  bp : B ≤ kp
  bi : B ≤ ib
  bv : B ≤ vb
  pv : kp ≠ vb
  iv : ib ≠ vb
  plen : ps.length = 4
  psv : ∀ k, k < 4 → pAt ps k ≠ vb
  box : w.heap[kp]? = some (.cells (cmpA (.slice a l.length cap) (.map (some ib)) (.map (some vb)) ps) 201 (0, 0))
  idx : IdxOf w ib l
  vals : ValsOf w vb l
  places : ∀ k : Nat, k < 4 → WIdx w (pAt ps k) (attrNames k)
  consts : ConstsAt B w a l
theorem CompAt.lt {B : Nat} {w : World} {kp ib vb : Nat} {ps : List Nat} {l : List ConstM} {a : Option Addr} {cap : Nat} (h : CompAt B w kp ib vb ps l a cap) : kp < w.heap.size ∧ ib < w.heap.size ∧ vb < w.heap.size := ⟨lt_of_block h.box, h.idx.lt, h.vals.lt⟩
theorem CompAt.below {B : Nat} {w w' : World} {kp ib vb : Nat} {ps : List Nat} {l : List ConstM} {a : Option Addr} {cap : Nat} (h : CompAt B w kp ib vb ps l a cap) (hb : Below w.heap.size w w') : CompAt B w' kp ib vb ps l a cap where
  bp := h.bp
  bi := h.bi
  bv := h.bv
  pv := h.pv
  iv := h.iv
  plen := h.plen
  psv := h.psv
  box := (hb.block _ h.lt.1).trans h.box
  idx := h.idx.below hb
  vals := h.vals.below hb
  places := fun k hk => (h.places k hk).below hb
  consts := h.consts.keep (hb.mono (Nat.le_trans h.bp (Nat.le_of_lt h.lt.1))) (ConstC.keep (hb.mono (Nat.le_trans h.bp (Nat.le_of_lt h.lt.1))))
theorem CompAt.grown {B : Nat} {w w' : World} {kp ib vb : Nat} {ps : List Nat} {l : List ConstM} {a : Option Addr} {cap : Nat} (h : CompAt B w kp ib vb ps l a cap) (hg : w.grownBy w' (some vb)) (hk : ValsOf w' vb l) : CompAt B w' kp ib vb ps l a cap where
  bp := h.bp
  bi := h.bi
  bv := h.bv
  pv := h.pv
  iv := h.iv
  plen := h.plen
  psv := h.psv
  box := (hg.block _ h.lt.1 (by simpa using h.pv)).trans h.box
  idx := h.idx.grown hg (by simpa using h.iv)
  vals := hk
  places := fun k hk => (h.places k hk).grown hg (by simpa using h.psv k hk)
  consts := by
    have : Below B w w' := (Below.refl B w).grown hg (Nat.le_trans h.bp (Nat.le_of_lt h.lt.1)) (fun j hj => by cases hj; exact h.bv)
    exact h.consts.keep this (ConstC.keep this)
/-- another block is written -/
theorem CompAt.other {B : Nat} {w w' : World} {kp ib vb : Nat} {ps : List Nat} {l : List ConstM} {a : Option Addr} {cap : Nat} {row : Option Nat} (h : CompAt B w kp ib vb ps l a cap) (hg : w.grownBy w' row) (hB : ∀ j, row = some j → B ≤ j) (h1 : some kp ≠ row) (h2 : some ib ≠ row) (h3 : some vb ≠ row) (h4 : ∀ k, k < 4 → some (pAt ps k) ≠ row) : CompAt B w' kp ib vb ps l a cap where
  bp := h.bp
  bi := h.bi
  bv := h.bv
  pv := h.pv
  iv := h.iv
  plen := h.plen
  psv := h.psv
  box := (hg.block _ h.lt.1 h1).trans h.box
  idx := h.idx.grown hg h2
  vals := h.vals.grown hg h3
  places := fun k hk => (h.places k hk).grown hg (h4 k hk)
  consts := by
    have : Below B w w' := (Below.refl B w).grown hg (Nat.le_trans h.bp (Nat.le_of_lt h.lt.1)) hB
    exact h.consts.keep this (ConstC.keep this)
/-- a slice of words -/
def StrAt (w : World) (a : Option Addr) (l : List ByteArray) : Prop := l = [] ∨ ∃ b off, a = some ⟨b, off, none⟩ ∧ b < w.heap.size ∧ StrCells w b off l
theorem StrAt.below {w w' : World} {a : Option Addr} {l : List ByteArray} (h : StrAt w a l) (hb : Below w.heap.size w w') : StrAt w' a l := by
  rcases h with h | ⟨b, off, h1, h2, h3⟩
  · exact .inl h
  · exact .inr ⟨b, off, h1, Nat.lt_of_lt_of_le h2 hb.size, h3.below h2 hb⟩
theorem StrAt.cells {w : World} {a : Option Addr} {l : List ByteArray} (h : StrAt w a l) (hl : 0 < l.length) : ∃ b off, a = some ⟨b, off, none⟩ ∧ b < w.heap.size ∧ StrCells w b off l := by
  rcases h with rfl | h
  · simp at hl
  · exact h
theorem StrAt.of_own {w : World} {base : Nat} {e : TypeId} {v : Value} {l : List ByteArray} (h : w.ownsRow base e 1 v l.length (l.map Value.string)) (hl : 0 < l.length) : ∃ a cap, v = .slice a l.length cap ∧ StrAt w a l ∧ ∃ b, a = some ⟨b, 0, none⟩ ∧ base ≤ b := by
  rcases h.2 with ⟨_, h0⟩ | ⟨g, cap, cur, rfl, h1, hg, hc1, hc2, hc3, ht⟩
  · omega
  · refine ⟨_, _, rfl, .inr ⟨g, 0, rfl, lt_of_block hg, fun i hi => ?_⟩, g, rfl, h1⟩
    have e : (cur.toList.take (l.length * 1))[i]? = some (.string (sAt l i)) := by
      rw [ht]; simp [sAt, hi]
    rw [List.getElem?_take, if_pos (by omega)] at e
    have e2 : cur[0 + i]? = some (.string (sAt l i)) := by rw [Nat.zero_add]; simpa using e
    exact cellW hg e2
end Go.Proofs.YtpgbckgjlgecpaaGreat
/- Attributes at every scope; NewCompiler -/
namespace Go.Proofs.YtpgbckgjlgecpaaGreat
open Go.RowKit Go.Sort
set_option linter.unusedVariables false
set_option linter.unusedSimpArgs false
set_option maxRecDepth 100000
def AttrPost (k : Int) (w : World) (e : Ending) (w' : World) : Prop := ∃ a cap, e = .returned (.slice a (attrNames k).length cap) ∧ StrAt w' a (attrNames k) ∧ Below w.heap.size w w'
theorem attributes_any (k : Nat) (hk : k < 4) (w : World) : Calls Tryz.prog 108 #[.int .i64 k] w (AttrPost k w) := by
  obtain rfl | rfl | rfl | rfl : k = 0 ∨ k = 1 ∨ k = 2 ∨ k = 3 := by omega
  · refine (attributes_none w).mono ?_
    rintro e w' ⟨rfl, rfl⟩
    exact ⟨none, 0, rfl, .inl rfl, Below.refl _ _⟩
  · refine (attributes_duty w).mono ?_
    rintro e w' ⟨⟨cap, rfl⟩, h1, h2, h3⟩
    exact ⟨_, cap, rfl, .inr ⟨_, 0, rfl, h1, h2⟩, h3⟩
  · refine (attributes_rest w).mono ?_
    rintro e w' ⟨v, rfl, h1, h2⟩
    obtain ⟨a, cap, rfl, h3, _⟩ := StrAt.of_own (l := restNames) h1 (by decide)
    exact ⟨a, cap, rfl, h3, h2⟩
  · refine (attributes_pair w).mono ?_
    rintro e w' ⟨⟨cap, rfl⟩, h1, h2, h3⟩
    exact ⟨_, cap, rfl, .inr ⟨_, 0, rfl, h1, h2⟩, h3⟩
theorem attr_len (k : Int) : (attrNames k).length ≤ 25 := by
  unfold attrNames
  split
  · decide
  · split
    · decide
    · split <;> decide
theorem cmpA_nil (v0 v1 v2 : Value) : cmpA v0 v1 v2 [] = #[v0, v1, v2, Value.map none, Value.map none, Value.map none, Value.map none] := rfl
theorem StrCells.kept {w w' : World} {b off : Nat} {l : List ByteArray} {row : Nat} (h : StrCells w b off l) (hb : b < w.heap.size) (hw : w.grownBy w' (some row)) (hne : b ≠ row) : StrCells w' b off l := h.grown hb hw (by simpa using fun e => hne e.symm)
def NewCmp (B : Nat) (w : World) (l : List ConstM) (a : Option Addr) (cap : Nat) (e : Ending) (w' : World) : Prop := ∃ kp ib vb ps, e = .returned (.pointer (some ⟨kp, 0, none⟩)) ∧ CompAt B w' kp ib vb ps l a cap ∧ (w.heap.size ≤ kp ∧ w.heap.size ≤ ib ∧ w.heap.size ≤ vb ∧ ∀ k, k < 4 → w.heap.size ≤ pAt ps k) ∧ Below w.heap.size w w'
theorem pAt_snoc (ps : List Nat) (b : Nat) (k : Nat) (hk : k < (ps ++ [b]).length) : pAt (ps ++ [b]) k = if k < ps.length then pAt ps k else b := by
  unfold pAt
  by_cases h : k < ps.length
  · rw [if_pos h]
    simp only [List.getD_eq_getElem?_getD]
    rw [List.getElem?_append_left h]
  · rw [if_neg h]
    simp only [List.getD_eq_getElem?_getD]
    have : k = ps.length := by simp at hk; omega
    subst this
    simp
/-- the places of the first scopes -/
def PlsAt (w0 : Nat) (w : World) (ps : List Nat) : Prop := ∀ k : Nat, k < ps.length → WIdx w (pAt ps k) (attrNames k) ∧ w0 + 2 < pAt ps k
theorem PlsAt.below {w0 : Nat} {w w' : World} {ps : List Nat} (h : PlsAt w0 w ps) (hb : Below w.heap.size w w') : PlsAt w0 w' ps := fun k hk => ⟨(h k hk).1.below hb, (h k hk).2⟩
theorem PlsAt.grown {w0 : Nat} {w w' : World} {ps : List Nat} {row : Nat} (h : PlsAt w0 w ps) (hg : w.grownBy w' (some row)) (hne : ∀ k, k < ps.length → pAt ps k ≠ row) : PlsAt w0 w' ps := fun k hk => ⟨(h k hk).1.grown hg (by simpa using hne k hk), (h k hk).2⟩
set_option maxHeartbeats 3200000 in
theorem newCompiler_any (l : List ConstM) (a : Option Addr) (cap : Nat) (w : World) (B : Nat) (hB : B ≤ w.heap.size) (ha : ConstsAt B w a l) :
    Calls Tryz.prog 93 #[.slice a l.length cap] w (NewCmp B w l a cap) := by
  have hl := ha.1
  have HA := Lib.hid ha
  have mk1 := mkMapSI
  have mk2 := mkMapII
  clear ha
  go_enter Tryz.func93, Tryz.ntmps93
  go_wp2_with fail
  obtain ⟨W, hW⟩ : ∃ W, W = ((w.alloc (.map #[] 0)).alloc (.map #[] 0)).alloc (Obj.cells #[Value.slice a l.length cap, Value.map (some w.heap.size), Value.map (some (w.heap.size + 1)), Value.map none, Value.map none, Value.map none, Value.map none] 201) := ⟨_, rfl⟩
  have HB := Lib.hid (Below.then (below_new w (.map #[] 0)) (Below.then (below_new _ (.map #[] 0)) (below_new _ (Obj.cells #[Value.slice a l.length cap, Value.map (some w.heap.size), Value.map (some (w.heap.size + 1)), Value.map none, Value.map none, Value.map none, Value.map none] 201))))
  have HI := Lib.hid (show IdxOf W w.heap.size (l.take 0) from ⟨[], by rw [hW]; exact ((MapOf.made Tryz.prog w .string).alloc _).alloc _, fun s => by simp [mget, fi]⟩)
  have HK := Lib.hid (show ValsOf W (w.heap.size + 1) l from ⟨[], by rw [hW]; have := (MapOf.made Tryz.prog (w.alloc (.map #[] 0)) (.int .i64)).alloc (Obj.cells #[Value.slice a l.length cap, Value.map (some w.heap.size), Value.map (some (w.heap.size + 1)), Value.map none, Value.map none, Value.map none, Value.map none] 201); rwa [alloc_size] at this, fun i v hv => by simp [mget] at hv⟩)
  have HP := Lib.hid (show W.heap[w.heap.size + 2]? = some (Obj.cells (cmpA (.slice a l.length cap) (.map (some w.heap.size)) (.map (some (w.heap.size + 1))) []) 201 (0, 0)) by rw [hW]; have := heap_new ((w.alloc (.map #[] 0)).alloc (.map #[] 0)) (Obj.cells #[Value.slice a l.length cap, Value.map (some w.heap.size), Value.map (some (w.heap.size + 1)), Value.map none, Value.map none, Value.map none, Value.map none] 201); rwa [alloc_size, alloc_size] at this)
  rw [← hW] at HB
  simp only [← hW]
  clear hW mk2
  go_loopw [18] (fun i wr => ∃ (k : Nat), k ≤ l.length ∧ i = .int .i64 k ∧ Hid (IdxOf wr w.heap.size (l.take k)) ∧ Hid (ValsOf wr (w.heap.size + 1) l) ∧ Hid (wr.heap[w.heap.size + 2]? = some (Obj.cells (cmpA (.slice a l.length cap) (.map (some w.heap.size)) (.map (some (w.heap.size + 1))) []) 201 (0, 0))) ∧ Hid (Below w.heap.size w wr)) (fun i _ => l.length - (intOf i).toNat)
  case atStart => exact ⟨0, Nat.zero_le _, rfl, HI, HK, HP, HB⟩
  clear HI HK HP HB W
  case round =>
    obtain ⟨k, hk, rfl, hI, hK, hP, hbel⟩ := hrel
    by_cases hlt : k < l.length
    · have HA0 := HA.out
      obtain ⟨b, off, rfl, hb, hcs⟩ := HA0.cells (by omega)
      obtain ⟨c0, s1, a2, cap2, ⟨c1, c2, c3, c4⟩, hfit, hargs⟩ := (hcs k hlt).keep (hbel.out.mono hB) b _ _ hb
      have hbr : b < wr.heap.size := by have := hbel.out.size; omega
      have hpr : w.heap.size + 2 < wr.heap.size := lt_of_block hP.out
      clear hargs hcs hfit HA0
      have HI1 := Lib.hid (hI.out.below (below_new wr (Obj.cells #[Value.string (csAt l k).name, Value.int .i64 (csAt l k).ex.op, Value.int .i64 (csAt l k).ex.num, Value.string (csAt l k).ex.name, Value.slice a2 (csAt l k).ex.args.length cap2] 138)))
      have HK1 := Lib.hid (hK.out.below (below_new wr (Obj.cells #[Value.string (csAt l k).name, Value.int .i64 (csAt l k).ex.op, Value.int .i64 (csAt l k).ex.num, Value.string (csAt l k).ex.name, Value.slice a2 (csAt l k).ex.args.length cap2] 138)))
      have HP1 := Lib.hid (one_alloc (o' := (Obj.cells #[Value.string (csAt l k).name, Value.int .i64 (csAt l k).ex.op, Value.int .i64 (csAt l k).ex.num, Value.string (csAt l k).ex.name, Value.slice a2 (csAt l k).ex.args.length cap2] 138)) hP.out)
      have HB1 := Lib.hid (Below.then hbel.out (below_new wr (Obj.cells #[Value.string (csAt l k).name, Value.int .i64 (csAt l k).ex.op, Value.int .i64 (csAt l k).ex.num, Value.string (csAt l k).ex.name, Value.slice a2 (csAt l k).ex.args.length cap2] 138)))
      have q0 := Lib.hid (heap_new wr (Obj.cells #[Value.string (csAt l k).name, Value.int .i64 (csAt l k).ex.op, Value.int .i64 (csAt l k).ex.num, Value.string (csAt l k).ex.name, Value.slice a2 (csAt l k).ex.args.length cap2] 138))
      go_wp2_with fail
      generalize hW1 : wr.alloc (Obj.cells #[Value.string (csAt l k).name, Value.int .i64 (csAt l k).ex.op, Value.int .i64 (csAt l k).ex.num, Value.string (csAt l k).ex.name, Value.slice a2 (csAt l k).ex.args.length cap2] 138) = W1 at *
      have z1 : W1.cell? ⟨w.heap.size + 2, 1, none⟩ = some (.map (some w.heap.size)) := cellW HP1.out rfl
      have z2 : W1.cell? ⟨wr.heap.size, 0, none⟩ = some (.string (csAt l k).name) := cellW q0.out rfl
      have zs : wr.heap.size < W1.heap.size := lt_of_block q0.out
      have L1 := fun n => look_idx (w := W1.drewN n) (HI1.out.below (below_drewN (Below.refl _ _) n)) (csAt l k).name
      clear hW1 hI hK hP hbel c0 c1 c2 c3 c4
      go_quiet (fail)
      have HI2 := Lib.hid (HI1.out.below (below_drewN (Below.refl _ _) nq))
      have HK2 := Lib.hid (HK1.out.below (below_drewN (Below.refl _ _) nq))
      have HP2 := Lib.hid (((below_drewN (Below.refl W1.heap.size W1) nq).block _ (by omega)).trans HP1.out)
      have q2 := Lib.hid (((below_drewN (Below.refl W1.heap.size W1) nq).block _ zs).trans q0.out)
      have HB2 := Lib.hid (Below.then HB1.out (below_drewN (Below.refl _ _) nq))
      clear L1 z1 z2 HI1 HK1 HP1 HB1 q0 zs
      generalize W1.drewN nq = W2 at *
      clear W1
      cases e1 : fiB (l.take k) (csAt l k).name
      · go_wp2_with fail
        have z1 : W2.drew.cell? ⟨w.heap.size + 2, 1, none⟩ = some (.map (some w.heap.size)) := cellW HP2.out rfl
        have z2 : W2.drew.cell? ⟨wr.heap.size, 0, none⟩ = some (.string (csAt l k).name) := cellW q2.out rfl
        have z1' : W2.cell? ⟨w.heap.size + 2, 1, none⟩ = some (.map (some w.heap.size)) := cellW HP2.out rfl
        have z2' : W2.cell? ⟨wr.heap.size, 0, none⟩ = some (.string (csAt l k).name) := cellW q2.out rfl
        obtain ⟨w3, P1, I3, g3⟩ := put_idx (w := W2.drew) (HI2.out.below (Below.refl _ _).drew) hlt e1
        have HI3 := Lib.hid I3
        have HK3 := Lib.hid ((HK2.out.below (Below.refl _ _).drew).grown g3 (by simp))
        have HP3 := Lib.hid ((g3.block _ (lt_of_block HP2.out) (by simp)).trans HP2.out)
        have HB3 := Lib.hid (HB2.out.drew.grown g3 HB2.out.size (by simp))
        clear I3 g3
        go_still_tail 7, (by kernel_rfl)
        change wpList _ _ _ _ _ W2.drew
        go_wp2_with fail
        go_roundw
        case rel => exact ⟨k + 1, by omega, by go_num, HI3, HK3, HP3, HB3⟩
        case measure => simp [intOf]; omega
      · have HI3 := Lib.hid (idx_skip HI2.out hlt e1)
        go_wp2_with fail
        go_roundw
        case rel => exact ⟨k + 1, by omega, by go_num, HI3, HK2, HP2, HB2⟩
        case measure => simp [intOf]; omega
    · obtain rfl : k = l.length := by omega
      have HI := Lib.hid hI.out
      rw [List.take_length] at HI
      clear hI hk hlt
      go_wp2_with fail
      obtain ⟨w0, rfl⟩ : ∃ w0 : World, w0 = wr := ⟨_, rfl⟩
      go_loopw [43] (fun i wr => ∃ (k : Nat) (ps : List Nat), k ≤ 4 ∧ i = .int .i64 k ∧ Hid (ps.length = k) ∧ Hid (IdxOf wr w.heap.size l) ∧ Hid (ValsOf wr (w.heap.size + 1) l) ∧ Hid (wr.heap[w.heap.size + 2]? = some (Obj.cells (cmpA (.slice a l.length cap) (.map (some w.heap.size)) (.map (some (w.heap.size + 1))) ps) 201 (0, 0))) ∧ Hid (PlsAt w.heap.size wr ps) ∧ Hid (Below w.heap.size w wr)) (fun i _ => 4 - (intOf i).toNat)
      case atStart => exact ⟨0, [], by omega, rfl, Lib.hid rfl, HI, hK, hP, Lib.hid (fun k hk => by simp at hk), hbel⟩
      clear HI hK hP hbel w0
      case round =>
        obtain ⟨k, ps, hk, rfl, hps, hI, hK, hP, hPl, hbel⟩ := hrel
        by_cases hlt : k < 4
        · have hltI : (k : Int) < 4 := by omega
          have hk0 : (0 : Int) ≤ (k : Int) := by omega
          have hpr : w.heap.size + 2 < wr.heap.size := lt_of_block hP.out
          have z0 : wr.cell? ⟨w.heap.size + 2, 3 + k, none⟩ = some (.map none) := by have := cmpA_next (.slice a l.length cap) (.map (some w.heap.size)) (.map (some (w.heap.size + 1))) ps (by rw [hps.out]; exact hlt); rw [hps.out] at this; exact cellW hP.out this
          have z1 : wr.frozen? ⟨w.heap.size + 2, 3 + k, none⟩ = false := freeW hP.out
          go_wp2_with fail
          have G1 := Lib.grownBy_setCell wr (w.heap.size + 2) (3 + k) (.map (some wr.heap.size))
          have hsz0 : (wr.setCell ⟨w.heap.size + 2, 3 + k, none⟩ (.map (some wr.heap.size))).heap.size = wr.heap.size := by simp
          have QP := block_setCell (i := 3 + k) (u := .map (some wr.heap.size)) hP.out
          have hset := cmpA_set (.slice a l.length cap) (.map (some w.heap.size)) (.map (some (w.heap.size + 1))) ps wr.heap.size (by rw [hps.out]; exact hlt)
          rw [hps.out] at hset
          rw [hset] at QP
          obtain ⟨ws, hws⟩ : ∃ ws, ws = wr.setCell ⟨w.heap.size + 2, 3 + k, none⟩ (.map (some wr.heap.size)) := ⟨_, rfl⟩
          have HI1 := Lib.hid ((hI.out.grown G1 (by simp)).below (below_new _ (.map #[] 0)))
          have HK1 := Lib.hid ((hK.out.grown G1 (by simp)).below (below_new _ (.map #[] 0)))
          have HPl1 := Lib.hid ((hPl.out.grown G1 (fun j hj => by have := (hPl.out j hj).2; omega)).below (below_new _ (.map #[] 0)))
          have HP1 := Lib.hid (one_alloc (o' := .map #[] 0) QP)
          have HM1 := Lib.hid (MapOf.made Tryz.prog (wr.setCell ⟨w.heap.size + 2, 3 + k, none⟩ (.map (some wr.heap.size))) .string)
          have HB1 := Lib.hid (Below.trans (hbel.out.grown G1 hbel.out.size (by simp)) ((below_new (wr.setCell ⟨w.heap.size + 2, 3 + k, none⟩ (.map (some wr.heap.size))) (.map #[] 0)).mono (by rw [hsz0]; exact hbel.out.size)))
          change Calls _ _ _ ((wr.setCell ⟨w.heap.size + 2, 3 + k, none⟩ (.map (some wr.heap.size))).alloc (.map #[] 0)) _
          rw [hsz0] at HM1
          rw [← hws] at HI1 HK1 HPl1 HP1 HM1 HB1 hsz0 ⊢
          have hmw : wr.heap.size < (ws.alloc (.map #[] 0)).heap.size := by simp; omega
          have HO := Lib.hid (fun j hj => (hPl.out j hj).1.lt)
          obtain ⟨mb, hmb⟩ : ∃ mb, mb = wr.heap.size := ⟨_, rfl⟩
          rw [← hmb] at HP1 HM1 hpr hmw HO
          simp only [← hmb]
          clear G1 QP hset hI hK hP hPl hbel z0 z1 hws hsz0 hmb wr
          have HW1 := Lib.hid (show WIdx (ws.alloc (.map #[] 0)) mb ((attrNames k).take 0) from ⟨[], HM1.out, fun s => by simp [mget, wi]⟩)
          clear HM1
          generalize ws.alloc (.map #[] 0) = W1 at *
          clear ws
          refine (attributes_any k hlt W1).mono ?_
          rintro e w3 ⟨aa, ac, rfl, hS, hb3⟩
          have HI3 := Lib.hid (HI1.out.below hb3)
          have HK3 := Lib.hid (HK1.out.below hb3)
          have HPl3 := Lib.hid (HPl1.out.below hb3)
          have HP3 := Lib.hid ((hb3.block _ (lt_of_block HP1.out)).trans HP1.out)
          have HW3 := Lib.hid (HW1.out.below hb3)
          have HB3 := Lib.hid (Below.then HB1.out hb3)
          have HS3 := Lib.hid hS
          have hm3 : mb < w3.heap.size := HW3.out.lt
          have hlen := attr_len k
          have HNE := Lib.hid (show ∀ b off, aa = some ⟨b, off, none⟩ → 0 < (attrNames k).length → b ≠ mb from fun b off hab hpos hbm => by
            subst hab; subst hbm
            obtain ⟨b', off', e1, _, hc⟩ := hS.cells hpos
            cases e1
            have hc0 := hc 0 hpos
            obtain ⟨M, ⟨⟨es, c, h1, _⟩, _⟩, _⟩ := HW3.out
            simp [World.cell?, h1] at hc0)
          clear hS hb3 HI1 HK1 HPl1 HP1 HW1 HB1 hmw W1
          go_wp2_with fail
          go_loopw [55] (fun i wr => ∃ (j : Nat), j ≤ (attrNames k).length ∧ i = .int .i64 j ∧ Hid (IdxOf wr w.heap.size l) ∧ Hid (ValsOf wr (w.heap.size + 1) l) ∧ Hid (wr.heap[w.heap.size + 2]? = some (Obj.cells (cmpA (.slice a l.length cap) (.map (some w.heap.size)) (.map (some (w.heap.size + 1))) (ps ++ [mb])) 201 (0, 0))) ∧ Hid (PlsAt w.heap.size wr ps) ∧ Hid (WIdx wr mb ((attrNames k).take j)) ∧ Hid (StrAt wr aa (attrNames k)) ∧ Hid (Below w.heap.size w wr)) (fun i _ => (attrNames k).length - (intOf i).toNat)
          case atStart => exact ⟨0, by omega, rfl, HI3, HK3, HP3, HPl3, HW3, HS3, HB3⟩
          clear HI3 HK3 HP3 HPl3 HW3 HS3 HB3 hm3 w3
          case round =>
            obtain ⟨j, hj, rfl, hI, hK, hP, hPl, hW, hS, hbel⟩ := hrel
            by_cases hjt : j < (attrNames k).length
            · obtain ⟨b, off, rfl, hb, hcs⟩ := hS.out.cells (by omega)
              have c0 := hcs j hjt
              have y0 : wr.cell? ⟨w.heap.size + 2, 3 + k, none⟩ = some (.map (some mb)) := by
                have := cmpA_at (.slice a l.length cap) (.map (some w.heap.size)) (.map (some (w.heap.size + 1))) (ps ++ [mb]) k (by simp [hps.out])
                rw [pAt_snoc _ _ _ (by simp [hps.out]), if_neg (by rw [hps.out]; omega)] at this
                exact cellW hP.out this
              have ys : w.heap.size + 2 < wr.heap.size := lt_of_block hP.out
              have hne := HNE.out b off rfl (by omega)
              obtain ⟨w3, P1, W3, g3⟩ := put_wi hW.out hjt (once_attr k)
              have HI3 := Lib.hid (hI.out.grown g3 (by simp; omega))
              have HK3 := Lib.hid (hK.out.grown g3 (by simp; omega))
              have HP3 := Lib.hid ((g3.block _ (lt_of_block hP.out) (by simp; omega)).trans hP.out)
              have HPl3 := Lib.hid (hPl.out.grown g3 (fun j hj => by have := HO.out j hj; omega))
              have HS3 := Lib.hid (show StrAt w3 (some ⟨b, off, none⟩) (attrNames k) from .inr ⟨b, off, rfl, Nat.lt_of_lt_of_le hb g3.size, hcs.kept hb g3 hne⟩)
              have HB3 := Lib.hid (hbel.out.grown g3 hbel.out.size (by simp; omega))
              have HW3 := Lib.hid W3
              clear W3 g3 hI hK hP hPl hW hS hbel hcs
              go_wp2_with fail
              go_roundw
              case rel => exact ⟨j + 1, by omega, by go_num, HI3, HK3, HP3, HPl3, HW3, HS3, HB3⟩
              case measure => simp [intOf]; omega
            · obtain rfl : j = (attrNames k).length := by omega
              have HW3 := Lib.hid hW.out
              rw [List.take_length] at HW3
              have hps2 := Lib.hid (show (ps ++ [mb]).length = k + 1 by simp [hps.out])
              have HPl3 := Lib.hid (show PlsAt w.heap.size wr (ps ++ [mb]) from fun i hi => by
                rw [pAt_snoc _ _ _ hi]
                by_cases h : i < ps.length
                · rw [if_pos h]; exact hPl.out i h
                · rw [if_neg h]
                  obtain rfl : i = k := by have := hps.out; simp at hi; omega
                  exact ⟨HW3.out, hpr⟩)
              clear hPl hW hS HW3 hj hjt
              go_wp2_with fail
              go_roundw
              case rel => exact ⟨k + 1, _, by omega, by go_num, hps2, hI, hK, hP, HPl3, hbel⟩
              case measure => simp [intOf]; omega
        · obtain rfl : k = 4 := by omega
          go_wp2_with fail
          go_ret
          refine ⟨w.heap.size + 2, w.heap.size, w.heap.size + 1, ps, rfl, ⟨by omega, hB, by omega, by omega, by omega, hps.out, fun k hk => ?_, hP.out, hI.out, hK.out, fun k hk => (hPl.out k (by rw [hps.out]; exact hk)).1, HA.out.keep (hbel.out.mono hB) (ConstC.keep (hbel.out.mono hB))⟩, ⟨by omega, by omega, by omega, fun k hk => ?_⟩, hbel.out⟩
          · have := (hPl.out k (by rw [hps.out]; exact hk)).2; omega
          · have := (hPl.out k (by rw [hps.out]; exact hk)).2; omega
end Go.Proofs.YtpgbckgjlgecpaaGreat
/- typed expressions compile to formulas that can be evaluated: plain -/
namespace Go.Proofs.YtpgbckgjlgecpaaGreat
open Go.RowKit Go.Sort
set_option linter.unusedVariables false
set_option linter.unusedSimpArgs false
set_option maxRecDepth 100000
theorem inWords_mem {L : List (List UInt8)} {s : ByteArray} (h : inWords L s = true) : s ∈ L.map (fun x => (⟨x.toArray⟩ : ByteArray)) := by
  unfold inWords at h
  obtain ⟨x, hx, e⟩ := List.any_eq_true.1 h
  rw [beq_iff_eq, Lib.toList_data] at e
  refine List.mem_map.2 ⟨x, hx, ?_⟩
  subst e
  simp
theorem wi_none {l : List ByteArray} {s : ByteArray} (h : wi l s = none) : s ∉ l := by
  unfold wi at h
  rw [List.findIdx?_eq_none_iff] at h
  intro hs
  have := h s hs
  simp at this
theorem wi_lt {l : List ByteArray} {s : ByteArray} {i : Nat} (h : wi l s = some i) : i < l.length := by
  unfold wi at h
  exact (List.findIdx?_eq_some_iff_getElem.1 h).1
theorem wi_at {l : List ByteArray} {s : ByteArray} {i : Nat} (h : wi l s = some i) : sAt l i = s := by
  unfold wi at h
  obtain ⟨h1, h2, _⟩ := List.findIdx?_eq_some_iff_getElem.1 h
  simp [sAt, h1]
  simpa using h2
theorem hasB_mem {l : List ByteArray} {s : ByteArray} (h : hasB l s = true) : s ∈ l := by
  unfold hasB at h
  obtain ⟨x, hx, e⟩ := List.any_eq_true.1 h
  rw [of_decide_eq_true e]; exact hx
theorem dutyK_mem {s : ByteArray} (h : dutyK s ≠ 0) : s ∈ dutyNames := by
  have hall : ((dNum ++ dDur ++ dClk).map (fun x => (⟨x.toArray⟩ : ByteArray))).all (hasB dutyNames) = true := by decide +kernel
  have hsub : ∀ x ∈ (dNum ++ dDur ++ dClk).map (fun x => (⟨x.toArray⟩ : ByteArray)), x ∈ dutyNames := fun x hx => hasB_mem (List.all_eq_true.1 hall x hx)
  apply hsub
  unfold dutyK at h
  simp only [List.map_append, List.mem_append]
  by_cases h1 : inWords dNum s = true
  · exact .inl (.inl (inWords_mem h1))
  rw [if_neg h1] at h
  by_cases h2 : inWords dDur s = true
  · exact .inl (.inr (inWords_mem h2))
  rw [if_neg h2] at h
  by_cases h3 : inWords dClk s = true
  · exact .inr (inWords_mem h3)
  rw [if_neg h3] at h
  exact absurd rfl h
theorem pairK_mem {s : ByteArray} (h : pairK s ≠ 0) : s ∈ pairNames := by
  have hall : ((pNum ++ pDur).map (fun x => (⟨x.toArray⟩ : ByteArray))).all (hasB pairNames) = true := by decide +kernel
  have hsub : ∀ x ∈ (pNum ++ pDur).map (fun x => (⟨x.toArray⟩ : ByteArray)), x ∈ pairNames := fun x hx => hasB_mem (List.all_eq_true.1 hall x hx)
  apply hsub
  unfold pairK at h
  simp only [List.map_append, List.mem_append]
  by_cases h1 : inWords pNum s = true
  · exact .inl (inWords_mem h1)
  rw [if_neg h1] at h
  by_cases h2 : inWords pDur s = true
  · exact .inr (inWords_mem h2)
  rw [if_neg h2] at h
  exact absurd rfl h
theorem pre_split {s p : ByteArray} (h : preB s p = true) : s = p ++ s.extract p.size s.size := by
  simp only [preB, Bool.and_eq_true, decide_eq_true_eq, beq_iff_eq] at h
  obtain ⟨h1, h2⟩ := h
  rw [Lib.toList_data, Lib.toList_data] at h2
  have e1 : s.data.toList.take p.data.toList.length = p.data.toList := by
    rw [← h2]
    simp
  apply ByteArray.ext
  apply Array.ext'
  simp
  have e2 : p.size = p.data.toList.length := by simp
  rw [e2, List.take_of_length_le (by simp)]
  conv => lhs; rw [← List.take_append_drop p.data.toList.length s.data.toList]
  rw [e1]
theorem word_eq {s : ByteArray} {l : List UInt8} (h : (s.toList == l) = true) : s = ⟨l.toArray⟩ := by
  rw [beq_iff_eq, Lib.toList_data] at h
  subst h; simp
theorem restK_mem {s : ByteArray} (h : restK s ≠ 0) : s ∈ restNames := by
  unfold restK at h
  by_cases h1 : (s.toList == [114, 101, 115, 116]) = true
  · rw [word_eq h1]; exact hasB_mem (by decide +kernel)
  rw [if_neg h1] at h
  by_cases h2 : (s.toList == [110, 105, 103, 104, 116, 115]) = true
  · rw [word_eq h2]; exact hasB_mem (by decide +kernel)
  rw [if_neg h2] at h
  by_cases h3 : (s.toList == [104, 111, 109, 101]) = true
  · rw [word_eq h3]; exact hasB_mem (by decide +kernel)
  rw [if_neg h3] at h
  by_cases h4 : preB s befW = true
  · rw [if_pos h4] at h
    have hm := dutyK_mem h
    have e : s = befW ++ s.extract 7 s.size := pre_split h4
    have hall : dutyNames.all (fun x => hasB restNames (befW ++ x)) = true := by decide +kernel
    have hsub : ∀ x ∈ dutyNames, befW ++ x ∈ restNames := fun x hx => hasB_mem (List.all_eq_true.1 hall x hx)
    rw [e]; exact hsub _ hm
  rw [if_neg h4] at h
  by_cases h5 : preB s aftW = true
  · rw [if_pos h5] at h
    have hm := dutyK_mem h
    have e : s = aftW ++ s.extract 6 s.size := pre_split h5
    have hall : dutyNames.all (fun x => hasB restNames (aftW ++ x)) = true := by decide +kernel
    have hsub : ∀ x ∈ dutyNames, aftW ++ x ∈ restNames := fun x hx => hasB_mem (List.all_eq_true.1 hall x hx)
    rw [e]; exact hsub _ hm
  rw [if_neg h5] at h
  exact absurd rfl h
/-- what is no attribute's name has no kind -/
theorem attr_none {k : Nat} (hk : k < 4) {s : ByteArray} (h : plA k s = none) : attrK k s = 0 := by
  have hn := wi_none h
  obtain rfl | rfl | rfl | rfl : k = 0 ∨ k = 1 ∨ k = 2 ∨ k = 3 := by omega
  · rfl
  · exact Classical.byContradiction fun h' => hn (dutyK_mem h')
  · exact Classical.byContradiction fun h' => hn (restK_mem h')
  · exact Classical.byContradiction fun h' => hn (pairK_mem h')
/-- every attribute has a kind -/
theorem attr_some {k : Nat} (hk : k < 4) {s : ByteArray} {i : Nat} (h : plA k s = some i) : attrK k s ≠ 0 := by
  have hl := wi_lt h
  have ha := wi_at h
  rw [← ha]
  have hall : ((List.range 4).all fun k => (List.range (attrNames k).length).all fun i => attrK k (sAt (attrNames k) i) != 0) = true := by decide +kernel
  have := List.all_eq_true.1 (List.all_eq_true.1 hall k (List.mem_range.2 hk)) i (List.mem_range.2 hl)
  simpa using this
theorem tyL_all {lk : ByteArray → Option (Int × Int)} {sc : Int} : ∀ {l : List ExprM}, (tyL lk sc l).1 = 0 → (tyL lk sc l).2.length = l.length ∧ ∀ k, k < l.length → (tyE lk sc (eAt l k)).2 = 0 ∧ iAt (tyL lk sc l).2 k = (tyE lk sc (eAt l k)).1
  | [], _ => ⟨rfl, fun k hk => by simp at hk⟩
  | x :: l, h => by
    rw [tyL] at h ⊢
    by_cases h1 : (tyE lk sc x).2 ≠ 0
    · rw [if_pos h1] at h; exact absurd h h1
    rw [if_neg h1] at h ⊢
    obtain ⟨g1, g2⟩ := tyL_all (l := l) h
    refine ⟨by simp [g1], fun k hk => ?_⟩
    cases k with
    | zero => exact ⟨Classical.not_not.1 h1, rfl⟩
    | succ k => exact g2 k (by simpa using hk)
theorem allB_at : ∀ {t : List Int} {k : Int}, allB t k = true → ∀ j, j < t.length → iAt t j = k
  | [], _, _, j, hj => by simp at hj
  | x :: t, k, h, 0, _ => by rw [allB, Bool.and_eq_true, beq_iff_eq] at h; exact h.1
  | x :: t, k, h, j + 1, hj => by rw [allB, Bool.and_eq_true] at h; exact allB_at h.2 j (by simpa using hj)
/-- constants and attributes have values of their types -/
structure EnvOk (lk : ByteArray → Option (Int × Int)) (cv : ByteArray → Int) (sc : Int) (q : List Int) : Prop where
  attr : ∀ s i, plA sc s = some i → i < q.length ∧ inR (iAt q i) ∧ (attrK sc s = 4 → isB (iAt q i))
  none : ∀ s, plA sc s = none → attrK sc s = 0
  named : ∀ s i, plA sc s = some i → attrK sc s ≠ 0
  const : ∀ s r, lk s = some r → r.2 = 0 → inR (cv s) ∧ (r.1 = 4 → isB (cv s))
theorem isB_flag (b : Bool) : isB (flagI b) := by cases b <;> simp [isB, flagI]
theorem resK_small {o : Int} {t : List Int} (h : o = 7 ∨ o = 8 ∨ o = 9 ∨ o = 12 ∨ o = 13 ∨ o = 10 ∨ o = 11) : resK o t ≠ 4 := by
  have ha : amtB (iAt t 0) = true → iAt t 0 ≠ 4 := by
    intro h; simp [amtB] at h; omega
  rcases h with rfl | rfl | rfl | rfl | rfl | rfl | rfl
  all_goals simp only [resK]
  all_goals simp only [show ((7 : Int) == 1) = false from rfl, show ((8 : Int) == 1) = false from rfl, show ((9 : Int) == 1) = false from rfl, show ((12 : Int) == 1) = false from rfl, show ((13 : Int) == 1) = false from rfl, show ((10 : Int) == 1) = false from rfl, show ((11 : Int) == 1) = false from rfl]
  all_goals simp
  all_goals first
    | (intro h1 h2; exact fun h3 => ha h1 h3)
    | (split <;> simp_all)
    | (unfold prodK; (repeat' split) <;> omega)
mutual
theorem sound {lk : ByteArray → Option (Int × Int)} {cv : ByteArray → Int} {sc : Int} {q : List Int} (E : EnvOk lk cv sc q) : ∀ (x : ExprM), wfE x = true → (tyE lk sc x).2 = 0 → fok q (cmpE cv sc x) ∧ ((tyE lk sc x).1 = 4 → isB (fval q (cmpE cv sc x)))
  | .mk o n s l, hwf, ht => by
    obtain ⟨hh, hwl⟩ := wf_head hwf
    simp only [headB, Bool.and_eq_true] at hh
    obtain ⟨⟨⟨g1, hfit⟩, hleaf⟩, hnm⟩ := hh
    obtain ⟨ho1, ho22⟩ := btwB_iff.1 g1
    rw [tyE] at ht ⊢
    rw [cmpE]
    by_cases o6 : o = 6
    · subst o6
      rw [if_pos rfl] at ht ⊢
      rw [if_neg (by decide), if_neg (by decide), if_neg (by decide), if_pos rfl]
      cases hp : plA sc s with
      | some i =>
        obtain ⟨h1, h2, h3⟩ := E.attr s i hp
        simp only []
        refine ⟨?_, ?_⟩
        · rw [fok, if_neg (by decide), if_pos rfl]
          exact ⟨by omega, by omega, by simpa using h2⟩
        · intro h4
          rw [fval, if_neg (by decide), if_pos rfl]
          by_cases ha : attrK sc s ≠ 0
          · rw [if_pos ha] at h4
            simpa using h3 h4
          · rw [if_neg ha] at h4 ht
            have ha0 : attrK sc s = 0 := Classical.not_not.1 ha
            exfalso
            exact (E.named s i hp) ha0
      | none =>
        have ha := E.none s hp
        rw [if_neg (by simpa using ha)] at ht ⊢
        simp only []
        cases hr : lk s with
        | none => rw [hr] at ht; exact absurd ht (by decide)
        | some r =>
          rw [hr] at ht
          obtain ⟨h1, h2⟩ := E.const s r hr ht
          refine ⟨?_, ?_⟩
          · rw [fok, if_pos rfl]; exact h1
          · intro h4
            rw [fval, if_pos rfl]
            exact h2 h4
    rw [if_neg o6] at ht ⊢
    have hz0 : argsFitB o l.length = true := hfit
    by_cases o5 : o ≤ 5
    · have hlen : l.length = 0 := by
        obtain rfl | rfl | rfl | rfl | rfl : o = 1 ∨ o = 2 ∨ o = 3 ∨ o = 4 ∨ o = 5 := by omega
        all_goals (simp [argsFitB] at hfit; simpa using hfit)
      have hnil : l = [] := List.length_eq_zero_iff.1 hlen
      subst hnil
      obtain rfl | rfl | rfl | rfl | rfl : o = 1 ∨ o = 2 ∨ o = 3 ∨ o = 4 ∨ o = 5 := by omega
      · have hn := btwB_iff.1 (show btwB n 0 1099511627776 = true from hleaf)
        rw [if_pos (by decide)]
        refine ⟨by rw [fok, if_pos rfl]; unfold inR; omega, fun h => absurd h (by simp [tyL, resK])⟩
      · have hn := btwB_iff.1 (show btwB n 0 1099511627776 = true from hleaf)
        rw [if_pos (by decide)]
        refine ⟨by rw [fok, if_pos rfl]; unfold inR; omega, fun h => absurd h (by simp [tyL, resK])⟩
      · have hn := btwB_iff.1 (show btwB n 0 1439 = true from hleaf)
        rw [if_pos (by decide)]
        refine ⟨by rw [fok, if_pos rfl]; unfold inR; omega, fun h => absurd h (by simp [tyL, resK])⟩
      · rw [if_neg (by decide), if_pos rfl]
        exact ⟨by rw [fok, if_pos rfl]; unfold inR; omega, fun _ => by rw [fval, if_pos rfl]; exact .inr rfl⟩
      · rw [if_neg (by decide), if_neg (by decide), if_pos rfl]
        exact ⟨by rw [fok, if_pos rfl]; unfold inR; omega, fun _ => by rw [fval, if_pos rfl]; exact .inl rfl⟩
    · rw [if_neg (by omega), if_neg (by omega), if_neg (by omega), if_neg o6]
      by_cases h1 : (tyL lk sc l).1 ≠ 0
      · rw [if_pos h1] at ht; exact absurd ht h1
      rw [if_neg h1] at ht ⊢
      have h1' : (tyL lk sc l).1 = 0 := Classical.not_not.1 h1
      by_cases h2 : resK o (tyL lk sc l).2 ≠ 0
      · rw [if_pos h2] at ht ⊢
        obtain ⟨g2, g3⟩ := tyL_all h1'
        have SL := soundL E l hwl (fun k hk => (g3 k hk).1)
        have hlen2 : (cmpL cv sc l).length = l.length := cmpL_len cv sc l
        have hkind : ∀ k, k < l.length → iAt (tyL lk sc l).2 k = 4 → isB (iAt (fvalL q (cmpL cv sc l)) k) := fun k hk h4 => by
          rw [fvalL_at q _ k (by rw [hlen2]; exact hk)]
          exact (SL.2 k hk) (by rw [← (g3 k hk).2]; exact h4)
        have hall4 : 19 ≤ o → ∀ k, k < l.length → isB (iAt (fvalL q (cmpL cv sc l)) k) := fun h19 k hk => by
          refine hkind k hk ?_
          have hc : cmpB o (tyL lk sc l).2 = true := by
            refine Classical.byContradiction fun hc => h2 ?_
            obtain rfl | rfl | rfl | rfl : o = 19 ∨ o = 20 ∨ o = 21 ∨ o = 22 := by omega
            all_goals (simp only [resK]; simp [hc])
          have ha : allB (tyL lk sc l).2 4 = true := by
            obtain rfl | rfl | rfl | rfl : o = 19 ∨ o = 20 ∨ o = 21 ∨ o = 22 := by omega
            all_goals simpa [cmpB] using hc
          exact allB_at ha k (by rw [g2]; exact hk)
        refine ⟨?_, fun h4 => ?_⟩
        · rw [fok, if_neg (by omega), if_neg o6]
          exact ⟨by omega, ho22, by rw [hlen2]; exact hfit, fun h19 k hk => hall4 h19 k (by rwa [hlen2] at hk), SL.1⟩
        · rw [fval, if_neg (by omega), if_neg o6]
          have hsm : ¬ (o = 7 ∨ o = 8 ∨ o = 9 ∨ o = 12 ∨ o = 13 ∨ o = 10 ∨ o = 11) := fun h => resK_small h h4
          by_cases o14 : o = 14
          · subst o14
            have hl3 : l.length = 3 := by simp [argsFitB] at hfit; omega
            have hk : ((iAt (tyL lk sc l).2 0 == 4) && (iAt (tyL lk sc l).2 1 == iAt (tyL lk sc l).2 2)) = true ∧ iAt (tyL lk sc l).2 1 = 4 := by
              have e : resK 14 (tyL lk sc l).2 = if ((iAt (tyL lk sc l).2 0 == 4) && (iAt (tyL lk sc l).2 1 == iAt (tyL lk sc l).2 2)) = true then iAt (tyL lk sc l).2 1 else 0 := rfl
              rw [e] at h4
              by_cases hc : ((iAt (tyL lk sc l).2 0 == 4) && (iAt (tyL lk sc l).2 1 == iAt (tyL lk sc l).2 2)) = true
              · rw [if_pos hc] at h4; exact ⟨hc, h4⟩
              · rw [if_neg hc] at h4; exact absurd h4 (by decide)
            have h12 : iAt (tyL lk sc l).2 1 = iAt (tyL lk sc l).2 2 := by simpa using (Bool.and_eq_true_iff.1 hk.1).2
            have b1 := hkind 1 (by omega) hk.2
            have b2 := hkind 2 (by omega) (h12 ▸ hk.2)
            have e : opV 14 (fvalL q (cmpL cv sc l)) = if iAt (fvalL q (cmpL cv sc l)) 0 ≠ 0 then iAt (fvalL q (cmpL cv sc l)) 1 else iAt (fvalL q (cmpL cv sc l)) 2 := by simp [opV]
            rw [e]
            split
            · exact b1
            · exact b2
          by_cases o15 : o = 15
          · subst o15
            have e : opV 15 (fvalL q (cmpL cv sc l)) = flagI (bndB (iAt (fvalL q (cmpL cv sc l)) 0) (iAt (fvalL q (cmpL cv sc l)) 1) (iAt (fvalL q (cmpL cv sc l)) 2)) := by simp [opV]
            rw [e]; exact isB_flag _
          have hpos : 0 < l.length := by have := fit_one hfit (by omega); omega
          by_cases o19 : o = 19
          · subst o19
            have b0 := hall4 (by omega) 0 hpos
            have e : opV 19 (fvalL q (cmpL cv sc l)) = 1 - iAt (fvalL q (cmpL cv sc l)) 0 := by simp [opV]
            rw [e]
            rcases b0 with h | h <;> rw [h] <;> simp [isB]
          have e : opV o (fvalL q (cmpL cv sc l)) = op2V o (iAt (fvalL q (cmpL cv sc l)) 0) (iAt (fvalL q (cmpL cv sc l)) 1) := by
            rw [opV, if_neg (by omega), if_neg (by omega), if_neg (by omega), if_neg o14, if_neg o15, if_neg o19]
          rw [e]
          unfold op2V
          rw [if_neg (by omega), if_neg (by omega), if_neg (by omega), if_neg (by omega)]
          by_cases o16 : o = 16
          · rw [if_pos o16]; exact isB_flag _
          rw [if_neg o16]
          by_cases o17 : o = 17
          · rw [if_pos o17]; exact isB_flag _
          rw [if_neg o17]
          by_cases o18 : o = 18
          · rw [if_pos o18]; exact isB_flag _
          rw [if_neg o18]
          have hl2 : l.length = 2 := by
            obtain rfl | rfl | rfl : o = 20 ∨ o = 21 ∨ o = 22 := by omega
            all_goals (simp [argsFitB] at hfit; omega)
          have b1 := hall4 (by omega) 1 (by omega)
          have bz : isB 0 := .inl rfl
          have bo : isB 1 := .inr rfl
          (repeat' split) <;> assumption
      · rw [if_neg h2] at ht; exact absurd ht (by decide)
theorem soundL {lk : ByteArray → Option (Int × Int)} {cv : ByteArray → Int} {sc : Int} {q : List Int} (E : EnvOk lk cv sc q) : ∀ (l : List ExprM), wfL l = true → (∀ k, k < l.length → (tyE lk sc (eAt l k)).2 = 0) → fokL q (cmpL cv sc l) ∧ ∀ k, k < l.length → (tyE lk sc (eAt l k)).1 = 4 → isB (fval q (gAt (cmpL cv sc l) k))
  | [], _, _ => ⟨trivial, fun k hk => by simp at hk⟩
  | x :: l, hw, ht => by
    rw [wfL, Bool.and_eq_true] at hw
    obtain ⟨a1, a2⟩ := sound E x hw.1 (ht 0 (by simp))
    obtain ⟨b1, b2⟩ := soundL E l hw.2 (fun k hk => ht (k + 1) (by simpa using hk))
    rw [cmpL]
    refine ⟨by rw [fokL]; exact ⟨a1, b1⟩, fun k hk => ?_⟩
    cases k with
    | zero => exact a2
    | succ k => exact b2 k (by simpa using hk)
end
end Go.Proofs.YtpgbckgjlgecpaaGreat
/- contracts of the compiler: Compile at leaves, Constant -/
namespace Go.Proofs.YtpgbckgjlgecpaaGreat
open Go.RowKit Go.Sort
set_option linter.unusedVariables false
set_option linter.unusedSimpArgs false
set_option maxRecDepth 100000
theorem env_none (l : List ConstM) (n : Nat) (h : ∀ j, j < n → j < l.length → (ctyp l j).2 = 0 → inR (cval l j) ∧ ((ctyp l j).1 = 4 → isB (cval l j))) : EnvOk (lkC l n) (cvC l n) 0 [] where
  attr := fun s i hp => by simp [plA, attrNames, wi] at hp
  none := fun s _ => rfl
  named := fun s i hp => by simp [plA, attrNames, wi] at hp
  const := fun s r hr h0 => by
    unfold lkC at hr
    unfold cvC
    cases hf : fi l s with
    | none => rw [hf] at hr; cases hr
    | some j =>
      rw [hf] at hr
      by_cases hj : j < n
      · simp only [if_pos hj, Option.some.injEq] at hr ⊢
        subst hr
        exact h j hj (fi_lt hf) h0
      · simp only [if_neg hj] at hr; cases hr
theorem ctyp_ok {l : List ConstM} {i : Nat} (h : (ctyp l i).2 = 0) : valE (csAt l i).ex = 0 ∧ (tyE (lkC l i) 0 (csAt l i).ex).2 = 0 ∧ ctyp l i = tyE (lkC l i) 0 (csAt l i).ex := by
  rw [ctyp_eq] at h ⊢
  by_cases h1 : valE (csAt l i).ex ≠ 0
  · rw [if_pos h1] at h; exact absurd h h1
  · rw [if_neg h1] at h ⊢; exact ⟨Classical.not_not.1 h1, h, rfl⟩
theorem cval_ok (l : List ConstM) (i : Nat) (hi : i < l.length) (h : (ctyp l i).2 = 0) : inR (cval l i) ∧ ((ctyp l i).1 = 4 → isB (cval l i)) := by
  induction i using Nat.strongRecOn with
  | _ i ih =>
    obtain ⟨h1, h2, h3⟩ := ctyp_ok h
    have E := env_none l i (fun j hj hjl h0 => ih j hj hjl h0)
    obtain ⟨s1, s2⟩ := sound E (csAt l i).ex (valE_ok h1).1 h2
    rw [cval_eq, h3]
    exact ⟨fval_in _ s1, s2⟩
theorem fok_const (l : List ConstM) (i : Nat) (h : (ctyp l i).2 = 0) : fok [] (cmpE (cvC l i) 0 (csAt l i).ex) := by
  obtain ⟨h1, h2, h3⟩ := ctyp_ok h
  exact (sound (env_none l i (fun j hj hjl h0 => cval_ok l j hjl h0)) (csAt l i).ex (valE_ok h1).1 h2).1
def CmpPost (B kp ib vb : Nat) (ps : List Nat) (l : List ConstM) (a : Option Addr) (cap : Nat) (w : World) (f : FormM) (e : Ending) (w' : World) : Prop := ∃ fa fc, e = .returned (.agg #[.int .i64 f.op, .int .i64 f.num, .slice fa f.args.length fc]) ∧ FArgsAt (fun b => b < w.heap.size) w' fa f.args ∧ f.args.length ≤ 200 ∧ CompAt B w' kp ib vb ps l a cap ∧ w.grownBy w' (some vb)
def CompS (B kp ib vb : Nat) (ps : List Nat) (l : List ConstM) (a : Option Addr) (cap : Nat) (n : Nat) : Prop := ∀ (k : Nat) (x : ExprM) (xa : Option Addr) (xc : Nat) (w : World), k < 4 → CompAt B w kp ib vb ps l a cap → ExprFit x → wfE x = true → cntE x ≤ 200 → (tyE (lkC l n) k x).2 = 0 → ArgsAt B w xa x.args →
  Calls Tryz.prog 94 #[.pointer (some ⟨kp, 0, none⟩), .int .i64 k, .agg #[.int .i64 x.op, .int .i64 x.num, .string x.name, .slice xa x.args.length xc]] w (CmpPost B kp ib vb ps l a cap w (cmpE (cvC l n) k x))
def ConstVS (B kp ib vb : Nat) (ps : List Nat) (l : List ConstM) (a : Option Addr) (cap : Nat) (i : Nat) : Prop := ∀ (s : ByteArray) (w : World), fi l s = some i → CompAt B w kp ib vb ps l a cap → Calls Tryz.prog 141 #[.pointer (some ⟨kp, 0, none⟩), .string s] w fun e w' => e = .returned (.int .i64 (cval l i)) ∧ CompAt B w' kp ib vb ps l a cap ∧ w.grownBy w' (some vb)
theorem leaf_post (B kp ib vb : Nat) (ps : List Nat) (l : List ConstM) (a : Option Addr) (cap : Nat) {w w' : World} {o n : Int} (hC : CompAt B w kp ib vb ps l a cap) (hb : Below w.heap.size w w') : CmpPost B kp ib vb ps l a cap w (.mk o n []) (.returned (.agg #[.int .i64 o, .int .i64 n, .slice none 0 0])) w' :=
  ⟨none, 0, rfl, ⟨0, 0, fun h => absurd rfl h, .nil _ _⟩, by simp [FormM.args], hC.below hb, grown_below _ hb⟩
set_option maxHeartbeats 1600000 in
theorem compile_leaf (B kp ib vb : Nat) (ps : List Nat) (l : List ConstM) (a : Option Addr) (cap : Nat) (cv : ByteArray → Int) (k : Nat) (o nu : Int) (s : ByteArray) (xl : List ExprM) (xa : Option Addr) (xc : Nat) (w : World) (ho : 1 ≤ o) (ho5 : o ≤ 5) (hC : CompAt B w kp ib vb ps l a cap) :
    Calls Tryz.prog 94 #[.pointer (some ⟨kp, 0, none⟩), .int .i64 k, .agg #[.int .i64 o, .int .i64 nu, .string s, .slice xa xl.length xc]] w (CmpPost B kp ib vb ps l a cap w (cmpE cv k (.mk o nu s xl))) := by
  have HC := Lib.hid hC
  clear hC
  obtain rfl | rfl | rfl | rfl | rfl : o = 1 ∨ o = 2 ∨ o = 3 ∨ o = 4 ∨ o = 5 := by omega
  · have hz := Lib.hid (show cmpE cv k (.mk 1 nu s xl) = .mk 1 nu [] by simp [cmpE])
    go_enter Tryz.func94, Tryz.ntmps94
    go_wp2_with fail
    refine bodyPost_ret (v := .agg #[.int .i64 1, .int .i64 nu, .slice none 0 0]) (by simp [results, Tryz.results94, go_sem]) rfl ?_
    rw [hz.out]
    exact leaf_post B kp ib vb ps l a cap HC.out (Below.then (below_new _ _) (below_new _ _))
  · have hz := Lib.hid (show cmpE cv k (.mk 2 nu s xl) = .mk 1 nu [] by simp [cmpE])
    go_enter Tryz.func94, Tryz.ntmps94
    go_wp2_with fail
    refine bodyPost_ret (v := .agg #[.int .i64 1, .int .i64 nu, .slice none 0 0]) (by simp [results, Tryz.results94, go_sem]) rfl ?_
    rw [hz.out]
    exact leaf_post B kp ib vb ps l a cap HC.out (Below.then (below_new _ _) (below_new _ _))
  · have hz := Lib.hid (show cmpE cv k (.mk 3 nu s xl) = .mk 1 nu [] by simp [cmpE])
    go_enter Tryz.func94, Tryz.ntmps94
    go_wp2_with fail
    refine bodyPost_ret (v := .agg #[.int .i64 1, .int .i64 nu, .slice none 0 0]) (by simp [results, Tryz.results94, go_sem]) rfl ?_
    rw [hz.out]
    exact leaf_post B kp ib vb ps l a cap HC.out (Below.then (below_new _ _) (below_new _ _))
  · have hz := Lib.hid (show cmpE cv k (.mk 4 nu s xl) = .mk 1 1 [] by simp [cmpE])
    go_enter Tryz.func94, Tryz.ntmps94
    go_wp2_with fail
    refine bodyPost_ret (v := .agg #[.int .i64 1, .int .i64 1, .slice none 0 0]) (by simp [results, Tryz.results94, go_sem]) rfl ?_
    rw [hz.out]
    exact leaf_post B kp ib vb ps l a cap HC.out (Below.then (below_new _ _) (below_new _ _))
  · have hz := Lib.hid (show cmpE cv k (.mk 5 nu s xl) = .mk 1 0 [] by simp [cmpE])
    go_enter Tryz.func94, Tryz.ntmps94
    go_wp2_with fail
    refine bodyPost_ret (v := .agg #[.int .i64 1, .int .i64 0, .slice none 0 0]) (by simp [results, Tryz.results94, go_sem]) rfl ?_
    rw [hz.out]
    exact leaf_post B kp ib vb ps l a cap HC.out (Below.then (below_new _ _) (below_new _ _))
theorem ty_attr {lk : ByteArray → Option (Int × Int)} {k : Nat} {nu : Int} {s : ByteArray} {xl : List ExprM} (h : (tyE lk k (.mk 6 nu s xl)).2 = 0) (ha : attrK k s = 0) : ∃ r, lk s = some r ∧ r.2 = 0 := by
  rw [tyE, if_pos rfl, if_neg (by simpa using ha)] at h
  cases hr : lk s with
  | none => rw [hr] at h; exact absurd h (by decide)
  | some r => rw [hr] at h; exact ⟨r, rfl, h⟩
theorem lkC_some {l : List ConstM} {n : Nat} {s : ByteArray} {r : Int × Int} (h : lkC l n s = some r) : ∃ i, fi l s = some i ∧ i < n ∧ r = ctyp l i ∧ cvC l n s = cval l i := by
  unfold lkC at h
  unfold cvC
  cases hf : fi l s with
  | none => rw [hf] at h; cases h
  | some i =>
    rw [hf] at h
    by_cases hi : i < n
    · simp only [if_pos hi, Option.some.injEq] at h ⊢
      exact ⟨i, rfl, hi, h.symm, rfl⟩
    · simp only [if_neg hi] at h; cases h
set_option maxHeartbeats 3200000 in
theorem compile_attr (B kp ib vb : Nat) (ps : List Nat) (l : List ConstM) (a : Option Addr) (cap : Nat) (n : Nat) (HConst : Hid (∀ i, i < n → i < l.length → (ctyp l i).2 = 0 → ConstVS B kp ib vb ps l a cap i)) (k : Nat) (hk : k < 4) (nu : Int) (s : ByteArray) (xl : List ExprM) (xa : Option Addr) (xc : Nat) (w : World) (hC : CompAt B w kp ib vb ps l a cap) (ht : (tyE (lkC l n) k (.mk 6 nu s xl)).2 = 0) :
    Calls Tryz.prog 94 #[.pointer (some ⟨kp, 0, none⟩), .int .i64 k, .agg #[.int .i64 6, .int .i64 nu, .string s, .slice xa xl.length xc]] w (CmpPost B kp ib vb ps l a cap w (cmpE (cvC l n) k (.mk 6 nu s xl))) := by
  have HC := Lib.hid hC
  have hkp := hC.lt.1
  have HT := Lib.hid ht
  have k0 : (0 : Int) ≤ (k : Int) := by omega
  have k4 : (k : Int) < 4 := by omega
  clear hC ht
  go_enter Tryz.func94, Tryz.ntmps94
  go_wp2_with fail
  have HB := Lib.hid (Below.then (below_new w (Obj.cells #[Value.int .i64 6, Value.int .i64 nu, Value.string s, Value.slice xa xl.length xc] 111)) (below_new _ (Obj.cells #[Value.int .i64 0, Value.int .i64 0, Value.slice none 0 0] 150)))
  have q0 := Lib.hid (one_alloc (o' := (Obj.cells #[Value.int .i64 0, Value.int .i64 0, Value.slice none 0 0] 150)) (heap_new w (Obj.cells #[Value.int .i64 6, Value.int .i64 nu, Value.string s, Value.slice xa xl.length xc] 111)))
  have q1 := Lib.hid (heap_new (w.alloc (Obj.cells #[Value.int .i64 6, Value.int .i64 nu, Value.string s, Value.slice xa xl.length xc] 111)) (Obj.cells #[Value.int .i64 0, Value.int .i64 0, Value.slice none 0 0] 150))
  rw [alloc_size] at q1
  have HC0 := Lib.hid (HC.out.below HB.out)
  generalize (w.alloc (Obj.cells #[Value.int .i64 6, Value.int .i64 nu, Value.string s, Value.slice xa xl.length xc] 111)).alloc (Obj.cells #[Value.int .i64 0, Value.int .i64 0, Value.slice none 0 0] 150) = W at *
  have z1 : W.cell? ⟨kp, 3 + k, none⟩ = some (.map (some (pAt ps k))) := cellW HC0.out.box (cmpA_at _ _ _ ps k (by rw [HC0.out.plen]; exact hk))
  have z2 : W.cell? ⟨w.heap.size, 2, none⟩ = some (.string s) := cellW q0.out rfl
  have zs : w.heap.size + 1 < W.heap.size := lt_of_block q1.out
  have L1 := fun m => look_wi (w := W.drewN m) ((HC0.out.places k hk).below (below_drewN (Below.refl _ _) m)) s
  go_quiet (fail)
  have HB1 := Lib.hid (Below.then HB.out (below_drewN (Below.refl _ _) nq))
  have HC1 := Lib.hid (HC.out.below HB1.out)
  have q2 := Lib.hid (((below_drewN (Below.refl W.heap.size W) nq).block _ zs).trans q1.out)
  have q3 := Lib.hid (((below_drewN (Below.refl W.heap.size W) nq).block _ (by omega)).trans q0.out)
  clear L1 z1 z2 zs q0 q1 HC0 HB
  generalize W.drewN nq = W1 at *
  clear W
  have y0 : W1.cell? ⟨w.heap.size + 1, 0, none⟩ = some (.int .i64 0) := cellW q2.out rfl
  have y1 : W1.cell? ⟨w.heap.size + 1, 1, none⟩ = some (.int .i64 0) := cellW q2.out rfl
  have y2 : W1.cell? ⟨w.heap.size + 1, 2, none⟩ = some (.slice none 0 0) := cellW q2.out rfl
  have f0 : W1.frozen? ⟨w.heap.size + 1, 0, none⟩ = false := freeW q2.out
  have f1 : W1.frozen? ⟨w.heap.size + 1, 1, none⟩ = false := freeW q2.out
  have f2 : W1.frozen? ⟨w.heap.size + 1, 2, none⟩ = false := freeW q2.out
  have ys : w.heap.size + 1 < W1.heap.size := lt_of_block q2.out
  cases hp : plA k s with
  | some i =>
    have e1 : wiB (attrNames k) s = true := by have : wi (attrNames k) s = some i := hp; simp [wiB, this]
    have e2 : wiN (attrNames k) s = i := by have : wi (attrNames k) s = some i := hp; simp [wiN, this]
    have hz := Lib.hid (show cmpE (cvC l n) k (.mk 6 nu s xl) = .mk 6 i [] by rw [cmpE, if_neg (by decide), if_neg (by decide), if_neg (by decide), if_pos rfl, hp])
    rw [e1, e2]
    clear hp e1 e2
    go_wp2_with fail
    have Q := block_setCell (i := 2) (u := .slice none 0 0) (block_setCell (i := 1) (u := .int .i64 i) (block_setCell (i := 0) (u := .int .i64 6) q2.out))
    have r0 : (((W1.setCell ⟨w.heap.size + 1, 0, none⟩ (.int .i64 6)).setCell ⟨w.heap.size + 1, 1, none⟩ (.int .i64 i)).setCell ⟨w.heap.size + 1, 2, none⟩ (.slice none 0 0)).cell? ⟨w.heap.size + 1, 0, none⟩ = some (.int .i64 6) := cellW Q rfl
    have r1 : (((W1.setCell ⟨w.heap.size + 1, 0, none⟩ (.int .i64 6)).setCell ⟨w.heap.size + 1, 1, none⟩ (.int .i64 i)).setCell ⟨w.heap.size + 1, 2, none⟩ (.slice none 0 0)).cell? ⟨w.heap.size + 1, 1, none⟩ = some (.int .i64 i) := cellW Q rfl
    have r2 : (((W1.setCell ⟨w.heap.size + 1, 0, none⟩ (.int .i64 6)).setCell ⟨w.heap.size + 1, 1, none⟩ (.int .i64 i)).setCell ⟨w.heap.size + 1, 2, none⟩ (.slice none 0 0)).cell? ⟨w.heap.size + 1, 2, none⟩ = some (.slice none 0 0) := cellW Q rfl
    have HBf : Below w.heap.size w (((W1.setCell ⟨w.heap.size + 1, 0, none⟩ (.int .i64 6)).setCell ⟨w.heap.size + 1, 1, none⟩ (.int .i64 i)).setCell ⟨w.heap.size + 1, 2, none⟩ (.slice none 0 0)) := ((HB1.out.setCell (by simp) _).setCell (by simp) _).setCell (by simp) _
    clear Q
    generalize (((W1.setCell ⟨w.heap.size + 1, 0, none⟩ (.int .i64 6)).setCell ⟨w.heap.size + 1, 1, none⟩ (.int .i64 i)).setCell ⟨w.heap.size + 1, 2, none⟩ (.slice none 0 0)) = Wf at *
    refine bodyPost_ret (v := .agg #[.int .i64 6, .int .i64 i, .slice none 0 0]) (by simp [results, Tryz.results94, go_sem, r0, r1, r2]) rfl ?_
    rw [hz.out]
    exact leaf_post B kp ib vb ps l a cap HC.out HBf
  | none =>
    have e1 : wiB (attrNames k) s = false := by have : wi (attrNames k) s = none := hp; simp [wiB, this]
    have ha := attr_none hk hp
    obtain ⟨r, hr, hr0⟩ := ty_attr HT.out ha
    obtain ⟨i, hi, hin, rfl, hcv⟩ := lkC_some hr
    have hil := fi_lt hi
    have hz := Lib.hid (show cmpE (cvC l n) k (.mk 6 nu s xl) = .mk 1 (cval l i) [] by rw [cmpE, if_neg (by decide), if_neg (by decide), if_neg (by decide), if_pos rfl, hp, hcv])
    have HI := Lib.hid hi
    have HR := Lib.hid hr0
    have v2 : W1.cell? ⟨w.heap.size, 2, none⟩ = some (.string s) := cellW q3.out rfl
    rw [e1]
    clear hp e1 ha hr hcv hi hr0
    go_wp2_with fail
    refine (HConst.out i hin hil HR.out s W1 HI.out HC1.out).mono ?_
    rintro e w2 ⟨rfl, hC2, hg2⟩
    have hvb := HC.out.lt.2.2
    have q4 := Lib.hid ((hg2.block _ ys (by simp; omega)).trans q2.out)
    have HC2 := Lib.hid hC2
    have HG2 := Lib.hid (Lib.grownBy_trans (grown_below (some vb) HB1.out) hg2)
    have x0 : w2.cell? ⟨w.heap.size + 1, 0, none⟩ = some (.int .i64 0) := cellW q4.out rfl
    have x1 : w2.cell? ⟨w.heap.size + 1, 1, none⟩ = some (.int .i64 0) := cellW q4.out rfl
    have x2 : w2.cell? ⟨w.heap.size + 1, 2, none⟩ = some (.slice none 0 0) := cellW q4.out rfl
    have u0 : w2.frozen? ⟨w.heap.size + 1, 0, none⟩ = false := freeW q4.out
    have u1 : w2.frozen? ⟨w.heap.size + 1, 1, none⟩ = false := freeW q4.out
    have u2 : w2.frozen? ⟨w.heap.size + 1, 2, none⟩ = false := freeW q4.out
    have us : w.heap.size + 1 < w2.heap.size := lt_of_block q4.out
    clear hC2 hg2 y0 y1 y2 f0 f1 f2 ys v2 q2 q3
    go_wp2_with fail
    have Q := block_setCell (i := 2) (u := .slice none 0 0) (block_setCell (i := 1) (u := .int .i64 (cval l i)) (block_setCell (i := 0) (u := .int .i64 1) q4.out))
    have r0 : (((w2.setCell ⟨w.heap.size + 1, 0, none⟩ (.int .i64 1)).setCell ⟨w.heap.size + 1, 1, none⟩ (.int .i64 (cval l i))).setCell ⟨w.heap.size + 1, 2, none⟩ (.slice none 0 0)).cell? ⟨w.heap.size + 1, 0, none⟩ = some (.int .i64 1) := cellW Q rfl
    have r1 : (((w2.setCell ⟨w.heap.size + 1, 0, none⟩ (.int .i64 1)).setCell ⟨w.heap.size + 1, 1, none⟩ (.int .i64 (cval l i))).setCell ⟨w.heap.size + 1, 2, none⟩ (.slice none 0 0)).cell? ⟨w.heap.size + 1, 1, none⟩ = some (.int .i64 (cval l i)) := cellW Q rfl
    have r2 : (((w2.setCell ⟨w.heap.size + 1, 0, none⟩ (.int .i64 1)).setCell ⟨w.heap.size + 1, 1, none⟩ (.int .i64 (cval l i))).setCell ⟨w.heap.size + 1, 2, none⟩ (.slice none 0 0)).cell? ⟨w.heap.size + 1, 2, none⟩ = some (.slice none 0 0) := cellW Q rfl
    have hneK : ∀ j, j < w.heap.size → j ≠ w.heap.size + 1 := fun j hj => by omega
    have G1 := Lib.grownBy_setB (Lib.grownBy_setB (Lib.grownBy_setCell w2 (w.heap.size + 1) 0 (.int .i64 1)) 1 (.int .i64 (cval l i))) 2 (.slice none 0 0)
    have HGf : w.grownBy (((w2.setCell ⟨w.heap.size + 1, 0, none⟩ (.int .i64 1)).setCell ⟨w.heap.size + 1, 1, none⟩ (.int .i64 (cval l i))).setCell ⟨w.heap.size + 1, 2, none⟩ (.slice none 0 0)) (some vb) := HG2.out.andThen G1 (fun j hj => by cases hj; exact .inl (by omega))
    have HCf : CompAt B (((w2.setCell ⟨w.heap.size + 1, 0, none⟩ (.int .i64 1)).setCell ⟨w.heap.size + 1, 1, none⟩ (.int .i64 (cval l i))).setCell ⟨w.heap.size + 1, 2, none⟩ (.slice none 0 0)) kp ib vb ps l a cap := HC2.out.other G1 (fun j hj => by cases hj; have := HC.out.bp; omega) (by simp; omega) (by have := HC.out.lt.2.1; simp; omega) (by simp; omega) (fun k hk => by have := (HC.out.places k hk).lt; simp; omega)
    clear Q G1
    generalize (((w2.setCell ⟨w.heap.size + 1, 0, none⟩ (.int .i64 1)).setCell ⟨w.heap.size + 1, 1, none⟩ (.int .i64 (cval l i))).setCell ⟨w.heap.size + 1, 2, none⟩ (.slice none 0 0)) = Wf at *
    refine bodyPost_ret (v := .agg #[.int .i64 1, .int .i64 (cval l i), .slice none 0 0]) (by simp [results, Tryz.results94, go_sem, r0, r1, r2]) rfl ?_
    rw [hz.out]
    exact ⟨none, 0, rfl, ⟨0, 0, fun h => absurd rfl h, .nil _ _⟩, by simp [FormM.args], HCf, HGf⟩
theorem FormsAt.mk1 {X : Nat → Prop} {w : World} {b off : Nat} {f : FormM} {a : Option Addr} {cap : Nat} (hb : b < w.heap.size) (hX : ¬ X b) (h0 : w.cell? ⟨b, off, none⟩ = some (.int .i64 f.op)) (h1 : w.cell? ⟨b, off + 1, none⟩ = some (.int .i64 f.num)) (h2 : w.cell? ⟨b, off + 2, none⟩ = some (.slice a f.args.length cap)) (hl : f.args.length ≤ 140737488355328) (hA : FArgsAt X w a f.args) : FormsAt X w b off [f] := by
  obtain ⟨b', off', ha, hx⟩ := hA
  exact .cons hb hX h0 h1 h2 hl ha hx (.nil _ _)
set_option maxHeartbeats 1600000 in
theorem constantV_of (B kp ib vb : Nat) (ps : List Nat) (l : List ConstM) (a : Option Addr) (cap : Nat) (i : Nat) (hi : i < l.length) (h0 : (ctyp l i).2 = 0) (IH : Hid (CompS B kp ib vb ps l a cap i)) : ConstVS B kp ib vb ps l a cap i := by
  intro s w hf hC
  have HC := Lib.hid hC
  have hl := hC.consts.1
  have hB : B ≤ w.heap.size := Nat.le_trans hC.bp (Nat.le_of_lt hC.lt.1)
  have z0 : w.cell? ⟨kp, 0, none⟩ = some (.slice a l.length cap) := cellW hC.box rfl
  have z1 : w.cell? ⟨kp, 1, none⟩ = some (.map (some ib)) := cellW hC.box rfl
  have z2 : w.cell? ⟨kp, 2, none⟩ = some (.map (some vb)) := cellW hC.box rfl
  obtain ⟨zs, zi, zv⟩ := hC.lt
  have L0 := look_idx hC.idx s
  have e1 : fiN l s = i := by simp [fiN, hf]
  have e2 : fiB l s = true := by simp [fiB, hf]
  rw [e1, e2] at L0
  clear e1 e2
  rcases look_val hC.vals i with L1 | L1
  · clear hC
    go_enter Tryz.func141, Tryz.ntmps141
    go_wp2_with fail
    go_ret
    exact ⟨rfl, HC.out, World.grownBy.refl _ _⟩
  · obtain ⟨b, off, rfl, hb, hcs⟩ := hC.consts.cells (by omega)
    obtain ⟨c0, s1, a2, cap2, ⟨c1, c2, c3, c4⟩, hfit, hargs⟩ := hcs i hi
    have hbr : b < w.heap.size := by omega
    have HF := Lib.hid hfit
    have HA := Lib.hid hargs
    obtain ⟨g1, g2, _⟩ := ctyp_ok h0
    obtain ⟨t1, t2, _⟩ := valE_ok g1
    have G2 := Lib.hid g2
    have HK := Lib.hid (fok_const l i h0)
    have Hcv := Lib.hid (cval_eq l i)
    clear hcs hargs hfit hC g1 g2
    go_enter Tryz.func141, Tryz.ntmps141
    go_wp2_with fail
    refine (IH.out 0 (csAt l i).ex a2 cap2 w (by omega) HC.out HF.out t1 t2 G2.out HA.out).mono ?_
    rintro e w2 ⟨fa, fc, rfl, hFA, hFl, hC2, hg2⟩
    have e0 : ((0 : Nat) : Int) = 0 := rfl
    rw [e0] at hFA hFl
    simp only [e0]
    obtain ⟨f, hfe⟩ : ∃ f, f = cmpE (cvC l i) 0 (csAt l i).ex := ⟨_, rfl⟩
    rw [← hfe] at hFA hFl HK Hcv
    simp only [← hfe]
    clear hfe e0
    have HFA := Lib.hid hFA
    have HC2 := Lib.hid hC2
    have HG2 := Lib.hid hg2
    have hsz2 := hg2.size
    clear hFA hC2 hg2 z0 z1 z2 c0 c1 c2 c3 c4 L0 L1
    go_wp2_with fail
    have HB3 := Lib.hid (below_new w2 (Obj.cells #[Value.int .i64 f.op, Value.int .i64 f.num, Value.slice fa f.args.length fc] 150))
    have q3 := heap_new w2 (Obj.cells #[Value.int .i64 f.op, Value.int .i64 f.num, Value.slice fa f.args.length fc] 150)
    have HFm := Lib.hid (show FormsAt (fun b => b < w.heap.size) (w2.alloc (Obj.cells #[Value.int .i64 f.op, Value.int .i64 f.num, Value.slice fa f.args.length fc] 150)) w2.heap.size 0 [f] from FormsAt.mk1 (by simp) (by simp; omega) (cellW q3 rfl) (cellW q3 rfl) (cellW q3 rfl) (by omega) (HFA.out.below HB3.out))
    have HC3 := Lib.hid (HC2.out.below HB3.out)
    have HG3 := Lib.hid (Lib.grownBy_trans HG2.out (grown_below (some vb) HB3.out))
    clear q3
    generalize w2.alloc (Obj.cells #[Value.int .i64 f.op, Value.int .i64 f.num, Value.slice fa f.args.length fc] 150) = W3 at *
    refine (value_any [] none 0 (fun b => b < w.heap.size) (by simp) f w2.heap.size 0 W3 HFm.out HK.out (.inl rfl)).mono ?_
    rintro e w4 ⟨rfl, hb4⟩
    have HC4 := Lib.hid (HC3.out.below hb4)
    have HG4 := Lib.hid (Lib.grownBy_trans HG3.out (grown_below (some vb) hb4))
    clear hb4 HC3 HG3 HFm HB3
    rw [← Hcv.out]
    have y2 : w4.cell? ⟨kp, 2, none⟩ = some (.map (some vb)) := cellW HC4.out.box rfl
    have ys := HC4.out.lt.1
    obtain ⟨w5, P1, V5, g5⟩ := put_val HC4.out.vals i
    have HC5 := Lib.hid (HC4.out.grown g5 V5)
    have HG5 := Lib.hid (Lib.grownBy_trans HG4.out g5)
    clear V5 g5
    go_wp2_with fail
    go_ret
    exact ⟨rfl, HC5.out, HG5.out⟩
end Go.Proofs.YtpgbckgjlgecpaaGreat
/- contract of Compile -/
namespace Go.Proofs.YtpgbckgjlgecpaaGreat
open Go.RowKit Go.Sort
set_option linter.unusedVariables false
set_option linter.unusedSimpArgs false
set_option maxRecDepth 100000
theorem info_form : (Tryz.prog.info? 150).map (fun i => (i.zero, i.size, i.bytes)) = some (some (.agg #[.int .i64 0, .int .i64 0, .slice none 0 0]), 3, 40) := by kernel_rfl
theorem make_forms (n : Nat) (hn : n ≤ 200) (w : World) : (Instr.makeSlice 143 (.int .i64 (n : Int)) (.int .i64 (n : Int))).run Tryz.prog w = .ok (.slice (some ⟨w.heap.size, 0, none⟩) n n) (w.alloc (.cells (madeCells #[.int .i64 0, .int .i64 0, .slice none 0 0] (n * 3)) 150)) := by
  obtain ⟨i, hi, hz, hs, hb⟩ := info_parts info_form
  have hr := run_make (P := Tryz.prog) w 143 150 i (.agg #[.int .i64 0, .int .i64 0, .slice none 0 0]) Tryz.underlying143 hi hz .i64 .i64 n n (by omega) (Int.le_refl _) (by rw [hb]; omega) (by omega)
  simp only [Int.toNat_natCast, hs] at hr
  exact hr
/-- the cells of formulas, one behind the other -/
inductive FRow (X : Nat → Prop) (w : World) : List Value → List FormM → Prop
  | nil : FRow X w [] []
  | snoc {cs : List Value} {fs : List FormM} {f : FormM} {a : Option Addr} {cap : Nat} (h : FRow X w cs fs) (hl : f.args.length ≤ 140737488355328) (ha : FArgsAt X w a f.args) : FRow X w (cs ++ [.int .i64 f.op, .int .i64 f.num, .slice a f.args.length cap]) (fs ++ [f])
theorem FRow.len {X : Nat → Prop} {w : World} {cs : List Value} {fs : List FormM} (h : FRow X w cs fs) : cs.length = fs.length * 3 := by
  induction h with
  | nil => rfl
  | snoc h hl ha ih => simp [ih]; omega
theorem FRow.step {X X' : Nat → Prop} {w w' : World} {cs : List Value} {fs : List FormM} (h : FRow X w cs fs) (hs : w.heap.size ≤ w'.heap.size) (hw : ∀ b, b < w.heap.size → ¬ X b → w'.heap[b]? = w.heap[b]?) (hX : ∀ b, b < w.heap.size → X' b → X b) : FRow X' w' cs fs := by
  induction h with
  | nil => exact .nil
  | snoc h hl ha ih => exact .snoc ih hl (ha.step hs hw hX)
theorem FormsAt.app {X : Nat → Prop} {w : World} {b : Nat} : ∀ {l : List FormM} {off : Nat} {f : FormM}, FormsAt X w b off l → FormsAt X w b (off + l.length * 3) [f] → FormsAt X w b off (l ++ [f]) := by
  intro l
  induction l with
  | nil => intro off f _ h; simpa using h
  | cons x l ih =>
    intro off f h h1
    cases h with
    | cons hb hX h0 h1' h2 hl ha hx ht =>
      refine .cons hb hX h0 h1' h2 hl ha hx (ih ht ?_)
      have e : off + (x :: l).length * 3 = off + 3 + l.length * 3 := by simp; omega
      rw [e] at h1; exact h1
theorem FRow.forms {X : Nat → Prop} {w : World} {cs : List Value} {fs : List FormM} (h : FRow X w cs fs) {b : Nat} {C : Array Value} {t : TypeId} (hC : w.heap[b]? = some (.cells C t (0, 0))) (hX : ¬ X b) (hcs : C.toList.take cs.length = cs) : FormsAt X w b 0 fs := by
  have hb := lt_of_block hC
  induction h with
  | nil => exact .nil _ _
  | @snoc cs fs f a cap h hl ha ih =>
    have hlen := h.len
    have hpre : C.toList.take cs.length = cs := by
      have := congrArg (List.take cs.length) hcs
      rw [List.take_take] at this
      simpa using this
    have hg : ∀ j v, [Value.int .i64 f.op, .int .i64 f.num, .slice a f.args.length cap][j]? = some v → C[cs.length + j]? = some v := fun j v hv => by
      have hj : j < 3 := by
        have := (List.getElem?_eq_some_iff.1 hv).1
        simpa using this
      have e : (C.toList.take (cs ++ [Value.int .i64 f.op, .int .i64 f.num, .slice a f.args.length cap]).length)[cs.length + j]? = some v := by
        rw [hcs, List.getElem?_append_right (by omega), Nat.add_sub_cancel_left]; exact hv
      rw [List.getElem?_take, if_pos (by simp; omega)] at e
      simpa using e
    refine FormsAt.app (ih hpre) ?_
    rw [Nat.zero_add, ← hlen]
    exact FormsAt.mk1 hb hX (cellW (j := cs.length) hC (hg 0 _ rfl)) (cellW (j := cs.length + 1) hC (hg 1 _ rfl)) (cellW (j := cs.length + 2) hC (hg 2 _ rfl)) hl ha
theorem ty_args {lk : ByteArray → Option (Int × Int)} {k o nu : Int} {s : ByteArray} {xl : List ExprM} (h : (tyE lk k (.mk o nu s xl)).2 = 0) (o6 : o ≠ 6) : ∀ j, j < xl.length → (tyE lk k (eAt xl j)).2 = 0 := by
  rw [tyE, if_neg o6] at h
  by_cases h1 : (tyL lk k xl).1 ≠ 0
  · rw [if_pos h1] at h; exact absurd h h1
  · exact fun j hj => ((tyL_all (Classical.not_not.1 h1)).2 j hj).1
theorem cell_set3 (w : World) {ab b : Nat} (h : b ≠ ab) (o i1 i2 i3 : Nat) (u1 u2 u3 : Value) : (((w.setCell ⟨ab, i1, none⟩ u1).setCell ⟨ab, i2, none⟩ u2).setCell ⟨ab, i3, none⟩ u3).cell? ⟨b, o, none⟩ = w.cell? ⟨b, o, none⟩ := by
  have e : (((w.setCell ⟨ab, i1, none⟩ u1).setCell ⟨ab, i2, none⟩ u2).setCell ⟨ab, i3, none⟩ u3).heap[b]? = w.heap[b]? := by
    rw [Below.heap_setCell _ _ _ _ h, Below.heap_setCell _ _ _ _ h, Below.heap_setCell _ _ _ _ h]
  simp only [World.cell?, e]
theorem grownBy_drewn {w w' : World} {row : Option Nat} (h : w.grownBy w' row) : w.grownBy w'.drew row := ⟨h.os, h.tape, h.output, h.size, h.block⟩
theorem take_set3 {C : Array Value} {cs : List Value} {m : Nat} (h : C.toList.take m = cs) (hm : m + 3 ≤ C.size) (v0 v1 v2 : Value) : (((C.setIfInBounds m v0).setIfInBounds (m + 1) v1).setIfInBounds (m + 2) v2).toList.take (m + 3) = cs ++ [v0, v1, v2] := by
  subst h
  obtain ⟨L⟩ := C
  simp only [List.setIfInBounds_toArray, List.size_toArray] at hm ⊢
  have hd : L = L.take m ++ L.drop m := (List.take_append_drop m L).symm
  obtain ⟨x, y, z, T, hT⟩ : ∃ x y z T, L.drop m = x :: y :: z :: T := by
    have hl : 3 ≤ (L.drop m).length := by simp; omega
    match hh : L.drop m, hl with
    | x :: y :: z :: T, _ => exact ⟨x, y, z, T, rfl⟩
  have hlen : (L.take m).length = m := by simp; omega
  generalize L.take m = A at *
  rw [hd, hT]
  subst hlen
  simp [List.set_append, List.take_append]
  exact List.take_of_length_le (by omega)
set_option maxHeartbeats 3200000 in
theorem compile_args (B kp ib vb : Nat) (ps : List Nat) (l : List ConstM) (a : Option Addr) (cap : Nat) (n : Nat) (k : Nat) (hk : k < 4) (o nu : Int) (s : ByteArray) (xl : List ExprM) (o7 : 7 ≤ o) (xa : Option Addr) (xc : Nat) (w : World) (hC : CompAt B w kp ib vb ps l a cap) (hwf : wfE (.mk o nu s xl) = true) (hcnt : cntE (.mk o nu s xl) ≤ 200) (ht : (tyE (lkC l n) k (.mk o nu s xl)).2 = 0) (ha : ArgsAt B w xa xl)
    (IH : Hid (∀ x : ExprM, SizeOf.sizeOf x < SizeOf.sizeOf (ExprM.mk o nu s xl) → ∀ (xa : Option Addr) (xc : Nat) (w : World), CompAt B w kp ib vb ps l a cap → ExprFit x → wfE x = true → cntE x ≤ 200 → (tyE (lkC l n) k x).2 = 0 → ArgsAt B w xa x.args →
      Calls Tryz.prog 94 #[.pointer (some ⟨kp, 0, none⟩), .int .i64 k, .agg #[.int .i64 x.op, .int .i64 x.num, .string x.name, .slice xa x.args.length xc]] w (CmpPost B kp ib vb ps l a cap w (cmpE (cvC l n) k x)))) :
    Calls Tryz.prog 94 #[.pointer (some ⟨kp, 0, none⟩), .int .i64 k, .agg #[.int .i64 o, .int .i64 nu, .string s, .slice xa xl.length xc]] w (CmpPost B kp ib vb ps l a cap w (cmpE (cvC l n) k (.mk o nu s xl))) := by
  have HC := Lib.hid hC
  have HA := Lib.hid ha
  have HT := Lib.hid ht
  have hB : B ≤ w.heap.size := Nat.le_trans hC.bp (Nat.le_of_lt hC.lt.1)
  obtain ⟨hkp, hib, hvb⟩ := hC.lt
  have hbv := hC.bv
  obtain ⟨hh, hwl⟩ := wf_head hwf
  have hcl : 1 + cntL xl ≤ 200 := by rw [cntE] at hcnt; exact hcnt
  have hlen : xl.length ≤ 200 := by have := len_cntL xl; omega
  have n1 : (o == 1) = false := by simp; omega
  have n2 : (o == 2) = false := by simp; omega
  have n3 : (o == 3) = false := by simp; omega
  have n4 : (o == 4) = false := by simp; omega
  have n5 : (o == 5) = false := by simp; omega
  have n6 : (o == 6) = false := by simp; omega
  have HW := Lib.hid hwl
  have mkS := make_forms xl.length hlen
  clear hC ha ht hwf hcnt hh hwl
  go_enter Tryz.func94, Tryz.ntmps94
  go_wp2_with fail
  have Hz := Lib.hid (show cmpE (cvC l n) k (.mk o nu s xl) = .mk o 0 (cmpL (cvC l n) k xl) by rw [cmpE, if_neg (by omega), if_neg (by omega), if_neg (by omega), if_neg (by omega)])
  have HTA := Lib.hid (ty_args HT.out (by omega))
  go_region
  · have e2 : ((w.alloc (Obj.cells #[Value.int .i64 o, Value.int .i64 nu, Value.string s, Value.slice xa xl.length xc] 111)).alloc (Obj.cells #[Value.int .i64 0, Value.int .i64 0, Value.slice none 0 0] 150)).heap.size = w.heap.size + 1 + 1 := by rw [alloc_size, alloc_size]
    obtain ⟨W, hW⟩ : ∃ W, W = ((((w.alloc (Obj.cells #[Value.int .i64 o, Value.int .i64 nu, Value.string s, Value.slice xa xl.length xc] 111)).alloc (Obj.cells #[Value.int .i64 0, Value.int .i64 0, Value.slice none 0 0] 150)).alloc (Obj.cells (madeCells #[Value.int .i64 0, Value.int .i64 0, Value.slice none 0 0] (xl.length * 3)) 150)).alloc (Obj.cells #[Value.int .i64 o, Value.int .i64 0, Value.slice (some ⟨w.heap.size + 1 + 1, 0, none⟩) xl.length xl.length] 150)).drew := ⟨_, rfl⟩
    have HB := Lib.hid (show Below w.heap.size w W by rw [hW]; exact (Below.then (Below.then (below_new w _) (below_new _ _)) (Below.then (below_new _ _) (below_new _ _))).drew)
    have QR := Lib.hid (show W.heap[w.heap.size + 1]? = some (Obj.cells #[Value.int .i64 0, Value.int .i64 0, Value.slice none 0 0] 150) by rw [hW, ← alloc_size w (Obj.cells #[Value.int .i64 o, Value.int .i64 nu, Value.string s, Value.slice xa xl.length xc] 111)]; exact one_alloc (one_alloc (heap_new (w.alloc (Obj.cells #[Value.int .i64 o, Value.int .i64 nu, Value.string s, Value.slice xa xl.length xc] 111)) _)))
    have QX := Lib.hid (show W.heap[w.heap.size]? = some (Obj.cells #[Value.int .i64 o, Value.int .i64 nu, Value.string s, Value.slice xa xl.length xc] 111) by rw [hW]; exact one_alloc (one_alloc (one_alloc (heap_new w _))))
    have QF := Lib.hid (show W.heap[w.heap.size + 1 + 1 + 1]? = some (Obj.cells #[Value.int .i64 o, Value.int .i64 0, Value.slice (some ⟨w.heap.size + 1 + 1, 0, none⟩) xl.length xl.length] 150) by have h := heap_new (((w.alloc (Obj.cells #[Value.int .i64 o, Value.int .i64 nu, Value.string s, Value.slice xa xl.length xc] 111)).alloc (Obj.cells #[Value.int .i64 0, Value.int .i64 0, Value.slice none 0 0] 150)).alloc (Obj.cells (madeCells #[Value.int .i64 0, Value.int .i64 0, Value.slice none 0 0] (xl.length * 3)) 150)) (Obj.cells #[Value.int .i64 o, Value.int .i64 0, Value.slice (some ⟨w.heap.size + 1 + 1, 0, none⟩) xl.length xl.length] 150); rw [alloc_size, e2] at h; rw [hW]; exact h)
    have QA := Lib.hid (show W.heap[w.heap.size + 1 + 1]? = some (Obj.cells (madeCells #[Value.int .i64 0, Value.int .i64 0, Value.slice none 0 0] (xl.length * 3)) 150) by rw [hW, ← e2]; exact one_alloc (heap_new ((w.alloc (Obj.cells #[Value.int .i64 o, Value.int .i64 nu, Value.string s, Value.slice xa xl.length xc] 111)).alloc (Obj.cells #[Value.int .i64 0, Value.int .i64 0, Value.slice none 0 0] 150)) _))
    change Exit.then _ _ _ _ (((((w.alloc (Obj.cells #[Value.int .i64 o, Value.int .i64 nu, Value.string s, Value.slice xa xl.length xc] 111)).alloc (Obj.cells #[Value.int .i64 0, Value.int .i64 0, Value.slice none 0 0] 150)).alloc (Obj.cells (madeCells #[Value.int .i64 0, Value.int .i64 0, Value.slice none 0 0] (xl.length * 3)) 150)).alloc (Obj.cells #[Value.int .i64 o, Value.int .i64 0, Value.slice (some ⟨w.heap.size + 1 + 1, 0, none⟩) xl.length xl.length] 150)).drew)
    rw [← hW]
    clear hW mkS e2
    obtain ⟨fb, hfb⟩ : ∃ fb, fb = w.heap.size + 1 + 1 + 1 := ⟨_, rfl⟩
    simp only [← hfb] at QF QA ⊢
    obtain ⟨ab, hab⟩ : ∃ ab, ab = w.heap.size + 1 + 1 := ⟨_, rfl⟩
    simp only [← hab] at QF QA ⊢
    have hlo : w.heap.size + 1 < fb ∧ w.heap.size + 1 < ab ∧ fb ≠ ab := by omega
    obtain ⟨hlo1, hlo2, hlo3⟩ := hlo
    have hX3 : W.cell? ⟨w.heap.size, 3, none⟩ = some (.slice xa xl.length xc) := cellW QX.out rfl
    have hXs : w.heap.size < W.heap.size := lt_of_block QX.out
    have HC0 := Lib.hid (HC.out.below HB.out)
    clear hab hfb
    go_wp2_with fail
    clear hX3 hXs QX
    go_loopw [65] (fun i wr => ∃ (j : Nat) (C : Array Value) (cs : List Value), j ≤ xl.length ∧ i = .int .i64 j ∧ Hid (C.size = xl.length * 3 ∧ C.toList.take (j * 3) = cs) ∧ Hid (FRow (fun b => b < w.heap.size + 2 ∨ b = ab) wr cs (cmpL (cvC l n) k (xl.take j))) ∧ Hid (wr.heap[w.heap.size + 1]? = some (Obj.cells #[Value.int .i64 0, Value.int .i64 0, Value.slice none 0 0] 150)) ∧ Hid (wr.heap[fb]? = some (Obj.cells #[Value.int .i64 o, Value.int .i64 0, Value.slice (some ⟨ab, 0, none⟩) xl.length xl.length] 150)) ∧ Hid (wr.heap[ab]? = some (Obj.cells C 150 (0, 0))) ∧ Hid (CompAt B wr kp ib vb ps l a cap) ∧ Hid (w.grownBy wr (some vb))) (fun i _ => xl.length - (intOf i).toNat)
    case atStart => exact ⟨0, _, [], Nat.zero_le _, rfl, Lib.hid ⟨by rw [size_madeCells], by simp⟩, Lib.hid (by rw [List.take_zero, cmpL]; exact .nil), QR, QF, QA, HC0, Lib.hid (grown_below _ HB.out)⟩
    clear QR QF QA HC0 HB W
    case round =>
      obtain ⟨j, C, cs, hj, rfl, hCs, hRow, hQR, hQF, hQA, hC, hgr⟩ := hrel
      by_cases hlt : j < xl.length
      · obtain ⟨b, off, rfl, hb, hcs⟩ := HA.out.cells (by omega)
        have hBw : Below B w wr := (Below.refl B w).grown hgr.out hB (fun j hj => by cases hj; exact hbv)
        obtain ⟨a2, cap2, hbB, ⟨c0, c1, c2, c3⟩, hfit, hargs⟩ := (hcs.keep hBw).at j hlt
        have has : ab < wr.heap.size := lt_of_block hQA.out
        have hfs : fb < wr.heap.size := lt_of_block hQF.out
        have hbr : b < wr.heap.size := by omega
        have HF := Lib.hid hfit
        have HAr := Lib.hid (hargs.keep ((below_new wr (Obj.cells #[Value.int .i64 (eAt xl j).op, Value.int .i64 (eAt xl j).num, Value.string (eAt xl j).name, Value.slice a2 (eAt xl j).args.length cap2] 111)).mono (by omega)))
        have HC1 := Lib.hid (hC.out.below (below_new wr (Obj.cells #[Value.int .i64 (eAt xl j).op, Value.int .i64 (eAt xl j).num, Value.string (eAt xl j).name, Value.slice a2 (eAt xl j).args.length cap2] 111)))
        have HG1 := Lib.hid (Lib.grownBy_trans hgr.out (grown_below (some vb) (below_new wr (Obj.cells #[Value.int .i64 (eAt xl j).op, Value.int .i64 (eAt xl j).num, Value.string (eAt xl j).name, Value.slice a2 (eAt xl j).args.length cap2] 111))))
        have HR1 := Lib.hid (hRow.out.step (below_new wr (Obj.cells #[Value.int .i64 (eAt xl j).op, Value.int .i64 (eAt xl j).num, Value.string (eAt xl j).name, Value.slice a2 (eAt xl j).args.length cap2] 111)).size (fun b h _ => (below_new wr (Obj.cells #[Value.int .i64 (eAt xl j).op, Value.int .i64 (eAt xl j).num, Value.string (eAt xl j).name, Value.slice a2 (eAt xl j).args.length cap2] 111)).block b h) (fun _ _ h => h))
        have QR1 := Lib.hid (one_alloc (o' := (Obj.cells #[Value.int .i64 (eAt xl j).op, Value.int .i64 (eAt xl j).num, Value.string (eAt xl j).name, Value.slice a2 (eAt xl j).args.length cap2] 111)) hQR.out)
        have QF1 := Lib.hid (one_alloc (o' := (Obj.cells #[Value.int .i64 (eAt xl j).op, Value.int .i64 (eAt xl j).num, Value.string (eAt xl j).name, Value.slice a2 (eAt xl j).args.length cap2] 111)) hQF.out)
        have QA1 := Lib.hid (one_alloc (o' := (Obj.cells #[Value.int .i64 (eAt xl j).op, Value.int .i64 (eAt xl j).num, Value.string (eAt xl j).name, Value.slice a2 (eAt xl j).args.length cap2] 111)) hQA.out)
        have QE1 := Lib.hid (heap_new wr (Obj.cells #[Value.int .i64 (eAt xl j).op, Value.int .i64 (eAt xl j).num, Value.string (eAt xl j).name, Value.slice a2 (eAt xl j).args.length cap2] 111))
        clear hargs hcs hfit hC hgr hQR hQF hQA hBw hRow
        go_wp2_with fail
        generalize wr.alloc (Obj.cells #[Value.int .i64 (eAt xl j).op, Value.int .i64 (eAt xl j).num, Value.string (eAt xl j).name, Value.slice a2 (eAt xl j).args.length cap2] 111) = W1 at *
        have z2 : W1.drew.cell? ⟨fb, 2, none⟩ = some (.slice (some ⟨ab, 0, none⟩) xl.length xl.length) := cellW QF1.out rfl
        have x0 : W1.drew.cell? ⟨wr.heap.size, 0, none⟩ = some (.int .i64 (eAt xl j).op) := cellW QE1.out rfl
        have x1 : W1.drew.cell? ⟨wr.heap.size, 1, none⟩ = some (.int .i64 (eAt xl j).num) := cellW QE1.out rfl
        have x2 : W1.drew.cell? ⟨wr.heap.size, 2, none⟩ = some (.string (eAt xl j).name) := cellW QE1.out rfl
        have x3 : W1.drew.cell? ⟨wr.heap.size, 3, none⟩ = some (.slice a2 (eAt xl j).args.length cap2) := cellW QE1.out rfl
        have z2' : W1.cell? ⟨fb, 2, none⟩ = some (.slice (some ⟨ab, 0, none⟩) xl.length xl.length) := cellW QF1.out rfl
        have x0' : W1.cell? ⟨wr.heap.size, 0, none⟩ = some (.int .i64 (eAt xl j).op) := cellW QE1.out rfl
        have x1' : W1.cell? ⟨wr.heap.size, 1, none⟩ = some (.int .i64 (eAt xl j).num) := cellW QE1.out rfl
        have x2' : W1.cell? ⟨wr.heap.size, 2, none⟩ = some (.string (eAt xl j).name) := cellW QE1.out rfl
        have x3' : W1.cell? ⟨wr.heap.size, 3, none⟩ = some (.slice a2 (eAt xl j).args.length cap2) := cellW QE1.out rfl
        have xs : wr.heap.size < W1.heap.size := lt_of_block QE1.out
        have HC1d := Lib.hid (HC1.out.below ((Below.refl _ W1).drew))
        have HArd := Lib.hid (HAr.out.keep ((Below.refl B W1).drew))
        have hsa := size_arg (x := .mk o nu s xl) hlt
        have hwa := wfL_at HW.out j hlt
        have hca : cntE (eAt xl j) ≤ 200 := by have := cntL_at (l := xl) j hlt; omega
        have hta := HTA.out j hlt
        have hWs : W1.drew.heap.size = W1.heap.size := rfl
        have hasW : ab < W1.drew.heap.size := lt_of_block QA1.out
        have hfsW : fb < W1.drew.heap.size := lt_of_block QF1.out
        have hxsW : wr.heap.size < W1.drew.heap.size := lt_of_block QE1.out
        have hnx : wr.heap.size ≠ ab := by omega
        have hCsz : j * 3 + 3 ≤ C.size := by have := hCs.out.1; omega
        clear z2' x0' x1' x2' x3' xs
        obtain ⟨WD, hWD⟩ : ∃ WD, WD = W1.drew := ⟨_, rfl⟩
        go_region_held3 (fun w' => w'.cell? ⟨fb, 2, none⟩ = some (.slice (some ⟨ab, 0, none⟩) xl.length xl.length) ∧ w'.cell? ⟨wr.heap.size, 0, none⟩ = some (.int .i64 (eAt xl j).op) ∧ w'.cell? ⟨wr.heap.size, 1, none⟩ = some (.int .i64 (eAt xl j).num) ∧ w'.cell? ⟨wr.heap.size, 2, none⟩ = some (.string (eAt xl j).name) ∧ w'.cell? ⟨wr.heap.size, 3, none⟩ = some (.slice a2 (eAt xl j).args.length cap2)) (first | exact ⟨z2, x0, x1, x2, x3⟩ | exact ⟨k2, k3, k4, k5, k6⟩ | exact ⟨(cell_set3 _ hlo3 _ _ _ _ _ _ _).trans k2, (cell_set3 _ hnx _ _ _ _ _ _ _).trans k3, (cell_set3 _ hnx _ _ _ _ _ _ _).trans k4, (cell_set3 _ hnx _ _ _ _ _ _ _).trans k5, (cell_set3 _ hnx _ _ _ _ _ _ _).trans k6⟩)
          (first | (go_at_call 94; refine (IH.out (eAt xl j) hsa a2 cap2 W1.drew HC1d.out HF.out hwa hca hta HArd.out).mono ?_; rintro e w2 ⟨fa, fc, rfl, hFA, hFl, hC2, hg2⟩; have q4 := (hg2.block _ hasW (by simp; omega)).trans QA1.out; have k2 := (hg2.cell_far ⟨fb, 2, none⟩ hfsW (by simp; omega)).trans z2; have k3 := (hg2.cell_far ⟨wr.heap.size, 0, none⟩ hxsW (by simp; omega)).trans x0; have k4 := (hg2.cell_far ⟨wr.heap.size, 1, none⟩ hxsW (by simp; omega)).trans x1; have k5 := (hg2.cell_far ⟨wr.heap.size, 2, none⟩ hxsW (by simp; omega)).trans x2; have k6 := (hg2.cell_far ⟨wr.heap.size, 3, none⟩ hxsW (by simp; omega)).trans x3; have y0 := cellW (j := j * 3) q4 (Array.getElem?_eq_getElem (by omega)); have y1 := cellW (j := j * 3 + 1) q4 (Array.getElem?_eq_getElem (by omega)); have y2 := cellW (j := j * 3 + 2) q4 (Array.getElem?_eq_getElem (by omega)); have u0 := freeW (j := j * 3) q4; have u1 := freeW (j := j * 3 + 1) q4; have u2 := freeW (j := j * 3 + 2) q4))
        obtain ⟨f, hfe⟩ : ∃ f, f = cmpE (cvC l n) k (eAt xl j) := ⟨_, rfl⟩
        rw [← hfe] at hFA hFl
        simp only [← hfe]
        have hvw : vb ≠ ab := by omega
        have G3 := Lib.grownBy_setB (Lib.grownBy_setB (Lib.grownBy_setCell w2 ab (j * 3) (.int .i64 f.op)) (j * 3 + 1) (.int .i64 f.num)) (j * 3 + 2) (.slice fa f.args.length fc)
        have s2 : W1.heap.size ≤ w2.heap.size := hg2.size
        have s3 : w2.heap.size ≤ (((w2.setCell ⟨ab, j * 3, none⟩ (.int .i64 f.op)).setCell ⟨ab, j * 3 + 1, none⟩ (.int .i64 f.num)).setCell ⟨ab, j * 3 + 2, none⟩ (.slice fa f.args.length fc)).heap.size := G3.size
        have HFA3 := hFA.step (X' := fun b => b < w.heap.size + 2 ∨ b = ab) s3 (fun b h1 h2 => G3.block b h1 (by simp; intro e; exact h2 (by show b < W1.heap.size; omega))) (fun b h1 h2 => by show b < W1.heap.size; rcases h2 with h2 | h2 <;> omega)
        have HR3 := HR1.out.step (X' := fun b => b < w.heap.size + 2 ∨ b = ab) (Nat.le_trans s2 s3) (fun b h1 h2 => (G3.block b (by omega) (by simp; intro e; exact h2 (.inr e))).trans (hg2.block b h1 (by simp; intro e; exact h2 (.inl (by omega))))) (fun b _ h => h)
        have HR4 := Lib.hid (FRow.snoc (cap := fc) HR3 (by omega) HFA3)
        rw [hfe, ← cmpL_take (cvC l n) k xl j hlt, ← hfe] at HR4
        have Q3 := Lib.hid (block_setCell (i := j * 3 + 2) (u := .slice fa f.args.length fc) (block_setCell (i := j * 3 + 1) (u := .int .i64 f.num) (block_setCell (i := j * 3) (u := .int .i64 f.op) q4)))
        have hCs3 := Lib.hid (show (((C.setIfInBounds (j * 3) (.int .i64 f.op)).setIfInBounds (j * 3 + 1) (.int .i64 f.num)).setIfInBounds (j * 3 + 2) (.slice fa f.args.length fc)).size = xl.length * 3 ∧ (((C.setIfInBounds (j * 3) (.int .i64 f.op)).setIfInBounds (j * 3 + 1) (.int .i64 f.num)).setIfInBounds (j * 3 + 2) (.slice fa f.args.length fc)).toList.take ((j + 1) * 3) = cs ++ [.int .i64 f.op, .int .i64 f.num, .slice fa f.args.length fc] from ⟨by simp [hCs.out.1], by have := take_set3 hCs.out.2 hCsz (.int .i64 f.op) (.int .i64 f.num) (.slice fa f.args.length fc); rw [show (j + 1) * 3 = j * 3 + 3 by omega]; exact this⟩)
        have QR3 := Lib.hid ((G3.block _ (by have := lt_of_block QR1.out; omega) (by simp; omega)).trans ((hg2.block _ (lt_of_block QR1.out) (by simp; omega)).trans QR1.out))
        have QF3 := Lib.hid ((G3.block _ (by have := lt_of_block QF1.out; omega) (by simp; omega)).trans ((hg2.block _ (lt_of_block QF1.out) (by simp; omega)).trans QF1.out))
        have HC3 := Lib.hid (hC2.other G3 (fun j hj => by cases hj; omega) (by simp; omega) (by simp; omega) (by simp; omega) (fun k hk => by have := (HC.out.places k hk).lt; simp; omega))
        have HG3 := Lib.hid ((Lib.grownBy_trans (grownBy_drewn HG1.out) hg2).andThen G3 (fun j hj => by cases hj; exact .inl (by omega)))
        clear hFA hFl hC2 hg2 q4 k2 k3 k4 k5 k6 y0 y1 y2 u0 u1 u2 G3 HFA3 HR3 HR1 QR1 QF1 QA1 QE1 HC1 HC1d HG1 HArd HAr z2 x0 x1 x2 x3 hWs hasW hfsW hxsW hCsz hCs hfe c0 c1 c2 c3 s2 s3 hWD
        generalize (((w2.setCell ⟨ab, j * 3, none⟩ (.int .i64 f.op)).setCell ⟨ab, j * 3 + 1, none⟩ (.int .i64 f.num)).setCell ⟨ab, j * 3 + 2, none⟩ (.slice fa f.args.length fc)) = W4 at *
        go_wp2_with fail
        go_roundw
        case rel => exact ⟨j + 1, _, _, by omega, by go_num, hCs3, HR4, QR3, QF3, Q3, HC3, HG3⟩
        case measure => simp [intOf]; omega
      · obtain rfl : j = xl.length := by omega
        have hrow := hRow.out
        rw [List.take_length] at hrow
        have v0 : wr.cell? ⟨fb, 0, none⟩ = some (.int .i64 o) := cellW hQF.out rfl
        have v1 : wr.cell? ⟨fb, 1, none⟩ = some (.int .i64 0) := cellW hQF.out rfl
        have v2 : wr.cell? ⟨fb, 2, none⟩ = some (.slice (some ⟨ab, 0, none⟩) xl.length xl.length) := cellW hQF.out rfl
        have y0 : wr.cell? ⟨w.heap.size + 1, 0, none⟩ = some (.int .i64 0) := cellW hQR.out rfl
        have y1 : wr.cell? ⟨w.heap.size + 1, 1, none⟩ = some (.int .i64 0) := cellW hQR.out rfl
        have y2 : wr.cell? ⟨w.heap.size + 1, 2, none⟩ = some (.slice none 0 0) := cellW hQR.out rfl
        have u0 : wr.frozen? ⟨w.heap.size + 1, 0, none⟩ = false := freeW hQR.out
        have u1 : wr.frozen? ⟨w.heap.size + 1, 1, none⟩ = false := freeW hQR.out
        have u2 : wr.frozen? ⟨w.heap.size + 1, 2, none⟩ = false := freeW hQR.out
        have us : w.heap.size + 1 < wr.heap.size := lt_of_block hQR.out
        have uf : fb < wr.heap.size := lt_of_block hQF.out
        have ua : ab < wr.heap.size := lt_of_block hQA.out
        have Q := block_setCell (i := 2) (u := .slice (some ⟨ab, 0, none⟩) xl.length xl.length) (block_setCell (i := 1) (u := .int .i64 0) (block_setCell (i := 0) (u := .int .i64 o) hQR.out))
        have G1 := Lib.grownBy_setB (Lib.grownBy_setB (Lib.grownBy_setCell wr (w.heap.size + 1) 0 (.int .i64 o)) 1 (.int .i64 0)) 2 (.slice (some ⟨ab, 0, none⟩) xl.length xl.length)
        have r0 : (((wr.setCell ⟨w.heap.size + 1, 0, none⟩ (.int .i64 o)).setCell ⟨w.heap.size + 1, 1, none⟩ (.int .i64 0)).setCell ⟨w.heap.size + 1, 2, none⟩ (.slice (some ⟨ab, 0, none⟩) xl.length xl.length)).cell? ⟨w.heap.size + 1, 0, none⟩ = some (.int .i64 o) := cellW Q rfl
        have r1 : (((wr.setCell ⟨w.heap.size + 1, 0, none⟩ (.int .i64 o)).setCell ⟨w.heap.size + 1, 1, none⟩ (.int .i64 0)).setCell ⟨w.heap.size + 1, 2, none⟩ (.slice (some ⟨ab, 0, none⟩) xl.length xl.length)).cell? ⟨w.heap.size + 1, 1, none⟩ = some (.int .i64 0) := cellW Q rfl
        have r2 : (((wr.setCell ⟨w.heap.size + 1, 0, none⟩ (.int .i64 o)).setCell ⟨w.heap.size + 1, 1, none⟩ (.int .i64 0)).setCell ⟨w.heap.size + 1, 2, none⟩ (.slice (some ⟨ab, 0, none⟩) xl.length xl.length)).cell? ⟨w.heap.size + 1, 2, none⟩ = some (.slice (some ⟨ab, 0, none⟩) xl.length xl.length) := cellW Q rfl
        have HGf := Lib.hid (hgr.out.andThen G1 (fun j hj => by cases hj; exact .inl (by omega)))
        have HCf := Lib.hid (hC.out.other G1 (fun j hj => by cases hj; omega) (by simp; omega) (by simp; omega) (by simp; omega) (fun k hk => by have := (HC.out.places k hk).lt; simp; omega))
        have hlen3 : cs.length = xl.length * 3 := by rw [hrow.len, cmpL_len]
        have htk : C.toList.take cs.length = cs := by rw [hlen3]; exact hCs.out.2
        have HRf := hrow.step (X' := fun b => b < w.heap.size) (w' := (((wr.setCell ⟨w.heap.size + 1, 0, none⟩ (.int .i64 o)).setCell ⟨w.heap.size + 1, 1, none⟩ (.int .i64 0)).setCell ⟨w.heap.size + 1, 2, none⟩ (.slice (some ⟨ab, 0, none⟩) xl.length xl.length))) G1.size (fun b h1 h2 => G1.block b h1 (by simp; intro e; exact h2 (.inl (by omega)))) (fun b _ h => .inl (by omega))
        have HFf := Lib.hid (HRf.forms (b := ab) ((G1.block ab ua (by simp; omega)).trans hQA.out) (by omega) htk)
        clear Q G1 HRf htk hlen3 hrow hRow hCs hQR hQF hQA hC hgr
        go_wp2_with fail
        generalize (((wr.setCell ⟨w.heap.size + 1, 0, none⟩ (.int .i64 o)).setCell ⟨w.heap.size + 1, 1, none⟩ (.int .i64 0)).setCell ⟨w.heap.size + 1, 2, none⟩ (.slice (some ⟨ab, 0, none⟩) xl.length xl.length)) = Wf at *
        refine bodyPost_ret (v := .agg #[.int .i64 o, .int .i64 0, .slice (some ⟨ab, 0, none⟩) xl.length xl.length]) (by simp [results, Tryz.results94, go_sem, r0, r1, r2]) rfl ?_
        rw [Hz.out]
        refine ⟨some ⟨ab, 0, none⟩, xl.length, ?_, ⟨ab, 0, fun _ => rfl, HFf.out⟩, ?_, HCf.out, HGf.out⟩
        · simp only [FormM.op, FormM.num, FormM.args, cmpL_len]
        · simp only [FormM.args, cmpL_len]; exact hlen
  · have e2 : ((w.alloc (Obj.cells #[Value.int .i64 o, Value.int .i64 nu, Value.string s, Value.slice xa xl.length xc] 111)).alloc (Obj.cells #[Value.int .i64 0, Value.int .i64 0, Value.slice none 0 0] 150)).heap.size = w.heap.size + 1 + 1 := by rw [alloc_size, alloc_size]
    obtain ⟨W, hW⟩ : ∃ W, W = ((((w.alloc (Obj.cells #[Value.int .i64 o, Value.int .i64 nu, Value.string s, Value.slice xa xl.length xc] 111)).alloc (Obj.cells #[Value.int .i64 0, Value.int .i64 0, Value.slice none 0 0] 150)).alloc (Obj.cells #[Value.int .i64 o, Value.int .i64 0, Value.slice (some ⟨w.heap.size + 1 + 1 + 1, 0, none⟩) xl.length xl.length] 150)).alloc (Obj.cells (madeCells #[Value.int .i64 0, Value.int .i64 0, Value.slice none 0 0] (xl.length * 3)) 150)).drew := ⟨_, rfl⟩
    have HB := Lib.hid (show Below w.heap.size w W by rw [hW]; exact (Below.then (Below.then (below_new w _) (below_new _ _)) (Below.then (below_new _ _) (below_new _ _))).drew)
    have QR := Lib.hid (show W.heap[w.heap.size + 1]? = some (Obj.cells #[Value.int .i64 0, Value.int .i64 0, Value.slice none 0 0] 150) by rw [hW, ← alloc_size w (Obj.cells #[Value.int .i64 o, Value.int .i64 nu, Value.string s, Value.slice xa xl.length xc] 111)]; exact one_alloc (one_alloc (heap_new (w.alloc (Obj.cells #[Value.int .i64 o, Value.int .i64 nu, Value.string s, Value.slice xa xl.length xc] 111)) _)))
    have QX := Lib.hid (show W.heap[w.heap.size]? = some (Obj.cells #[Value.int .i64 o, Value.int .i64 nu, Value.string s, Value.slice xa xl.length xc] 111) by rw [hW]; exact one_alloc (one_alloc (one_alloc (heap_new w _))))
    have QF := Lib.hid (show W.heap[w.heap.size + 1 + 1]? = some (Obj.cells #[Value.int .i64 o, Value.int .i64 0, Value.slice (some ⟨w.heap.size + 1 + 1 + 1, 0, none⟩) xl.length xl.length] 150) by rw [hW, ← e2]; exact one_alloc (heap_new ((w.alloc (Obj.cells #[Value.int .i64 o, Value.int .i64 nu, Value.string s, Value.slice xa xl.length xc] 111)).alloc (Obj.cells #[Value.int .i64 0, Value.int .i64 0, Value.slice none 0 0] 150)) _))
    have QA := Lib.hid (show W.heap[w.heap.size + 1 + 1 + 1]? = some (Obj.cells (madeCells #[Value.int .i64 0, Value.int .i64 0, Value.slice none 0 0] (xl.length * 3)) 150) by have h := heap_new (((w.alloc (Obj.cells #[Value.int .i64 o, Value.int .i64 nu, Value.string s, Value.slice xa xl.length xc] 111)).alloc (Obj.cells #[Value.int .i64 0, Value.int .i64 0, Value.slice none 0 0] 150)).alloc (Obj.cells #[Value.int .i64 o, Value.int .i64 0, Value.slice (some ⟨w.heap.size + 1 + 1 + 1, 0, none⟩) xl.length xl.length] 150)) (Obj.cells (madeCells #[Value.int .i64 0, Value.int .i64 0, Value.slice none 0 0] (xl.length * 3)) 150); rw [alloc_size, e2] at h; rw [hW]; exact h)
    change Exit.then _ _ _ _ (((((w.alloc (Obj.cells #[Value.int .i64 o, Value.int .i64 nu, Value.string s, Value.slice xa xl.length xc] 111)).alloc (Obj.cells #[Value.int .i64 0, Value.int .i64 0, Value.slice none 0 0] 150)).alloc (Obj.cells #[Value.int .i64 o, Value.int .i64 0, Value.slice (some ⟨w.heap.size + 1 + 1 + 1, 0, none⟩) xl.length xl.length] 150)).alloc (Obj.cells (madeCells #[Value.int .i64 0, Value.int .i64 0, Value.slice none 0 0] (xl.length * 3)) 150)).drew)
    rw [← hW]
    clear hW mkS e2
    obtain ⟨ab, hab⟩ : ∃ ab, ab = w.heap.size + 1 + 1 + 1 := ⟨_, rfl⟩
    simp only [← hab] at QF QA ⊢
    obtain ⟨fb, hfb⟩ : ∃ fb, fb = w.heap.size + 1 + 1 := ⟨_, rfl⟩
    simp only [← hfb] at QF QA ⊢
    have hlo : w.heap.size + 1 < fb ∧ w.heap.size + 1 < ab ∧ fb ≠ ab := by omega
    obtain ⟨hlo1, hlo2, hlo3⟩ := hlo
    have hX3 : W.cell? ⟨w.heap.size, 3, none⟩ = some (.slice xa xl.length xc) := cellW QX.out rfl
    have hXs : w.heap.size < W.heap.size := lt_of_block QX.out
    have HC0 := Lib.hid (HC.out.below HB.out)
    clear hab hfb
    go_wp2_with fail
    clear hX3 hXs QX
    go_loopw [65] (fun i wr => ∃ (j : Nat) (C : Array Value) (cs : List Value), j ≤ xl.length ∧ i = .int .i64 j ∧ Hid (C.size = xl.length * 3 ∧ C.toList.take (j * 3) = cs) ∧ Hid (FRow (fun b => b < w.heap.size + 2 ∨ b = ab) wr cs (cmpL (cvC l n) k (xl.take j))) ∧ Hid (wr.heap[w.heap.size + 1]? = some (Obj.cells #[Value.int .i64 0, Value.int .i64 0, Value.slice none 0 0] 150)) ∧ Hid (wr.heap[fb]? = some (Obj.cells #[Value.int .i64 o, Value.int .i64 0, Value.slice (some ⟨ab, 0, none⟩) xl.length xl.length] 150)) ∧ Hid (wr.heap[ab]? = some (Obj.cells C 150 (0, 0))) ∧ Hid (CompAt B wr kp ib vb ps l a cap) ∧ Hid (w.grownBy wr (some vb))) (fun i _ => xl.length - (intOf i).toNat)
    case atStart => exact ⟨0, _, [], Nat.zero_le _, rfl, Lib.hid ⟨by rw [size_madeCells], by simp⟩, Lib.hid (by rw [List.take_zero, cmpL]; exact .nil), QR, QF, QA, HC0, Lib.hid (grown_below _ HB.out)⟩
    clear QR QF QA HC0 HB W
    case round =>
      obtain ⟨j, C, cs, hj, rfl, hCs, hRow, hQR, hQF, hQA, hC, hgr⟩ := hrel
      by_cases hlt : j < xl.length
      · obtain ⟨b, off, rfl, hb, hcs⟩ := HA.out.cells (by omega)
        have hBw : Below B w wr := (Below.refl B w).grown hgr.out hB (fun j hj => by cases hj; exact hbv)
        obtain ⟨a2, cap2, hbB, ⟨c0, c1, c2, c3⟩, hfit, hargs⟩ := (hcs.keep hBw).at j hlt
        have has : ab < wr.heap.size := lt_of_block hQA.out
        have hfs : fb < wr.heap.size := lt_of_block hQF.out
        have hbr : b < wr.heap.size := by omega
        have HF := Lib.hid hfit
        have HAr := Lib.hid (hargs.keep ((below_new wr (Obj.cells #[Value.int .i64 (eAt xl j).op, Value.int .i64 (eAt xl j).num, Value.string (eAt xl j).name, Value.slice a2 (eAt xl j).args.length cap2] 111)).mono (by omega)))
        have HC1 := Lib.hid (hC.out.below (below_new wr (Obj.cells #[Value.int .i64 (eAt xl j).op, Value.int .i64 (eAt xl j).num, Value.string (eAt xl j).name, Value.slice a2 (eAt xl j).args.length cap2] 111)))
        have HG1 := Lib.hid (Lib.grownBy_trans hgr.out (grown_below (some vb) (below_new wr (Obj.cells #[Value.int .i64 (eAt xl j).op, Value.int .i64 (eAt xl j).num, Value.string (eAt xl j).name, Value.slice a2 (eAt xl j).args.length cap2] 111))))
        have HR1 := Lib.hid (hRow.out.step (below_new wr (Obj.cells #[Value.int .i64 (eAt xl j).op, Value.int .i64 (eAt xl j).num, Value.string (eAt xl j).name, Value.slice a2 (eAt xl j).args.length cap2] 111)).size (fun b h _ => (below_new wr (Obj.cells #[Value.int .i64 (eAt xl j).op, Value.int .i64 (eAt xl j).num, Value.string (eAt xl j).name, Value.slice a2 (eAt xl j).args.length cap2] 111)).block b h) (fun _ _ h => h))
        have QR1 := Lib.hid (one_alloc (o' := (Obj.cells #[Value.int .i64 (eAt xl j).op, Value.int .i64 (eAt xl j).num, Value.string (eAt xl j).name, Value.slice a2 (eAt xl j).args.length cap2] 111)) hQR.out)
        have QF1 := Lib.hid (one_alloc (o' := (Obj.cells #[Value.int .i64 (eAt xl j).op, Value.int .i64 (eAt xl j).num, Value.string (eAt xl j).name, Value.slice a2 (eAt xl j).args.length cap2] 111)) hQF.out)
        have QA1 := Lib.hid (one_alloc (o' := (Obj.cells #[Value.int .i64 (eAt xl j).op, Value.int .i64 (eAt xl j).num, Value.string (eAt xl j).name, Value.slice a2 (eAt xl j).args.length cap2] 111)) hQA.out)
        have QE1 := Lib.hid (heap_new wr (Obj.cells #[Value.int .i64 (eAt xl j).op, Value.int .i64 (eAt xl j).num, Value.string (eAt xl j).name, Value.slice a2 (eAt xl j).args.length cap2] 111))
        clear hargs hcs hfit hC hgr hQR hQF hQA hBw hRow
        go_wp2_with fail
        generalize wr.alloc (Obj.cells #[Value.int .i64 (eAt xl j).op, Value.int .i64 (eAt xl j).num, Value.string (eAt xl j).name, Value.slice a2 (eAt xl j).args.length cap2] 111) = W1 at *
        have z2 : W1.drew.cell? ⟨fb, 2, none⟩ = some (.slice (some ⟨ab, 0, none⟩) xl.length xl.length) := cellW QF1.out rfl
        have x0 : W1.drew.cell? ⟨wr.heap.size, 0, none⟩ = some (.int .i64 (eAt xl j).op) := cellW QE1.out rfl
        have x1 : W1.drew.cell? ⟨wr.heap.size, 1, none⟩ = some (.int .i64 (eAt xl j).num) := cellW QE1.out rfl
        have x2 : W1.drew.cell? ⟨wr.heap.size, 2, none⟩ = some (.string (eAt xl j).name) := cellW QE1.out rfl
        have x3 : W1.drew.cell? ⟨wr.heap.size, 3, none⟩ = some (.slice a2 (eAt xl j).args.length cap2) := cellW QE1.out rfl
        have z2' : W1.cell? ⟨fb, 2, none⟩ = some (.slice (some ⟨ab, 0, none⟩) xl.length xl.length) := cellW QF1.out rfl
        have x0' : W1.cell? ⟨wr.heap.size, 0, none⟩ = some (.int .i64 (eAt xl j).op) := cellW QE1.out rfl
        have x1' : W1.cell? ⟨wr.heap.size, 1, none⟩ = some (.int .i64 (eAt xl j).num) := cellW QE1.out rfl
        have x2' : W1.cell? ⟨wr.heap.size, 2, none⟩ = some (.string (eAt xl j).name) := cellW QE1.out rfl
        have x3' : W1.cell? ⟨wr.heap.size, 3, none⟩ = some (.slice a2 (eAt xl j).args.length cap2) := cellW QE1.out rfl
        have xs : wr.heap.size < W1.heap.size := lt_of_block QE1.out
        have HC1d := Lib.hid (HC1.out.below ((Below.refl _ W1).drew))
        have HArd := Lib.hid (HAr.out.keep ((Below.refl B W1).drew))
        have hsa := size_arg (x := .mk o nu s xl) hlt
        have hwa := wfL_at HW.out j hlt
        have hca : cntE (eAt xl j) ≤ 200 := by have := cntL_at (l := xl) j hlt; omega
        have hta := HTA.out j hlt
        have hWs : W1.drew.heap.size = W1.heap.size := rfl
        have hasW : ab < W1.drew.heap.size := lt_of_block QA1.out
        have hfsW : fb < W1.drew.heap.size := lt_of_block QF1.out
        have hxsW : wr.heap.size < W1.drew.heap.size := lt_of_block QE1.out
        have hnx : wr.heap.size ≠ ab := by omega
        have hCsz : j * 3 + 3 ≤ C.size := by have := hCs.out.1; omega
        clear z2' x0' x1' x2' x3' xs
        obtain ⟨WD, hWD⟩ : ∃ WD, WD = W1.drew := ⟨_, rfl⟩
        go_region_held3 (fun w' => w'.cell? ⟨fb, 2, none⟩ = some (.slice (some ⟨ab, 0, none⟩) xl.length xl.length) ∧ w'.cell? ⟨wr.heap.size, 0, none⟩ = some (.int .i64 (eAt xl j).op) ∧ w'.cell? ⟨wr.heap.size, 1, none⟩ = some (.int .i64 (eAt xl j).num) ∧ w'.cell? ⟨wr.heap.size, 2, none⟩ = some (.string (eAt xl j).name) ∧ w'.cell? ⟨wr.heap.size, 3, none⟩ = some (.slice a2 (eAt xl j).args.length cap2)) (first | exact ⟨z2, x0, x1, x2, x3⟩ | exact ⟨k2, k3, k4, k5, k6⟩ | exact ⟨(cell_set3 _ hlo3 _ _ _ _ _ _ _).trans k2, (cell_set3 _ hnx _ _ _ _ _ _ _).trans k3, (cell_set3 _ hnx _ _ _ _ _ _ _).trans k4, (cell_set3 _ hnx _ _ _ _ _ _ _).trans k5, (cell_set3 _ hnx _ _ _ _ _ _ _).trans k6⟩)
          (first | (go_at_call 94; refine (IH.out (eAt xl j) hsa a2 cap2 W1.drew HC1d.out HF.out hwa hca hta HArd.out).mono ?_; rintro e w2 ⟨fa, fc, rfl, hFA, hFl, hC2, hg2⟩; have q4 := (hg2.block _ hasW (by simp; omega)).trans QA1.out; have k2 := (hg2.cell_far ⟨fb, 2, none⟩ hfsW (by simp; omega)).trans z2; have k3 := (hg2.cell_far ⟨wr.heap.size, 0, none⟩ hxsW (by simp; omega)).trans x0; have k4 := (hg2.cell_far ⟨wr.heap.size, 1, none⟩ hxsW (by simp; omega)).trans x1; have k5 := (hg2.cell_far ⟨wr.heap.size, 2, none⟩ hxsW (by simp; omega)).trans x2; have k6 := (hg2.cell_far ⟨wr.heap.size, 3, none⟩ hxsW (by simp; omega)).trans x3; have y0 := cellW (j := j * 3) q4 (Array.getElem?_eq_getElem (by omega)); have y1 := cellW (j := j * 3 + 1) q4 (Array.getElem?_eq_getElem (by omega)); have y2 := cellW (j := j * 3 + 2) q4 (Array.getElem?_eq_getElem (by omega)); have u0 := freeW (j := j * 3) q4; have u1 := freeW (j := j * 3 + 1) q4; have u2 := freeW (j := j * 3 + 2) q4))
        obtain ⟨f, hfe⟩ : ∃ f, f = cmpE (cvC l n) k (eAt xl j) := ⟨_, rfl⟩
        rw [← hfe] at hFA hFl
        simp only [← hfe]
        have hvw : vb ≠ ab := by omega
        have G3 := Lib.grownBy_setB (Lib.grownBy_setB (Lib.grownBy_setCell w2 ab (j * 3) (.int .i64 f.op)) (j * 3 + 1) (.int .i64 f.num)) (j * 3 + 2) (.slice fa f.args.length fc)
        have s2 : W1.heap.size ≤ w2.heap.size := hg2.size
        have s3 : w2.heap.size ≤ (((w2.setCell ⟨ab, j * 3, none⟩ (.int .i64 f.op)).setCell ⟨ab, j * 3 + 1, none⟩ (.int .i64 f.num)).setCell ⟨ab, j * 3 + 2, none⟩ (.slice fa f.args.length fc)).heap.size := G3.size
        have HFA3 := hFA.step (X' := fun b => b < w.heap.size + 2 ∨ b = ab) s3 (fun b h1 h2 => G3.block b h1 (by simp; intro e; exact h2 (by show b < W1.heap.size; omega))) (fun b h1 h2 => by show b < W1.heap.size; rcases h2 with h2 | h2 <;> omega)
        have HR3 := HR1.out.step (X' := fun b => b < w.heap.size + 2 ∨ b = ab) (Nat.le_trans s2 s3) (fun b h1 h2 => (G3.block b (by omega) (by simp; intro e; exact h2 (.inr e))).trans (hg2.block b h1 (by simp; intro e; exact h2 (.inl (by omega))))) (fun b _ h => h)
        have HR4 := Lib.hid (FRow.snoc (cap := fc) HR3 (by omega) HFA3)
        rw [hfe, ← cmpL_take (cvC l n) k xl j hlt, ← hfe] at HR4
        have Q3 := Lib.hid (block_setCell (i := j * 3 + 2) (u := .slice fa f.args.length fc) (block_setCell (i := j * 3 + 1) (u := .int .i64 f.num) (block_setCell (i := j * 3) (u := .int .i64 f.op) q4)))
        have hCs3 := Lib.hid (show (((C.setIfInBounds (j * 3) (.int .i64 f.op)).setIfInBounds (j * 3 + 1) (.int .i64 f.num)).setIfInBounds (j * 3 + 2) (.slice fa f.args.length fc)).size = xl.length * 3 ∧ (((C.setIfInBounds (j * 3) (.int .i64 f.op)).setIfInBounds (j * 3 + 1) (.int .i64 f.num)).setIfInBounds (j * 3 + 2) (.slice fa f.args.length fc)).toList.take ((j + 1) * 3) = cs ++ [.int .i64 f.op, .int .i64 f.num, .slice fa f.args.length fc] from ⟨by simp [hCs.out.1], by have := take_set3 hCs.out.2 hCsz (.int .i64 f.op) (.int .i64 f.num) (.slice fa f.args.length fc); rw [show (j + 1) * 3 = j * 3 + 3 by omega]; exact this⟩)
        have QR3 := Lib.hid ((G3.block _ (by have := lt_of_block QR1.out; omega) (by simp; omega)).trans ((hg2.block _ (lt_of_block QR1.out) (by simp; omega)).trans QR1.out))
        have QF3 := Lib.hid ((G3.block _ (by have := lt_of_block QF1.out; omega) (by simp; omega)).trans ((hg2.block _ (lt_of_block QF1.out) (by simp; omega)).trans QF1.out))
        have HC3 := Lib.hid (hC2.other G3 (fun j hj => by cases hj; omega) (by simp; omega) (by simp; omega) (by simp; omega) (fun k hk => by have := (HC.out.places k hk).lt; simp; omega))
        have HG3 := Lib.hid ((Lib.grownBy_trans (grownBy_drewn HG1.out) hg2).andThen G3 (fun j hj => by cases hj; exact .inl (by omega)))
        clear hFA hFl hC2 hg2 q4 k2 k3 k4 k5 k6 y0 y1 y2 u0 u1 u2 G3 HFA3 HR3 HR1 QR1 QF1 QA1 QE1 HC1 HC1d HG1 HArd HAr z2 x0 x1 x2 x3 hWs hasW hfsW hxsW hCsz hCs hfe c0 c1 c2 c3 s2 s3 hWD
        generalize (((w2.setCell ⟨ab, j * 3, none⟩ (.int .i64 f.op)).setCell ⟨ab, j * 3 + 1, none⟩ (.int .i64 f.num)).setCell ⟨ab, j * 3 + 2, none⟩ (.slice fa f.args.length fc)) = W4 at *
        go_wp2_with fail
        go_roundw
        case rel => exact ⟨j + 1, _, _, by omega, by go_num, hCs3, HR4, QR3, QF3, Q3, HC3, HG3⟩
        case measure => simp [intOf]; omega
      · obtain rfl : j = xl.length := by omega
        have hrow := hRow.out
        rw [List.take_length] at hrow
        have v0 : wr.cell? ⟨fb, 0, none⟩ = some (.int .i64 o) := cellW hQF.out rfl
        have v1 : wr.cell? ⟨fb, 1, none⟩ = some (.int .i64 0) := cellW hQF.out rfl
        have v2 : wr.cell? ⟨fb, 2, none⟩ = some (.slice (some ⟨ab, 0, none⟩) xl.length xl.length) := cellW hQF.out rfl
        have y0 : wr.cell? ⟨w.heap.size + 1, 0, none⟩ = some (.int .i64 0) := cellW hQR.out rfl
        have y1 : wr.cell? ⟨w.heap.size + 1, 1, none⟩ = some (.int .i64 0) := cellW hQR.out rfl
        have y2 : wr.cell? ⟨w.heap.size + 1, 2, none⟩ = some (.slice none 0 0) := cellW hQR.out rfl
        have u0 : wr.frozen? ⟨w.heap.size + 1, 0, none⟩ = false := freeW hQR.out
        have u1 : wr.frozen? ⟨w.heap.size + 1, 1, none⟩ = false := freeW hQR.out
        have u2 : wr.frozen? ⟨w.heap.size + 1, 2, none⟩ = false := freeW hQR.out
        have us : w.heap.size + 1 < wr.heap.size := lt_of_block hQR.out
        have uf : fb < wr.heap.size := lt_of_block hQF.out
        have ua : ab < wr.heap.size := lt_of_block hQA.out
        have Q := block_setCell (i := 2) (u := .slice (some ⟨ab, 0, none⟩) xl.length xl.length) (block_setCell (i := 1) (u := .int .i64 0) (block_setCell (i := 0) (u := .int .i64 o) hQR.out))
        have G1 := Lib.grownBy_setB (Lib.grownBy_setB (Lib.grownBy_setCell wr (w.heap.size + 1) 0 (.int .i64 o)) 1 (.int .i64 0)) 2 (.slice (some ⟨ab, 0, none⟩) xl.length xl.length)
        have r0 : (((wr.setCell ⟨w.heap.size + 1, 0, none⟩ (.int .i64 o)).setCell ⟨w.heap.size + 1, 1, none⟩ (.int .i64 0)).setCell ⟨w.heap.size + 1, 2, none⟩ (.slice (some ⟨ab, 0, none⟩) xl.length xl.length)).cell? ⟨w.heap.size + 1, 0, none⟩ = some (.int .i64 o) := cellW Q rfl
        have r1 : (((wr.setCell ⟨w.heap.size + 1, 0, none⟩ (.int .i64 o)).setCell ⟨w.heap.size + 1, 1, none⟩ (.int .i64 0)).setCell ⟨w.heap.size + 1, 2, none⟩ (.slice (some ⟨ab, 0, none⟩) xl.length xl.length)).cell? ⟨w.heap.size + 1, 1, none⟩ = some (.int .i64 0) := cellW Q rfl
        have r2 : (((wr.setCell ⟨w.heap.size + 1, 0, none⟩ (.int .i64 o)).setCell ⟨w.heap.size + 1, 1, none⟩ (.int .i64 0)).setCell ⟨w.heap.size + 1, 2, none⟩ (.slice (some ⟨ab, 0, none⟩) xl.length xl.length)).cell? ⟨w.heap.size + 1, 2, none⟩ = some (.slice (some ⟨ab, 0, none⟩) xl.length xl.length) := cellW Q rfl
        have HGf := Lib.hid (hgr.out.andThen G1 (fun j hj => by cases hj; exact .inl (by omega)))
        have HCf := Lib.hid (hC.out.other G1 (fun j hj => by cases hj; omega) (by simp; omega) (by simp; omega) (by simp; omega) (fun k hk => by have := (HC.out.places k hk).lt; simp; omega))
        have hlen3 : cs.length = xl.length * 3 := by rw [hrow.len, cmpL_len]
        have htk : C.toList.take cs.length = cs := by rw [hlen3]; exact hCs.out.2
        have HRf := hrow.step (X' := fun b => b < w.heap.size) (w' := (((wr.setCell ⟨w.heap.size + 1, 0, none⟩ (.int .i64 o)).setCell ⟨w.heap.size + 1, 1, none⟩ (.int .i64 0)).setCell ⟨w.heap.size + 1, 2, none⟩ (.slice (some ⟨ab, 0, none⟩) xl.length xl.length))) G1.size (fun b h1 h2 => G1.block b h1 (by simp; intro e; exact h2 (.inl (by omega)))) (fun b _ h => .inl (by omega))
        have HFf := Lib.hid (HRf.forms (b := ab) ((G1.block ab ua (by simp; omega)).trans hQA.out) (by omega) htk)
        clear Q G1 HRf htk hlen3 hrow hRow hCs hQR hQF hQA hC hgr
        go_wp2_with fail
        generalize (((wr.setCell ⟨w.heap.size + 1, 0, none⟩ (.int .i64 o)).setCell ⟨w.heap.size + 1, 1, none⟩ (.int .i64 0)).setCell ⟨w.heap.size + 1, 2, none⟩ (.slice (some ⟨ab, 0, none⟩) xl.length xl.length)) = Wf at *
        refine bodyPost_ret (v := .agg #[.int .i64 o, .int .i64 0, .slice (some ⟨ab, 0, none⟩) xl.length xl.length]) (by simp [results, Tryz.results94, go_sem, r0, r1, r2]) rfl ?_
        rw [Hz.out]
        refine ⟨some ⟨ab, 0, none⟩, xl.length, ?_, ⟨ab, 0, fun _ => rfl, HFf.out⟩, ?_, HCf.out, HGf.out⟩
        · simp only [FormM.op, FormM.num, FormM.args, cmpL_len]
        · simp only [FormM.args, cmpL_len]; exact hlen
theorem compile_of (B kp ib vb : Nat) (ps : List Nat) (l : List ConstM) (a : Option Addr) (cap : Nat) (n : Nat) (HConst : ∀ i, i < n → i < l.length → (ctyp l i).2 = 0 → ConstVS B kp ib vb ps l a cap i) : CompS B kp ib vb ps l a cap n := by
  intro k x
  obtain ⟨m, hm⟩ : ∃ m, m = SizeOf.sizeOf x := ⟨_, rfl⟩
  induction m using Nat.strongRecOn generalizing x with
  | _ m ih =>
    subst hm
    intro xa xc w hk hC hf hwf hcnt ht ha
    obtain ⟨o, nu, s, xl⟩ := x
    obtain ⟨hh, _⟩ := wf_head hwf
    simp only [headB, Bool.and_eq_true] at hh
    obtain ⟨h1, h2⟩ := btwB_iff.1 hh.1.1.1
    by_cases o6 : o = 6
    · subst o6
      exact compile_attr B kp ib vb ps l a cap n HConst k hk nu s xl xa xc w hC ht
    by_cases o5 : o ≤ 5
    · exact compile_leaf B kp ib vb ps l a cap (cvC l n) k o nu s xl xa xc w h1 o5 hC
    · exact compile_args B kp ib vb ps l a cap n k hk o nu s xl (by omega) xa xc w hC hwf hcnt ht ha (fun x hx xa xc w h1 h2 h3 h4 h5 h6 => ih _ hx x rfl xa xc w hk h1 h2 h3 h4 h5 h6)
theorem constantV_any (B kp ib vb : Nat) (ps : List Nat) (l : List ConstM) (a : Option Addr) (cap : Nat) (i : Nat) (hi : i < l.length) (h0 : (ctyp l i).2 = 0) : ConstVS B kp ib vb ps l a cap i := by
  induction i using Nat.strongRecOn with
  | _ i ih => exact constantV_of B kp ib vb ps l a cap i hi h0 (compile_of B kp ib vb ps l a cap i (fun j hj hjl hj0 => ih j hj hjl hj0))
theorem compile_any (B kp ib vb : Nat) (ps : List Nat) (l : List ConstM) (a : Option Addr) (cap : Nat) (n : Nat) : CompS B kp ib vb ps l a cap n := compile_of B kp ib vb ps l a cap n (fun i _ hi h0 => constantV_any B kp ib vb ps l a cap i hi h0)
end Go.Proofs.YtpgbckgjlgecpaaGreat
