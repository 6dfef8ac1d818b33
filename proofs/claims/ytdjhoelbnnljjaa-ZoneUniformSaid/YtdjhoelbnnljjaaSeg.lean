/- contract of segments -/
import Derived.Test.YtdjhoelbnnljjaaDays0
import Derived.Test.YtdjhoelbnnljjaaSeg0
namespace Go.Proofs.Ytdjhoelbnnljjaa
open Go.RowKit Go.Sort
set_option linter.unusedSimpArgs false
set_option linter.unusedVariables false

theorem info58 : (Try.prog.info? 58).map (fun i => (i.zero, i.size, i.bytes)) = some (some (.agg #[.int .i64 0, .int .i64 0, .int .i64 0]), 3, 24) := by kernel_rfl
/-- the cells of a list of segments -/
def segCells (L : List (Int × Int × Int)) : List Value := L.flatMap fun g => [.int .i64 g.1, .int .i64 g.2.1, .int .i64 g.2.2]
theorem segCells_snoc (L : List (Int × Int × Int)) (g : Int × Int × Int) : segCells (L ++ [g]) = segCells L ++ [.int .i64 g.1, .int .i64 g.2.1, .int .i64 g.2.2] := by simp [segCells]

theorem fresh_cells (w : World) (news : List Value) (e : TypeId) (j : Nat) (u : Value) (h : news[j]? = some u) : (w.alloc (.cells news.toArray e)).cell? (Addr.add ⟨w.heap.size, 0, none⟩ j) = some u := by
  have hj : (Addr.add ⟨w.heap.size, 0, none⟩ j) = ⟨w.heap.size, j, none⟩ := by
    unfold Addr.add; split
    · next h => rw [h]
    · simp
  rw [hj]
  rw [World.cell?_alloc_at _ _ _ _ rfl]
  simpa using h
theorem own_base {w : World} {base : Nat} {e : TypeId} {size : Nat} {v : Value} {n : Nat} {xs : List Value} (h : w.ownsRow base e size v n xs) (k : Nat) (hk : v.ownBlock = some k) : base ≤ k := by
  rcases h.2 with ⟨rfl, _⟩ | ⟨g, cap, cur, rfl, hg, _⟩
  · simp [Value.ownBlock] at hk
  · simp [Value.ownBlock] at hk; omega
theorem own_mono {w : World} {base base' : Nat} {e : TypeId} {size : Nat} {v : Value} {n : Nat} {xs : List Value} (h : w.ownsRow base e size v n xs) (hb : base' ≤ base) : w.ownsRow base' e size v n xs := by
  refine ⟨h.1, ?_⟩
  rcases h.2 with h | ⟨g, cap, cur, hv, hg, h⟩
  · exact .inl h
  · exact .inr ⟨g, cap, cur, hv, Nat.le_trans hb hg, h⟩
/-- what an append of a new element leaves -/
theorem below_append {B : Nat} {W wd w1 : World} {e e' : TypeId} {size : Nat} {v : Value} {n : Nat} {xs : List Value} {o : Obj} (hb : Below W.heap.size W wd) (hB : B = W.heap.size) (hown : wd.ownsRow B e size v n xs) (hg : (wd.alloc o).grownBy w1 v.ownBlock) : Below W.heap.size W w1 := by
  subst hB
  have h1 := hb.size
  exact (hb.alloc h1 o).grown hg (by simp; omega) (fun k hk => own_base hown k hk)

set_option maxHeartbeats 800000 in
theorem segments_walk (s : ByteArray) (o x y : Int) (l : List (Int × Int)) (b off cap : Nat) (w : World) (hl : l.length ≤ 1000000) (hb : b < w.heap.size) (hc : ShCells w b off l) :
    Calls Try.prog 43 #[.agg #[.string s, .int .i64 o, .slice (some ⟨b, off, none⟩) l.length cap], .agg #[.int .i64 x, .int .i64 y]] w fun e w' =>
      ∃ v, e = .returned v ∧ w'.ownsRow w.heap.size 58 3 v (segsP 0 o l x y).length (segCells (segsP 0 o l x y)) ∧ Below w.heap.size w w' := by
  obtain ⟨i0, hi, hz0, hz1, hz2⟩ := info_parts info58
  go_enter Try.func43, Try.ntmps43
  go_wp2_with fail
  obtain ⟨zb, sb, hbW⟩ := boxes w s o (some ⟨b, off, none⟩) l.length cap x y
  generalize ((w.alloc (Obj.cells #[Value.string s, Value.int IntKind.i64 o, Value.slice (some ⟨b, off, none⟩) l.length cap] 24)).alloc (Obj.cells #[Value.int IntKind.i64 x, Value.int IntKind.i64 y] 35)) = W at *
  obtain ⟨z0, z1, z2, z3⟩ := Lib.hid zb |>.out
  obtain ⟨t0, t1, t2⟩ := Lib.hid sb |>.out
  go_quiet (fail)
  go_wp2_with fail
  have hb1 : Below W.heap.size W (W.drewN nq) := below_drewN (Below.refl _ _) _
  generalize W.drewN nq = W1 at *
  replace zb := zb.below hb1
  replace sb := sb.below hb1
  have hB1 := Below.then hbW hb1
  clear hb1 hbW z0 z1 z2 z3 t0 t1 t2
  clear W
  have hcW : ShCells W1 b off l := hc.below hb hB1
  have hbW1 : b < W1.heap.size := Nat.lt_of_lt_of_le hb hB1.size
  go_loopw [5, 6, 7, 8] (fun out fr oo i wr => ∃ (k : Nat) (v : Value) (f q : Int) (L : List (Int × Int × Int)), k ≤ l.length + 1 ∧ L.length ≤ k ∧ i = .int .i64 k ∧ out = v ∧ fr = .int .i64 f ∧ oo = .int .i64 q ∧
      wr.ownsRow W1.heap.size 58 3 v L.length (segCells L) ∧ Hid (segsP 0 o l x y = L ++ segsK f q l k x y) ∧ Below W1.heap.size W1 wr) (fun _ _ _ i _ => l.length + 1 - (intOf i).toNat)
  case atStart => exact ⟨0, _, _, _, [], Nat.zero_le _, Nat.le_refl _, rfl, rfl, rfl, rfl, ⟨rfl, .inl ⟨rfl, rfl⟩⟩, Lib.hid (segsK_zero o l x y), Below.refl _ _⟩
  case round =>
    obtain ⟨k, v, f, q, L, hk, hL, rfl, rfl, rfl, rfl, hown, hdef, hbel⟩ := hrel
    obtain ⟨z0, z1, z2, z3⟩ := Lib.hid (zb.below hbel) |>.out
    obtain ⟨t0, t1, t2⟩ := Lib.hid (sb.below hbel) |>.out
    by_cases hle : k ≤ l.length
    · by_cases hlt : k < l.length
      · have hcell := hcW k hlt
        have hc1 := (hbel.cell (p := ⟨b, off + k * 2, none⟩) hbW1).trans hcell.1
        have hc2 := (hbel.cell (p := ⟨b, off + k * 2 + 1, none⟩) hbW1).trans hcell.2
        clear hcell
        by_cases ht : mx f x < mn (shAt l k).1 y
        · have hd2 := Lib.hid (hdef.out.trans (congrArg (L ++ ·) (segsK_lt hlt)))
          have hs1 := Lib.hid (seg1_yes (o := q) ht)
          go_wp2_with fail
          go_quiet (fail)
          have hown2 : (wr.drewN nq).ownsRow W1.heap.size 58 3 u5 L.length (segCells L) := hown
          have hbd : Below wr.heap.size wr (wr.drewN nq) := below_drewN (Below.refl _ _) _
          simp only [show (if f < x then x else f) = mx f x from rfl, show (if y < (shAt l k).1 then y else (shAt l k).1) = mn (shAt l k).1 y from rfl]
          generalize mx f x = A at *
          generalize mn (shAt l k).1 y = B at *
          generalize wr.drewN nq = wd at *
          have hbel2 := hbel.trans (hbd.mono hbel.size)
          clear hown z0 z1 z2 z3 t0 t1 t2 hbd hbel hc1 hc2
          clear wr
          obtain ⟨z0, z1, z2, z3⟩ := Lib.hid (zb.below hbel2) |>.out
          obtain ⟨t0, t1, t2⟩ := Lib.hid (sb.below hbel2) |>.out
          go_wp2_with (at_builtin; refine wpList_append_own _ rfl _ _ 55 rfl W1.heap.size 58 i0 (.agg #[.int .i64 0, .int .i64 0, .int .i64 0]) 3 24 Try.underlying55 hi hz0 hz1 hz2 rfl (by decide) _ _ _ rfl (hown2.alloc _) ⟨wd.heap.size, 0, none⟩ 1 1 [.int .i64 A, .int .i64 B, .int .i64 q] rfl rfl ?c1 ?c2 ?c3 ?c4 ?c5 ?_)
          case c1 => exact fresh_cells wd [.int .i64 A, .int .i64 B, .int .i64 q] 58
          case c2 => intro u hu; simp at hu; rcases hu with rfl | rfl | rfl <;> rfl
          case c3 => unfold maxLen; omega
          case c4 => omega
          case c5 => have := hbel2.size; simp; omega
          intro v' w1 hown' hgrow _
          have hbel3 := below_append (e' := 58) hbel2 rfl hown2 hgrow
          rw [show segCells L ++ [Value.int .i64 A, .int .i64 B, .int .i64 q] = segCells (L ++ [(A, B, q)]) from (segCells_snoc L (A, B, q)).symm] at hown'
          have hd3 := Lib.hid (show segsP 0 o l x y = (L ++ [(A, B, q)]) ++ segsK (shAt l k).1 (shAt l k).2 l (k + 1) x y from by rw [hd2.out, hs1.out]; simp)
          clear hown2 z0 z1 z2 z3 t0 t1 t2 hbel2 hgrow hd2 hs1
          obtain ⟨z0, z1, z2, z3⟩ := Lib.hid (zb.below hbel3) |>.out
          obtain ⟨t0, t1, t2⟩ := Lib.hid (sb.below hbel3) |>.out
          have hcell := hcW k hlt
          have hc1 := (hbel3.cell (p := ⟨b, off + k * 2, none⟩) hbW1).trans hcell.1
          have hc2 := (hbel3.cell (p := ⟨b, off + k * 2 + 1, none⟩) hbW1).trans hcell.2
          clear hcell
          go_wp2_with fail
          go_quiet (fail)
          go_wp2_with fail
          go_roundw
          case rel => exact ⟨k + 1, _, _, _, L ++ [(A, B, q)], by omega, by rw [List.length_append, List.length_singleton]; omega, by go_num, rfl, rfl, rfl, by simpa using (show (w1.drewN nq).ownsRow _ _ _ _ _ _ from hown'), hd3, (below_drewN hbel3 _)⟩
          case measure => first | (simp [intOf]; done) | (simp [intOf]; omega)
        · have hd2 := Lib.hid (hdef.out.trans (congrArg (L ++ ·) (segsK_lt hlt)))
          have hs1 := Lib.hid (seg1_no (o := q) ht)
          go_wp2_with fail
          go_quiet (fail)
          have hown2 : (wr.drewN nq).ownsRow W1.heap.size 58 3 u5 L.length (segCells L) := hown
          have hbd : Below wr.heap.size wr (wr.drewN nq) := below_drewN (Below.refl _ _) _
          simp only [show (if f < x then x else f) = mx f x from rfl, show (if y < (shAt l k).1 then y else (shAt l k).1) = mn (shAt l k).1 y from rfl]
          generalize mx f x = A at *
          generalize mn (shAt l k).1 y = B at *
          generalize wr.drewN nq = wd at *
          have hbel2 := hbel.trans (hbd.mono hbel.size)
          clear hown z0 z1 z2 z3 t0 t1 t2 hbd hbel hc1 hc2
          clear wr
          obtain ⟨z0, z1, z2, z3⟩ := Lib.hid (zb.below hbel2) |>.out
          obtain ⟨t0, t1, t2⟩ := Lib.hid (sb.below hbel2) |>.out
          have hcell := hcW k hlt
          have hc1 := (hbel2.cell (p := ⟨b, off + k * 2, none⟩) hbW1).trans hcell.1
          have hc2 := (hbel2.cell (p := ⟨b, off + k * 2 + 1, none⟩) hbW1).trans hcell.2
          clear hcell
          have hd3 := Lib.hid (show segsP 0 o l x y = L ++ segsK (shAt l k).1 (shAt l k).2 l (k + 1) x y from by rw [hd2.out, hs1.out]; simp)
          go_wp2_with fail
          go_quiet (fail)
          go_wp2_with fail
          go_roundw
          case rel => exact ⟨k + 1, _, _, _, L, by omega, by omega, by go_num, rfl, rfl, rfl, (show (wd.drewN nq).ownsRow _ _ _ _ _ _ from hown2), hd3, (below_drewN hbel2 _)⟩
          case measure => first | (simp [intOf]; done) | (simp [intOf]; omega)
      · obtain rfl : k = l.length := by omega
        by_cases ht : mx f x < mn 52596000 y
        · have hd2 := Lib.hid (hdef.out.trans (congrArg (L ++ ·) (segsK_len)))
          have hs1 := Lib.hid (seg1_yes (o := q) ht)
          go_wp2_with fail
          go_quiet (fail)
          have hown2 : (wr.drewN nq).ownsRow W1.heap.size 58 3 u5 L.length (segCells L) := hown
          have hbd : Below wr.heap.size wr (wr.drewN nq) := below_drewN (Below.refl _ _) _
          simp only [show (if f < x then x else f) = mx f x from rfl, show (if y < 52596000 then y else 52596000) = mn 52596000 y from rfl]
          generalize mx f x = A at *
          generalize mn 52596000 y = B at *
          generalize wr.drewN nq = wd at *
          have hbel2 := hbel.trans (hbd.mono hbel.size)
          clear hown z0 z1 z2 z3 t0 t1 t2 hbd hbel
          clear wr
          obtain ⟨z0, z1, z2, z3⟩ := Lib.hid (zb.below hbel2) |>.out
          obtain ⟨t0, t1, t2⟩ := Lib.hid (sb.below hbel2) |>.out
          go_wp2_with (at_builtin; refine wpList_append_own _ rfl _ _ 55 rfl W1.heap.size 58 i0 (.agg #[.int .i64 0, .int .i64 0, .int .i64 0]) 3 24 Try.underlying55 hi hz0 hz1 hz2 rfl (by decide) _ _ _ rfl (hown2.alloc _) ⟨wd.heap.size, 0, none⟩ 1 1 [.int .i64 A, .int .i64 B, .int .i64 q] rfl rfl ?c1 ?c2 ?c3 ?c4 ?c5 ?_)
          case c1 => exact fresh_cells wd [.int .i64 A, .int .i64 B, .int .i64 q] 58
          case c2 => intro u hu; simp at hu; rcases hu with rfl | rfl | rfl <;> rfl
          case c3 => unfold maxLen; omega
          case c4 => omega
          case c5 => have := hbel2.size; simp; omega
          intro v' w1 hown' hgrow _
          have hbel3 := below_append (e' := 58) hbel2 rfl hown2 hgrow
          rw [show segCells L ++ [Value.int .i64 A, .int .i64 B, .int .i64 q] = segCells (L ++ [(A, B, q)]) from (segCells_snoc L (A, B, q)).symm] at hown'
          have hd3 := Lib.hid (show segsP 0 o l x y = (L ++ [(A, B, q)]) ++ segsK f q l (l.length + 1) x y from by rw [hd2.out, hs1.out]; simp)
          clear hown2 z0 z1 z2 z3 t0 t1 t2 hbel2 hgrow hd2 hs1
          obtain ⟨z0, z1, z2, z3⟩ := Lib.hid (zb.below hbel3) |>.out
          obtain ⟨t0, t1, t2⟩ := Lib.hid (sb.below hbel3) |>.out
          go_wp2_with fail
          go_roundw
          case rel => exact ⟨l.length + 1, _, _, _, L ++ [(A, B, q)], by omega, by rw [List.length_append, List.length_singleton]; omega, by go_num, rfl, rfl, rfl, by simpa using hown', hd3, hbel3⟩
          case measure => first | (simp [intOf]; done) | (simp [intOf]; omega)
        · have hd2 := Lib.hid (hdef.out.trans (congrArg (L ++ ·) (segsK_len)))
          have hs1 := Lib.hid (seg1_no (o := q) ht)
          go_wp2_with fail
          go_quiet (fail)
          have hown2 : (wr.drewN nq).ownsRow W1.heap.size 58 3 u5 L.length (segCells L) := hown
          have hbd : Below wr.heap.size wr (wr.drewN nq) := below_drewN (Below.refl _ _) _
          simp only [show (if f < x then x else f) = mx f x from rfl, show (if y < 52596000 then y else 52596000) = mn 52596000 y from rfl]
          generalize mx f x = A at *
          generalize mn 52596000 y = B at *
          generalize wr.drewN nq = wd at *
          have hbel2 := hbel.trans (hbd.mono hbel.size)
          clear hown z0 z1 z2 z3 t0 t1 t2 hbd hbel
          clear wr
          obtain ⟨z0, z1, z2, z3⟩ := Lib.hid (zb.below hbel2) |>.out
          obtain ⟨t0, t1, t2⟩ := Lib.hid (sb.below hbel2) |>.out
          have hd3 := Lib.hid (show segsP 0 o l x y = L ++ segsK f q l (l.length + 1) x y from by rw [hd2.out, hs1.out]; simp)
          go_wp2_with fail
          go_roundw
          case rel => exact ⟨l.length + 1, _, _, _, L, by omega, by omega, by go_num, rfl, rfl, rfl, hown2, hd3, hbel2⟩
          case measure => first | (simp [intOf]; done) | (simp [intOf]; omega)
    · have hfin := Lib.hid (hdef.out.trans (by rw [segsK_end hle, List.append_nil]))
      go_wp2
      go_ret
      refine ⟨_, rfl, ?_, Below.then hB1 hbel⟩
      rw [hfin.out]
      exact own_mono hown hB1.size
end Go.Proofs.Ytdjhoelbnnljjaa
