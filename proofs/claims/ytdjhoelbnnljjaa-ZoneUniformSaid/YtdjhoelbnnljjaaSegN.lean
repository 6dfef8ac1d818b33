/- contract of segments: no shifts; and for every zone -/
import Derived.Test.YtdjhoelbnnljjaaSeg
namespace Go.Proofs.Ytdjhoelbnnljjaa
open Go.RowKit Go.Sort
set_option linter.unusedSimpArgs false
set_option linter.unusedVariables false

set_option maxHeartbeats 800000 in
theorem segments_nil (s : ByteArray) (o x y : Int) (a : Option Addr) (cap : Nat) (w : World) :
    Calls Try.prog 43 #[.agg #[.string s, .int .i64 o, .slice a 0 cap], .agg #[.int .i64 x, .int .i64 y]] w fun e w' =>
      ∃ v, e = .returned v ∧ w'.ownsRow w.heap.size 58 3 v (segsP 0 o [] x y).length (segCells (segsP 0 o [] x y)) ∧ Below w.heap.size w w' := by
  obtain ⟨i0, hi, hz0, hz1, hz2⟩ := info_parts info58
  go_enter Try.func43, Try.ntmps43
  go_wp2_with fail
  obtain ⟨zb, sb, hbW⟩ := boxes w s o a 0 cap x y
  generalize ((w.alloc (Obj.cells #[Value.string s, Value.int IntKind.i64 o, Value.slice a 0 cap] 24)).alloc (Obj.cells #[Value.int IntKind.i64 x, Value.int IntKind.i64 y] 35)) = W at *
  obtain ⟨z0, z1, z2, z3⟩ := Lib.hid zb |>.out
  obtain ⟨t0, t1, t2⟩ := Lib.hid sb |>.out
  go_quiet (fail)
  go_wp2_with fail
  have hb1 : Below W.heap.size W (W.drewN nq) := below_drewN (Below.refl _ _) _
  generalize W.drewN nq = W1 at *
  replace zb := zb.below hb1
  replace sb := sb.below hb1
  have hB1 := Below.then hbW hb1
  clear hb1 hbW z0 z1 z2 z3 t0 t1 t2
  clear W
  go_loopw [5, 6, 7, 8] (fun out fr oo i wr => ∃ (k : Nat) (v : Value) (f q : Int) (L : List (Int × Int × Int)), k ≤ 1 ∧ L.length ≤ k ∧ i = .int .i64 k ∧ out = v ∧ fr = .int .i64 f ∧ oo = .int .i64 q ∧
      wr.ownsRow W1.heap.size 58 3 v L.length (segCells L) ∧ Hid (segsP 0 o [] x y = L ++ segsK f q [] k x y) ∧ Below W1.heap.size W1 wr) (fun _ _ _ i _ => 1 - (intOf i).toNat)
  case atStart => exact ⟨0, _, _, _, [], Nat.zero_le _, Nat.le_refl _, rfl, rfl, rfl, rfl, ⟨rfl, .inl ⟨rfl, rfl⟩⟩, Lib.hid (segsK_zero o [] x y), Below.refl _ _⟩
  case round =>
    obtain ⟨k, v, f, q, L, hk, hL, rfl, rfl, rfl, rfl, hown, hdef, hbel⟩ := hrel
    obtain ⟨z0, z1, z2, z3⟩ := Lib.hid (zb.below hbel) |>.out
    obtain ⟨t0, t1, t2⟩ := Lib.hid (sb.below hbel) |>.out
    by_cases hle : k ≤ 0
    · obtain rfl : k = 0 := by simpa using hle
      by_cases ht : mx f x < mn 52596000 y
      · have hd2 := Lib.hid (hdef.out.trans (congrArg (L ++ ·) (segsK_len (l := []))))
        have hs1 := Lib.hid (seg1_yes (o := q) ht)
        go_wp2_with fail
        go_quiet (fail)
        have hown2 : (wr.drewN nq).ownsRow W1.heap.size 58 3 u5 L.length (segCells L) := hown
        have hbd : Below wr.heap.size wr (wr.drewN nq) := below_drewN (Below.refl _ _) _
        simp only [show (if f < x then x else f) = mx f x from rfl, show (if y < 52596000 then y else 52596000) = mn 52596000 y from rfl]
        generalize mx f x = A at *
        generalize mn 52596000 y = B at *
        generalize wr.drewN nq = wd at *
        have hbel2 := hbel.trans (hbd.mono hbel.size)
        clear hown z0 z1 z2 z3 t0 t1 t2 hbd hbel
        clear wr
        obtain ⟨z0, z1, z2, z3⟩ := Lib.hid (zb.below hbel2) |>.out
        obtain ⟨t0, t1, t2⟩ := Lib.hid (sb.below hbel2) |>.out
        go_wp2_with (at_builtin; refine wpList_append_own _ rfl _ _ 55 rfl W1.heap.size 58 i0 (.agg #[.int .i64 0, .int .i64 0, .int .i64 0]) 3 24 Try.underlying55 hi hz0 hz1 hz2 rfl (by decide) _ _ _ rfl (hown2.alloc _) ⟨wd.heap.size, 0, none⟩ 1 1 [.int .i64 A, .int .i64 B, .int .i64 q] rfl rfl ?c1 ?c2 ?c3 ?c4 ?c5 ?_)
        case c1 => exact fresh_cells wd [.int .i64 A, .int .i64 B, .int .i64 q] 58
        case c2 => intro u hu; simp at hu; rcases hu with rfl | rfl | rfl <;> rfl
        case c3 => unfold maxLen; omega
        case c4 => omega
        case c5 => have := hbel2.size; simp; omega
        intro v' w1 hown' hgrow _
        have hbel3 := below_append (e' := 58) hbel2 rfl hown2 hgrow
        rw [show segCells L ++ [Value.int .i64 A, .int .i64 B, .int .i64 q] = segCells (L ++ [(A, B, q)]) from (segCells_snoc L (A, B, q)).symm] at hown'
        have hd3 := Lib.hid (show segsP 0 o [] x y = (L ++ [(A, B, q)]) ++ segsK f q [] (1) x y from by rw [hd2.out, hs1.out]; simp)
        clear hown2 z0 z1 z2 z3 t0 t1 t2 hbel2 hgrow hd2 hs1
        obtain ⟨z0, z1, z2, z3⟩ := Lib.hid (zb.below hbel3) |>.out
        obtain ⟨t0, t1, t2⟩ := Lib.hid (sb.below hbel3) |>.out
        go_wp2_with fail
        go_roundw
        case rel => exact ⟨1, _, _, _, L ++ [(A, B, q)], by omega, by rw [List.length_append, List.length_singleton]; omega, by go_num, rfl, rfl, rfl, by simpa using hown', hd3, hbel3⟩
        case measure => first | (simp [intOf]; done) | (simp [intOf]; omega)
      · have hd2 := Lib.hid (hdef.out.trans (congrArg (L ++ ·) (segsK_len (l := []))))
        have hs1 := Lib.hid (seg1_no (o := q) ht)
        go_wp2_with fail
        go_quiet (fail)
        have hown2 : (wr.drewN nq).ownsRow W1.heap.size 58 3 u5 L.length (segCells L) := hown
        have hbd : Below wr.heap.size wr (wr.drewN nq) := below_drewN (Below.refl _ _) _
        simp only [show (if f < x then x else f) = mx f x from rfl, show (if y < 52596000 then y else 52596000) = mn 52596000 y from rfl]
        generalize mx f x = A at *
        generalize mn 52596000 y = B at *
        generalize wr.drewN nq = wd at *
        have hbel2 := hbel.trans (hbd.mono hbel.size)
        clear hown z0 z1 z2 z3 t0 t1 t2 hbd hbel
        clear wr
        obtain ⟨z0, z1, z2, z3⟩ := Lib.hid (zb.below hbel2) |>.out
        obtain ⟨t0, t1, t2⟩ := Lib.hid (sb.below hbel2) |>.out
        have hd3 := Lib.hid (show segsP 0 o [] x y = L ++ segsK f q [] (1) x y from by rw [hd2.out, hs1.out]; simp)
        go_wp2_with fail
        go_roundw
        case rel => exact ⟨1, _, _, _, L, by omega, by omega, by go_num, rfl, rfl, rfl, hown2, hd3, hbel2⟩
        case measure => first | (simp [intOf]; done) | (simp [intOf]; omega)
    · have hfin := Lib.hid (hdef.out.trans (by rw [segsK_end (l := []) hle, List.append_nil]))
      go_wp2
      go_ret
      refine ⟨_, rfl, ?_, Below.then hB1 hbel⟩
      rw [hfin.out]
      exact own_mono hown hB1.size
theorem segments_any (s : ByteArray) (o x y : Int) (l : List (Int × Int)) (a : Option Addr) (cap : Nat) (w : World) (hl : l.length ≤ 1000000) (ha : ShAt w a l) :
    Calls Try.prog 43 #[.agg #[.string s, .int .i64 o, .slice a l.length cap], .agg #[.int .i64 x, .int .i64 y]] w fun e w' =>
      ∃ v, e = .returned v ∧ w'.ownsRow w.heap.size 58 3 v (segsP 0 o l x y).length (segCells (segsP 0 o l x y)) ∧ Below w.heap.size w w' := by
  rcases ha with rfl | ⟨b, off, rfl, hb, hc⟩
  · exact segments_nil s o x y a cap w
  · exact segments_walk s o x y l b off cap w hl hb hc
end Go.Proofs.Ytdjhoelbnnljjaa
