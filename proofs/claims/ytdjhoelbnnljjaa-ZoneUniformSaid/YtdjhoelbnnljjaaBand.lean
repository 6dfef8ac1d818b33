/- contract of bandRuns -/
import Derived.Test.YtdjhoelbnnljjaaInstR
import Derived.Test.YtdjhoelbnnljjaaBand0
namespace Go.Proofs.Ytdjhoelbnnljjaa
open Go.RowKit Go.Sort
set_option linter.unusedSimpArgs false
set_option linter.unusedVariables false

theorem info35 : (Try.prog.info? 35).map (fun i => (i.zero, i.size, i.bytes)) = some (some (.agg #[.int .i64 0, .int .i64 0]), 2, 16) := by kernel_rfl
def runCells (R : List (Int × Int)) : List Value := R.flatMap fun r => [.int .i64 r.1, .int .i64 r.2]
theorem runCells_snoc (R : List (Int × Int)) (a b : Int) : runCells (R ++ [(a, b)]) = runCells R ++ [.int .i64 a, .int .i64 b] := by simp [runCells]
theorem runCells_at (R : List (Int × Int)) : ∀ k, k < R.length → (runCells R)[k * 2]? = some (.int .i64 (runAt R k).1) ∧ (runCells R)[k * 2 + 1]? = some (.int .i64 (runAt R k).2) := by
  induction R with
  | nil => intro k h; simp at h
  | cons r R ih =>
    intro k h
    cases k with
    | zero => simp [runCells, runAt]
    | succ k =>
      have := ih k (by simpa using h)
      have e : runCells (r :: R) = [.int .i64 r.1, .int .i64 r.2] ++ runCells R := by simp [runCells]
      have e2 : runAt (r :: R) (k + 1) = runAt R k := by simp [runAt]
      rw [e, e2]
      refine ⟨?_, ?_⟩
      · rw [List.getElem?_append_right (by simp; omega)]; simpa [show (k + 1) * 2 - 2 = k * 2 by omega] using this.1
      · rw [List.getElem?_append_right (by simp; omega)]; simpa [show (k + 1) * 2 + 1 - 2 = k * 2 + 1 by omega] using this.2
theorem runCells_set (R : List (Int × Int)) (b : Int) : ∀ k, k < R.length → (runCells R).set (k * 2 + 1) (.int .i64 b) = runCells (R.set k ((runAt R k).1, b)) := by
  induction R with
  | nil => intro k h; simp at h
  | cons r R ih =>
    intro k h
    cases k with
    | zero => simp [runCells, runAt]
    | succ k =>
      have := ih k (by simpa using h)
      have e : ∀ (r : Int × Int) R, runCells (r :: R) = .int .i64 r.1 :: .int .i64 r.2 :: runCells R := by simp [runCells]
      have e2 : runAt (r :: R) (k + 1) = runAt R k := by simp [runAt]
      rw [e2, List.set_cons_succ, e r R, e r (R.set k _), ← this, show (k + 1) * 2 + 1 = (k * 2 + 1) + 1 + 1 by omega, List.set_cons_succ, List.set_cons_succ]

/-- a row of spans is no box of a segment -/
theorem own_ne {w : World} {base : Nat} {v : Value} {n : Nat} {xs : List Value} {bx : Nat} {c : Array Value} (h : w.ownsRow base 35 2 v n xs) (hb : w.heap[bx]? = some (.cells c 58)) : some bx ≠ v.ownBlock := by
  rcases h.2 with ⟨rfl, _⟩ | ⟨g, cap, cur, rfl, hg, hh, _⟩
  · simp [Value.ownBlock]
  · intro e
    simp [Value.ownBlock] at e
    subst e
    rw [hb] at hh
    simp at hh
theorem box_cell {w : World} {bx : Nat} {c : Array Value} (hb : w.heap[bx]? = some (.cells c 58)) (i : Nat) : w.cell? ⟨bx, i, none⟩ = c[i]? := by
  simp [World.cell?, hb]
theorem heap_new (w : World) (o : Obj) : (w.alloc o).heap[w.heap.size]? = some o := by
  show (w.heap.push o)[w.heap.size]? = _
  simp
theorem box_lt {w : World} {bx : Nat} {o : Obj} (hb : w.heap[bx]? = some o) : bx < w.heap.size := (Array.getElem?_eq_some_iff.1 hb).1
theorem box_grown {w w' : World} {bx : Nat} {o : Obj} {row : Option Nat} (hb : w.heap[bx]? = some o) (hg : w.grownBy w' row) (hne : some bx ≠ row) : w'.heap[bx]? = some o :=
  (hg.block bx (box_lt hb) hne).trans hb
theorem box_alloc {w : World} {bx : Nat} {o : Obj} (hb : w.heap[bx]? = some o) (o' : Obj) : (w.alloc o').heap[bx]? = some o := (Below.heap_alloc _ _ _ (box_lt hb)).trans hb

set_option maxRecDepth 100000 in
set_option maxHeartbeats 4000000 in
theorem bandRuns_any (s : ByteArray) (o x y fr to : Int) (l : List (Int × Int)) (a : Option Addr) (cap : Nat) (w : World) (hl : l.length ≤ 1000000) (ha : ShAt w a l) (hv : valZone s.data.toList o l = 0) (hfr : 0 ≤ fr ∧ fr < 1440) (hto : 0 ≤ to ∧ to < 1440) :
    Calls Try.prog 45 #[.agg #[.string s, .int .i64 o, .slice a l.length cap], .agg #[.int .i64 x, .int .i64 y], .int .i64 fr, .int .i64 to] w fun e w' =>
      ∃ v, e = .returned (.tuple #[v, .int .i64 (bandLen fr to)]) ∧ w'.ownsRow w.heap.size 35 2 v (bandZ o l x y fr to).length (runCells (bandZ o l x y fr to)) ∧ Below w.heap.size w w' := by
  have hA := Lib.hid (fun W (h : Below w.heap.size w W) => ha.below h)
  have hok := Lib.hid (segsP_ok l 0 o x y (okay_of hv) (Int.le_refl _) (valZone_zero hv).2.1)
  have hlen := segsP_len l 0 o x y
  clear ha hv
  obtain ⟨hf1, hf2⟩ := hfr
  obtain ⟨ht1, ht2⟩ := hto
  obtain ⟨i0, hi, hz0, hz1, hz2⟩ := info_parts info35
  by_cases h0 : bandLen fr to = 0
  · have hz := Lib.hid (show bandZ o l x y fr to = [] from if_pos h0)
    have h0' := Lib.hid h0
    have hb0 : ((to - fr + 1440) % 1440 == 0) = true := by simpa [bandLen] using h0
    clear h0
    go_enter Try.func45, Try.ntmps45
    go_wp2_with fail
    go_ret2
    exact ⟨_, by rw [h0'.out]; rfl, by rw [hz.out]; exact ⟨rfl, .inl ⟨rfl, rfl⟩⟩, Below.then (below_new _ _) (below_new _ _)⟩
  have hz := Lib.hid (show bandZ o l x y fr to = allRuns fr (bandLen fr to) (segsP 0 o l x y) [] from if_neg h0)
  have hb0 : ((to - fr + 1440) % 1440 == 0) = false := by simpa [bandLen] using h0
  have hln1 : 0 < bandLen fr to := by unfold bandLen at *; omega
  have hln2 : bandLen fr to < 1440 := by unfold bandLen; omega
  clear h0
  go_enter Try.func45, Try.ntmps45
  go_wp2_with fail
  rw [show (to - fr + 1440) % 1440 = bandLen fr to from rfl]
  clear hb0
  generalize hlne : bandLen fr to = ln at *
  have Hln := Lib.hid hlne
  clear hlne
  obtain ⟨zb, sb, hbW⟩ := boxes w s o a l.length cap x y
  generalize ((w.alloc (Obj.cells #[Value.string s, Value.int IntKind.i64 o, Value.slice a l.length cap] 24)).alloc (Obj.cells #[Value.int IntKind.i64 x, Value.int IntKind.i64 y] 35)) = W at *
  refine (segments_any s o x y l a cap _ hl (hA.out _ hbW)).mono ?_
  rintro e w2 ⟨v, rfl, hown, hb2⟩
  have hB2 := Below.then hbW hb2
  clear hb2 hbW zb sb
  generalize segsP 0 o l x y = L at *
  rcases segs_of_own hown with ⟨rfl, rfl⟩ | ⟨g, cap', rfl, hrow⟩
  · clear hown
    go_wp2_with fail
    go_loop [11, 34] (fun m i => m = .slice none 0 0 ∧ i = .int .i64 0) (fun _ _ => 0)
    case atStart => exact ⟨rfl, rfl⟩
    case round =>
      obtain ⟨rfl, rfl⟩ := hrel
      go_wp2
      go_ret2
      exact ⟨_, by rw [Hln.out]; rfl, by rw [hz.out]; exact ⟨rfl, .inl ⟨rfl, rfl⟩⟩, hB2⟩
  clear hown
  go_wp2_with fail
  go_loopw [11, 34] (fun out i wr => ∃ (k : Nat) (v : Value) (R : List (Int × Int)), k ≤ L.length ∧ R.length ≤ k * 40000 ∧ i = .int .i64 k ∧ out = v ∧
    wr.ownsRow w2.heap.size 35 2 v R.length (runCells R) ∧ Hid (allRuns fr ln L [] = allRuns fr ln (L.drop k) R) ∧ Below w2.heap.size w2 wr) (fun _ i _ => L.length - (intOf i).toNat)
  case atStart => exact ⟨0, _, [], Nat.zero_le _, Nat.le_refl _, rfl, rfl, ⟨rfl, .inl ⟨rfl, rfl⟩⟩, Lib.hid rfl, Below.refl _ _⟩
  case round =>
    obtain ⟨k, v, R, hk, hR, rfl, rfl, hown, hdef, hbel⟩ := hrel
    by_cases hlt : k < L.length
    · obtain ⟨c1, c2, c3⟩ := (hrow.below hbel).2 k hlt
      have hgr := (hrow.below hbel).1
      obtain ⟨s1, s2, s3, s4, s5⟩ := hok.out _ (segAt_mem L k hlt)
      obtain ⟨e1, e2, e3, e4, e5⟩ := segDay_bd (hok.out _ (segAt_mem L k hlt))
      have hdx := Lib.hid (hdef.out.trans (allRuns_step hlt))
      have E3 := Lib.hid e3
      clear e3
      go_wp2_with (go_at_call 30; refine (split_any _ _ (by omega) (by omega)).mono ?_; rintro e w' ⟨rfl, rfl⟩)
      generalize hwb : wr.alloc (Obj.cells #[Value.int IntKind.i64 (segAt L k).1, Value.int IntKind.i64 (segAt L k).2.1, Value.int IntKind.i64 (segAt L k).2.2] 58) = wb
      have hbb : Below wr.heap.size wr wb := by rw [← hwb]; exact below_new _ _
      have hbox : wb.heap[wr.heap.size]? = some (.cells #[.int .i64 (segAt L k).1, .int .i64 (segAt L k).2.1, .int .i64 (segAt L k).2.2] 58) := by rw [← hwb]; exact heap_new _ _
      have hbelb := hbel.trans (hbb.mono hbel.size)
      have hownb : wb.ownsRow w2.heap.size 35 2 u11 R.length (runCells R) := by rw [← hwb]; exact hown.alloc _
      clear hwb c1 c2 c3 hown hbb
      generalize hg : segAt L k = G at *
      rw [show (G.1 + G.2.2) / 1440 - 1 = segDay G from rfl]
      generalize hlast : (G.2.1 - 1 + G.2.2) / 1440 = lastd at *
      have Hg := Lib.hid hg
      have Hlast := Lib.hid hlast
      clear hg hlast
      generalize hN : segN G = N at *
      have HN := Lib.hid hN
      clear hN
      have hsr := Lib.hid (show segRuns G fr ln R = dayRuns G fr ln N (segDay G) R from by unfold segRuns; rw [HN.out])
      have e3 := E3.out
      have e6 : (N : Int) ≤ lastd - segDay G + 1 := by omega
      have e7 : lastd - segDay G + 1 ≤ (N : Int) := by omega
      clear e3
      generalize wr.heap.size = bx at *
      go_loopw [11, 18] (fun out d wi => ∃ (j : Nat) (v : Value) (Q : List (Int × Int)), j ≤ N ∧ Q.length ≤ k * 40000 + j ∧ d = .int .i64 (segDay G + j) ∧ out = v ∧
        wi.ownsRow w2.heap.size 35 2 v Q.length (runCells Q) ∧ Hid (segRuns G fr ln R = dayRuns G fr ln (N - j) (segDay G + j) Q) ∧ wi.heap[bx]? = some (.cells #[.int .i64 G.1, .int .i64 G.2.1, .int .i64 G.2.2] 58) ∧ Below w2.heap.size w2 wi) (fun _ d _ => (lastd + 1 - intOf d).toNat)
      case atStart => exact ⟨0, _, R, Nat.zero_le _, by omega, by simp, rfl, hownb, Lib.hid (by simpa using hsr.out), hbox, hbelb⟩
      case round =>
        obtain ⟨j, v, Q, hj, hQ, rfl, rfl, hownQ, hdefQ, hbx, hbi⟩ := hrel
        by_cases hjl : j < N
        · have E1 := Lib.hid (show N - j - 1 = N - (j + 1) ∧ segDay G + (j : Int) + 1 = segDay G + ((j + 1 : Nat) : Int) from by omega)
          have hdq := Lib.hid (hdefQ.out.trans (dayRuns_step (by omega)))
          by_cases hAB : dayLo G fr (segDay G + j) < dayHi G fr ln (segDay G + j)
          · have hdr := Lib.hid (hdq.out.trans (by rw [day1_yes hAB]))
            rcases hownQ.2 with ⟨rfl, hn0⟩ | ⟨g', cap2, cur, rfl, hbase, hrest⟩
            · obtain rfl := List.length_eq_zero_iff.1 hn0
              have hd3 := Lib.hid (hdr.out.trans (by rw [addRun_new (by simp)]))
              clear hn0
              have p1 := box_cell hbx 0
              have p2 := box_cell hbx 1
              have p3 := box_cell hbx 2
              simp only [List.getElem?_toArray, List.getElem?_cons_zero, List.getElem?_cons_succ] at p1 p2 p3
              go_wp2_with fail
              go_quiet (fail)
              have hbi2 : Below w2.heap.size w2 (wr.drewN nq) := below_drewN hbi _
              have hbx2 : (wr.drewN nq).heap[bx]? = _ := hbx
              have hown2 : (wr.drewN nq).ownsRow w2.heap.size 35 2 (.slice none 0 0) 0 (runCells []) := hownQ
              simp only [show (if (segDay G + (j : Int)) * 1440 + fr - G.2.2 < G.1 then G.1 else (segDay G + (j : Int)) * 1440 + fr - G.2.2) = dayLo G fr (segDay G + j) from rfl, show (if G.2.1 < (segDay G + (j : Int)) * 1440 + fr - G.2.2 + ln then G.2.1 else (segDay G + (j : Int)) * 1440 + fr - G.2.2 + ln) = dayHi G fr ln (segDay G + j) from rfl]
              generalize dayLo G fr (segDay G + j) = A at *
              generalize dayHi G fr ln (segDay G + j) = B at *
              generalize wr.drewN nq = wd at *
              clear p1 p2 p3
              go_wp2_with (at_builtin; refine wpList_append_own _ rfl _ _ 60 rfl w2.heap.size 35 i0 (.agg #[.int .i64 0, .int .i64 0]) 2 16 Try.underlying60 hi hz0 hz1 hz2 rfl (by decide) _ _ _ rfl (hown2.alloc _) ⟨wd.heap.size, 0, none⟩ 1 1 [.int .i64 A, .int .i64 B] rfl rfl ?c1 ?c2 ?c3 ?c4 ?c5 ?_)
              case c1 => exact fresh_cells wd [.int .i64 A, .int .i64 B] 35
              case c2 => intro u hu; simp at hu; rcases hu with rfl | rfl <;> rfl
              case c3 => unfold maxLen; omega
              case c4 => omega
              case c5 => have := hbi2.size; simp; omega
              intro v' w3 hown' hgrow _
              have hbel3 := below_append (e' := 35) hbi2 rfl hown2 hgrow
              have hbox3 := box_grown (box_alloc hbx2 _) hgrow (own_ne hown2 hbx2)
              go_wp2_with fail
              go_roundw
              case rel => exact ⟨j + 1, _, [] ++ [(A, B)], by omega, by simp; omega, by go_num, rfl, by simpa [runCells] using hown', Lib.hid (by rw [hd3.out, E1.out.1, E1.out.2]), hbox3, hbel3⟩
              case measure => simp [intOf]; omega
            · clear hbase hrest
              by_cases hQ0 : Q.length = 0
              · obtain rfl := List.length_eq_zero_iff.1 hQ0
                have hd3 := Lib.hid (hdr.out.trans (by rw [addRun_new (by simp)]))
                clear hQ0
                have p1 := box_cell hbx 0
                have p2 := box_cell hbx 1
                have p3 := box_cell hbx 2
                simp only [List.getElem?_toArray, List.getElem?_cons_zero, List.getElem?_cons_succ] at p1 p2 p3
                go_wp2_with fail
                go_quiet (fail)
                have hbi2 : Below w2.heap.size w2 (wr.drewN nq) := below_drewN hbi _
                have hbx2 : (wr.drewN nq).heap[bx]? = _ := hbx
                have hown2 : (wr.drewN nq).ownsRow w2.heap.size 35 2 (.slice (some ⟨g', 0, none⟩) 0 cap2) 0 (runCells []) := hownQ
                simp only [show (if (segDay G + (j : Int)) * 1440 + fr - G.2.2 < G.1 then G.1 else (segDay G + (j : Int)) * 1440 + fr - G.2.2) = dayLo G fr (segDay G + j) from rfl, show (if G.2.1 < (segDay G + (j : Int)) * 1440 + fr - G.2.2 + ln then G.2.1 else (segDay G + (j : Int)) * 1440 + fr - G.2.2 + ln) = dayHi G fr ln (segDay G + j) from rfl]
                generalize dayLo G fr (segDay G + j) = A at *
                generalize dayHi G fr ln (segDay G + j) = B at *
                generalize wr.drewN nq = wd at *
                clear p1 p2 p3
                go_wp2_with (at_builtin; refine wpList_append_own _ rfl _ _ 60 rfl w2.heap.size 35 i0 (.agg #[.int .i64 0, .int .i64 0]) 2 16 Try.underlying60 hi hz0 hz1 hz2 rfl (by decide) _ _ _ rfl (hown2.alloc _) ⟨wd.heap.size, 0, none⟩ 1 1 [.int .i64 A, .int .i64 B] rfl rfl ?c1 ?c2 ?c3 ?c4 ?c5 ?_)
                case c1 => exact fresh_cells wd [.int .i64 A, .int .i64 B] 35
                case c2 => intro u hu; simp at hu; rcases hu with rfl | rfl <;> rfl
                case c3 => unfold maxLen; omega
                case c4 => omega
                case c5 => have := hbi2.size; simp; omega
                intro v' w3 hown' hgrow _
                have hbel3 := below_append (e' := 35) hbi2 rfl hown2 hgrow
                have hbox3 := box_grown (box_alloc hbx2 _) hgrow (own_ne hown2 hbx2)
                go_wp2_with fail
                go_roundw
                case rel => exact ⟨j + 1, _, [] ++ [(A, B)], by omega, by simp; omega, by go_num, rfl, by simpa [runCells] using hown', Lib.hid (by rw [hd3.out, E1.out.1, E1.out.2]), hbox3, hbel3⟩
                case measure => simp [intOf]; omega
              · obtain ⟨m, hm⟩ : ∃ m, Q.length = m + 1 := ⟨Q.length - 1, by omega⟩
                have hq1 := runCells_at Q m (by omega)
                have hQm := Lib.hid (show Q.length - 1 = m from by omega)
                by_cases hjn : (runAt Q m).2 = dayLo G fr (segDay G + j)
                · have hd3 := Lib.hid (hdr.out.trans (by rw [addRun_join (by omega) (by rw [hQm.out]; exact hjn), hQm.out]))
                  have hset := Lib.hid (runCells_set Q (dayHi G fr ln (segDay G + j)) m (by omega))
                  have hjb : ((runAt Q m).2 == dayLo G fr (segDay G + j)) = true := by simpa using hjn
                  have Hm := Lib.hid hm
                  rw [hm] at hownQ hQ
                  clear hjn hQ0
                  have hcell := (World.ownsRow.cells hownQ (g := g') rfl) (m * 2 + 1) _ hq1.2
                  rw [add_zero_off] at hcell
                  have hfrz := World.ownsRow.frozenAt hownQ (m * 2 + 1)
                  clear hq1 hm
                  simp only [Hm.out]
                  have p1 := box_cell hbx 0
                  have p2 := box_cell hbx 1
                  have p3 := box_cell hbx 2
                  simp only [List.getElem?_toArray, List.getElem?_cons_zero, List.getElem?_cons_succ] at p1 p2 p3
                  go_wp2_with fail
                  go_quiet (fail)
                  have hbi2 : Below w2.heap.size w2 (wr.drewN nq) := below_drewN hbi _
                  have hbx2 : (wr.drewN nq).heap[bx]? = _ := hbx
                  have hown2 : (wr.drewN nq).ownsRow w2.heap.size 35 2 (.slice (some ⟨g', 0, none⟩) (m + 1) cap2) (m + 1) (runCells Q) := hownQ
                  have hcell2 : (wr.drewN nq).cell? ⟨g', m * 2 + 1, none⟩ = _ := hcell
                  have hfrz2 : (wr.drewN nq).frozen? ⟨g', m * 2 + 1, none⟩ = false := hfrz
                  simp only [show (if (segDay G + (j : Int)) * 1440 + fr - G.2.2 < G.1 then G.1 else (segDay G + (j : Int)) * 1440 + fr - G.2.2) = dayLo G fr (segDay G + j) from rfl, show (if G.2.1 < (segDay G + (j : Int)) * 1440 + fr - G.2.2 + ln then G.2.1 else (segDay G + (j : Int)) * 1440 + fr - G.2.2 + ln) = dayHi G fr ln (segDay G + j) from rfl]
                  generalize dayLo G fr (segDay G + j) = A at *
                  generalize dayHi G fr ln (segDay G + j) = B at *
                  generalize wr.drewN nq = wd at *
                  clear p1 p2 p3 hcell hfrz hownQ
                  go_wp2_with fail
                  have hst := hown2.stored (m * 2 + 1) (.int .i64 B)
                  rw [hset.out] at hst
                  have hbel3 := hbi2.grown hst.2 hbi2.size (fun q hq => own_base hown2 q hq)
                  have hbox3 := box_grown hbx2 hst.2 (own_ne hown2 hbx2)
                  go_roundw
                  case rel => exact ⟨j + 1, _, Q.set m ((runAt Q m).1, B), by omega, by rw [List.length_set, Hm.out]; omega, by go_num, rfl, by rw [List.length_set, Hm.out]; exact hst.1, Lib.hid (by rw [hd3.out, E1.out.1, E1.out.2]), hbox3, hbel3⟩
                  case measure => simp [intOf]; omega
                · have hd3 := Lib.hid (hdr.out.trans (by rw [addRun_new (fun h => hjn (by rw [← h.2, hQm.out]))]))
                  have hjb : ((runAt Q m).2 == dayLo G fr (segDay G + j)) = false := by simpa using hjn
                  have Hm := Lib.hid hm
                  rw [hm] at hownQ hQ
                  clear hjn hQ0
                  have hcell := (World.ownsRow.cells hownQ (g := g') rfl) (m * 2 + 1) _ hq1.2
                  rw [add_zero_off] at hcell
                  have hfrz := World.ownsRow.frozenAt hownQ (m * 2 + 1)
                  clear hq1 hm
                  simp only [Hm.out]
                  have p1 := box_cell hbx 0
                  have p2 := box_cell hbx 1
                  have p3 := box_cell hbx 2
                  simp only [List.getElem?_toArray, List.getElem?_cons_zero, List.getElem?_cons_succ] at p1 p2 p3
                  go_wp2_with fail
                  go_quiet (fail)
                  have hbi2 : Below w2.heap.size w2 (wr.drewN nq) := below_drewN hbi _
                  have hbx2 : (wr.drewN nq).heap[bx]? = _ := hbx
                  have hown2 : (wr.drewN nq).ownsRow w2.heap.size 35 2 (.slice (some ⟨g', 0, none⟩) (m + 1) cap2) (m + 1) (runCells Q) := hownQ
                  have hcell2 : (wr.drewN nq).cell? ⟨g', m * 2 + 1, none⟩ = _ := hcell
                  have hfrz2 : (wr.drewN nq).frozen? ⟨g', m * 2 + 1, none⟩ = false := hfrz
                  simp only [show (if (segDay G + (j : Int)) * 1440 + fr - G.2.2 < G.1 then G.1 else (segDay G + (j : Int)) * 1440 + fr - G.2.2) = dayLo G fr (segDay G + j) from rfl, show (if G.2.1 < (segDay G + (j : Int)) * 1440 + fr - G.2.2 + ln then G.2.1 else (segDay G + (j : Int)) * 1440 + fr - G.2.2 + ln) = dayHi G fr ln (segDay G + j) from rfl]
                  generalize dayLo G fr (segDay G + j) = A at *
                  generalize dayHi G fr ln (segDay G + j) = B at *
                  generalize wr.drewN nq = wd at *
                  clear p1 p2 p3 hcell hfrz hownQ
                  go_wp2_with (at_builtin; refine wpList_append_own _ rfl _ _ 60 rfl w2.heap.size 35 i0 (.agg #[.int .i64 0, .int .i64 0]) 2 16 Try.underlying60 hi hz0 hz1 hz2 rfl (by decide) _ _ _ rfl (hown2.alloc _) ⟨wd.heap.size, 0, none⟩ 1 1 [.int .i64 A, .int .i64 B] rfl rfl ?c1 ?c2 ?c3 ?c4 ?c5 ?_)
                  case c1 => exact fresh_cells wd [.int .i64 A, .int .i64 B] 35
                  case c2 => intro u hu; simp at hu; rcases hu with rfl | rfl <;> rfl
                  case c3 => unfold maxLen; omega
                  case c4 => omega
                  case c5 => have := hbi2.size; simp; omega
                  intro v' w3 hown' hgrow _
                  have hbel3 := below_append (e' := 35) hbi2 rfl hown2 hgrow
                  have hbox3 := box_grown (box_alloc hbx2 _) hgrow (own_ne hown2 hbx2)
                  go_wp2_with fail
                  go_roundw
                  case rel => exact ⟨j + 1, _, Q ++ [(A, B)], by omega, by rw [List.length_append, List.length_singleton, Hm.out]; omega, by go_num, rfl, by rw [List.length_append, List.length_singleton, Hm.out, runCells_snoc]; exact hown', Lib.hid (by rw [hd3.out, E1.out.1, E1.out.2]), hbox3, hbel3⟩
                  case measure => simp [intOf]; omega
          · have hd3 := Lib.hid (hdq.out.trans (by rw [day1_no hAB]))
            have p1 := box_cell hbx 0
            have p2 := box_cell hbx 1
            have p3 := box_cell hbx 2
            simp only [List.getElem?_toArray, List.getElem?_cons_zero, List.getElem?_cons_succ] at p1 p2 p3
            go_wp2_with fail
            go_quiet (fail)
            have hbi2 : Below w2.heap.size w2 (wr.drewN nq) := below_drewN hbi _
            have hbx2 : (wr.drewN nq).heap[bx]? = _ := hbx
            have hown2 : (wr.drewN nq).ownsRow w2.heap.size 35 2 u11 Q.length (runCells Q) := hownQ
            simp only [show (if (segDay G + (j : Int)) * 1440 + fr - G.2.2 < G.1 then G.1 else (segDay G + (j : Int)) * 1440 + fr - G.2.2) = dayLo G fr (segDay G + j) from rfl, show (if G.2.1 < (segDay G + (j : Int)) * 1440 + fr - G.2.2 + ln then G.2.1 else (segDay G + (j : Int)) * 1440 + fr - G.2.2 + ln) = dayHi G fr ln (segDay G + j) from rfl]
            generalize dayLo G fr (segDay G + j) = A at *
            generalize dayHi G fr ln (segDay G + j) = B at *
            go_wp2_with fail
            go_roundw
            case rel => exact ⟨j + 1, _, Q, by omega, by omega, by go_num, rfl, hown2, Lib.hid (by rw [hd3.out, E1.out.1, E1.out.2]), hbx2, hbi2⟩
            case measure => simp [intOf]; omega
        · have hbelx := hbi
          have hjN : j = N := by omega
          have hfin := Lib.hid (hdefQ.out.trans (by rw [hjN, Nat.sub_self, dayRuns]))
          go_wp2_with fail
          go_roundw
          case rel => exact ⟨k + 1, _, Q, by omega, by omega, by go_num, rfl, hownQ, Lib.hid (by rw [hdx.out, hfin.out]), hbi⟩
          case measure => simp [intOf]; omega
    · have hf := Lib.hid (hdef.out.trans (allRuns_end hlt))
      go_wp2_with fail
      go_ret2
      refine ⟨_, by rw [Hln.out]; rfl, ?_, Below.then hB2 hbel⟩
      rw [hz.out, hf.out]
      exact own_mono hown hB2.size
end Go.Proofs.Ytdjhoelbnnljjaa
