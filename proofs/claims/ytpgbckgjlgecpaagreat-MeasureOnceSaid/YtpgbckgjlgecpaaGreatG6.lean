/- merged texts: Dv0 St5 St6 St7 St8 St9 St10 St11 Nw0 -/
import Derived.Test.YtpgbckgjlgecpaaGreatG5
/- plain facts on valid duties and zones -/
namespace Go.Proofs.YtpgbckgjlgecpaaGreat
open Go.RowKit Go.Sort
set_option linter.unusedVariables false
set_option linter.unusedSimpArgs false
def fOf (t : TTM) (d : Duty) (k : Nat) : FlightM := fAt t.fls (tAt d k).1.toNat
theorem gap_bd {t : TTM} {c : ConM} {d : Duty} (hc : valT c = 0) (hd : dutyE t c d = 0) {k : Nat} (hk : k < d.length) (h0 : 0 < k) : 0 ≤ (fOf t d k).dep - (fOf t d (k - 1)).arr ∧ (fOf t d k).dep - (fOf t d (k - 1)).arr ≤ 1440 := by
  have hj := (dutyE_ok hd).2.2.2 k (by omega) hk
  have hr := con_range hc
  unfold joinB at hj
  simp only [Bool.and_eq_true, decide_eq_true_eq] at hj
  unfold fOf
  omega
theorem leg_bd {t : TTM} {c : ConM} {d : Duty} (ht : valTT t = 0) (hd : dutyE t c d = 0) {k : Nat} (hk : k < d.length) : 0 < (fOf t d k).arr - (fOf t d k).dep ∧ (fOf t d k).arr - (fOf t d k).dep ≤ 1440 ∧ 2880 ≤ (fOf t d k).dep ∧ (fOf t d k).arr ≤ 52593120 := by
  obtain ⟨h1, h2, h3, _⟩ := dutyE_ok hd
  obtain ⟨m, hm, hml⟩ := flOk_nat (h3 k hk)
  unfold fOf
  rw [hm]
  have := flight_times ht hml
  simp only [Int.toNat_natCast]
  omega
theorem arr_late {t : TTM} {c : ConM} {d : Duty} (ht : valTT t = 0) (hc : valT c = 0) (hd : dutyE t c d = 0) : ∀ k, k < d.length → (fOf t d 0).dep < (fOf t d k).arr
  | 0, h => by have := leg_bd ht hd h; omega
  | k + 1, h => by
    have h1 := arr_late ht hc hd k (by omega)
    have h2 := gap_bd hc hd h (by omega)
    have h3 := leg_bd ht hd h
    rw [Nat.add_sub_cancel] at h2
    omega
theorem span_late {t : TTM} {c : ConM} {d : Duty} (ht : valTT t = 0) (hc : valT c = 0) (hd : dutyE t c d = 0) : 0 < (fAt t.fls (lstN d)).arr + c.release - ((fAt t.fls (fstN d)).dep - c.report) := by
  have h := arr_late ht hc hd (d.length - 1) (by have := (dutyE_ok hd).1; omega)
  have hr := con_range hc
  show 0 < (fOf t d (d.length - 1)).arr + c.release - ((fOf t d 0).dep - c.report)
  omega
theorem valZ_all : ∀ {l : List ZoneM} {acc : List ByteArray}, (valZ acc l).1 = 0 → ∀ z ∈ l, zval z = 0
  | [], _, _, z, hz => by simp at hz
  | x :: l, acc, h, z, hz => by
    rw [valZ] at h
    by_cases h1 : zval x ≠ 0
    · rw [if_pos h1] at h; exact absurd h h1
    rw [if_neg h1] at h
    by_cases h2 : hasB acc x.name = true
    · rw [if_pos h2] at h; simp at h
    rw [if_neg h2] at h
    rcases List.mem_cons.1 hz with rfl | hz
    · exact Classical.not_not.1 h1
    · exact valZ_all h z hz
theorem valTT_zones {t : TTM} (h : valTT t = 0) : (valZ [] t.zones).1 = 0 ∧ (valA (valZ [] t.zones).2 [] t.airs).1 = 0 := by
  unfold valTT at h
  by_cases h1 : 16 < t.zones.length ∨ 64 < t.airs.length ∨ 200 < t.fls.length
  · rw [if_pos h1] at h; omega
  rw [if_neg h1] at h
  by_cases h2 : (valZ [] t.zones).1 ≠ 0
  · rw [if_pos h2] at h; exact absurd h h2
  rw [if_neg h2] at h
  by_cases h3 : (valA (valZ [] t.zones).2 [] t.airs).1 ≠ 0
  · rw [if_pos h3] at h; exact absurd h h3
  exact ⟨Classical.not_not.1 h2, Classical.not_not.1 h3⟩
theorem zoneT_ok {t : TTM} (h : valTT t = 0) (s : ByteArray) : zval (zoneT t s) = 0 ∨ zoneT t s = zone0 := by
  cases ha : airN t.airs s with
  | none => exact .inr (by simp [zoneT, ha])
  | some a =>
    cases hz : zoneN t.zones a.zone with
    | none => exact .inr (by simp [zoneT, ha, hz])
    | some z =>
      have e : zoneT t s = z := by simp [zoneT, ha, hz]
      rw [e]
      refine .inl (valZ_all (valTT_zones h).1 z ?_)
      have := List.mem_of_find?_eq_some hz
      simpa using this
theorem zone_sh {t : TTM} (h : valTT t = 0) (s : ByteArray) : (zoneT t s).sh.length ≤ 16 := by
  rcases zoneT_ok h s with h1 | h1
  · exact (valZone_zero h1).2.2.1
  · rw [h1]; simp [zone0]
end Go.Proofs.YtpgbckgjlgecpaaGreat
/- contract of the setting: CreditOf -/
namespace Go.Proofs.YtpgbckgjlgecpaaGreat
open Go.RowKit Go.Sort
set_option linter.unusedVariables false
set_option linter.unusedSimpArgs false
set_option maxRecDepth 100000
/-- the credit of a duty with the values q -/
def credV (c : ConM) (q : List Int) : Int := if (creditOf c).length = 0 then iAt q 3 else fval q (gAt (creditOf c) 0)
set_option maxHeartbeats 1600000 in
theorem creditOf_any (w : World) (sb : Nat) (t : TTM) (c : ConM) (P : SetP) (hS : SetAt w sb t c P) (q : List Int) (a : Option Addr) (cap : Nat) (hq3 : 3 < q.length) (hq : q.length ≤ 140737488355328) (hI : IntsAt w a q) (hk : ∀ k, k < (creditOf c).length → fok q (gAt (creditOf c) k)) (hcl : (creditOf c).length ≤ 140737488355328) : Calls Tryz.prog 62 #[.pointer (some ⟨sb, 0, none⟩), .slice a q.length cap] w fun e w' => e = .returned (.int .i64 (credV c q)) ∧ Below w.heap.size w w' := by
  have d26 : w.cell? ⟨sb, 26, none⟩ = some (.slice P.xa (creditOf c).length P.xc) := cellW (j := 26) hS.box rfl
  have hs := hS.lt
  obtain ⟨b, off, rfl, hb, hcs⟩ := hI.cells (by omega)
  have c3 := hcs 3 hq3
  have HI := Lib.hid hI
  have HC := Lib.hid hS.credit
  have HK := Lib.hid hk
  have e3 : (3 : Int) < (q.length : Int) := by omega
  clear hS hcs hI hk
  by_cases h0 : (creditOf c).length = 0
  · have hr := Lib.hid (show credV c q = iAt q 3 from if_pos h0)
    rw [h0] at d26
    go_enter Tryz.func62, Tryz.ntmps62
    go_wp2_with fail
    go_loop [11] (fun i => i = .int .i64 0) (fun _ => 0)
    case atStart => rfl
    case round =>
      subst hrel
      go_wp2_with fail
      go_ret
      exact ⟨ret_int hr.out.symm, Below.refl _ _⟩
  · have hr := Lib.hid (show credV c q = fval q (gAt (creditOf c) 0) from if_neg h0)
    obtain ⟨fb, foff, hfa, hfb, hfc⟩ := HC.out.cells (by omega)
    have F0 := Lib.hid (hfc.at 0 (by omega))
    have hp : (0 : Int) < ((creditOf c).length : Int) := by omega
    rw [hfa] at d26
    clear hfc hfa HC
    go_enter Tryz.func62, Tryz.ntmps62
    go_wp2_with fail
    go_loop [11] (fun i => i = .int .i64 0) (fun _ => 0)
    case atStart => rfl
    case round =>
      subst hrel
      go_wp2_with fail
      refine (value_any q _ _ noX hq (gAt (creditOf c) 0) fb foff w (by simpa using F0.out) (HK.out 0 (by omega)) HI.out).mono ?_
      rintro e w1 ⟨rfl, hb1⟩
      go_wp2_with fail
      go_ret
      exact ⟨ret_int hr.out.symm, hb1⟩
end Go.Proofs.YtpgbckgjlgecpaaGreat
/- contracts: slices.Clone at []int, limited -/
namespace Go.Proofs.YtpgbckgjlgecpaaGreat
open Go.RowKit Go.Sort
set_option linter.unusedVariables false
set_option linter.unusedSimpArgs false
set_option maxRecDepth 100000
set_option maxHeartbeats 1600000 in
theorem cloneI_any (q : List Int) (b off cap : Nat) (w : World) (hb : b < w.heap.size) (hq : q.length * 8 ≤ 140737488355328) (hc : ∀ i, i < q.length → w.cell? ⟨b, off + i, none⟩ = some (.int .i64 (iAt q i))) : Calls Tryz.prog 164 #[.slice (some ⟨b, off, none⟩) q.length cap] w fun e w' => ∃ v', e = .returned v' ∧ w'.ownsRow w.heap.size 3 1 v' q.length (q.map (Value.int .i64)) ∧ v' ≠ .slice none 0 0 ∧ Below w.heap.size w w' := by
  obtain ⟨i0, hi, hz0, hz1, hz2⟩ := info_parts (show (Tryz.prog.info? 3).map (fun i => (i.zero, i.size, i.bytes)) = some (some (.int .i64 0), 1, 8) by kernel_rfl)
  have qn : ∀ (w : World) (a : Option Addr) (n c n' c' : Nat), (binOp .eql 96 (.slice a n c) (.slice none n' c')).run Tryz.prog w = .ok (.bool a.isNone) w := fun w a n c n' c' => Lib.run_eql_slice_nil w _ _ a n c n' c' Tryz.underlying96
  have A := Lib.hid hc
  clear hc
  go_enter Tryz.func164, Tryz.ntmps164
  go_wp2_with (at_builtin; refine wpList_append_own _ rfl _ _ 96 rfl w.heap.size 3 i0 (.int .i64 0) 1 8 Tryz.underlying96 hi hz0 hz1 hz2 rfl (by decide) _ _ _ rfl (World.ownsRow_made w #[] 0 (Nat.le_refl _) (Nat.zero_le _) rfl) ⟨b, off, none⟩ q.length cap (q.map (Value.int .i64)) rfl ?qc1 ?qc2 ?qc3 ?qc4 ?qc5 ?qc6 ?_)
  case qc1 => simp
  case qc2 =>
    intro j u hj
    have hjn : j < q.length := by
      have := (List.getElem?_eq_some_iff.1 hj).1
      simpa using this
    rw [Addr.add_lit]
    refine Lib.cell?_alloc_some _ ?_
    rw [A.out j hjn]
    have e : (q.map (Value.int .i64))[j]? = some (Value.int .i64 (iAt q j)) := by simp [iAt, List.getD, List.getElem?_eq_getElem hjn]
    rw [e] at hj
    exact hj
  case qc3 => intro u hu; obtain ⟨x, _, rfl⟩ := List.mem_map.1 hu; rfl
  case qc4 => unfold maxLen; omega
  case qc5 => omega
  case qc6 => simp
  intro v' w1 hown hgrow hnil
  go_wp2_with fail
  go_ret
  refine ⟨v', rfl, by simpa using hown, hnil, ?_⟩
  exact ((Below.refl _ w).alloc (Nat.le_refl _) _).grown hgrow (by simp) (by intro k hk; simp [Value.ownBlock] at hk; omega)

/-- values as expressions see them -/
def limV (k : Int) (q : List Int) : List Int := if k = 3 then q.set 6 (clampI (iAt q 6)) else q
theorem limV_len (k : Int) (q : List Int) : (limV k q).length = q.length := by unfold limV; split <;> simp
theorem own_ints {w : World} {B : Nat} {v : Value} {q : List Int} (h : w.ownsRow B 3 1 v q.length (q.map (Value.int .i64))) (hv : v ≠ .slice none 0 0) : ∃ g cap cur, v = .slice (some ⟨g, 0, none⟩) q.length cap ∧ B ≤ g ∧ w.heap[g]? = some (.cells cur 3 (0, 0)) ∧ q.length ≤ cur.size ∧ ∀ i, i < q.length → cur[i]? = some (.int .i64 (iAt q i)) := by
  rcases h.2 with ⟨e0, _⟩ | ⟨g, cap, cur, rfl, hb, hg, hn, hm, hs, ht⟩
  · exact absurd e0 hv
  · refine ⟨g, cap, cur, rfl, hb, hg, by omega, fun i hi => ?_⟩
    have e1 : (cur.toList.take (q.length * 1))[i]? = (q.map (Value.int .i64))[i]? := by rw [ht]
    rw [List.getElem?_take_of_lt (by omega)] at e1
    rw [← Array.getElem?_toList, e1]
    simp [iAt, List.getD, List.getElem?_eq_getElem hi]
theorem iAt_set {q : List Int} {k i : Nat} {x : Int} (h : k < q.length) : iAt (q.set k x) i = if i = k then x else iAt q i := by
  unfold iAt
  rw [List.getD_eq_getElem?_getD, List.getElem?_set, List.getD_eq_getElem?_getD]
  by_cases e : i = k
  · subst e; simp [h]
  · rw [if_neg (fun h => e h.symm), if_neg e]
set_option maxHeartbeats 1600000 in
theorem limited_any (k : Int) (q : List Int) (a : Option Addr) (cap : Nat) (w : World) (h36 : k = 3 → 6 < q.length) (hq : q.length * 8 ≤ 140737488355328) (hI : IntsAt w a q) : Calls Tryz.prog 124 #[.int .i64 k, .slice a q.length cap] w fun e w' => ∃ a' cap', e = .returned (.slice a' (limV k q).length cap') ∧ IntsAt w' a' (limV k q) ∧ Below w.heap.size w w' := by
  by_cases hk : k = 3
  · subst hk
    have h6 := h36 rfl
    clear h36
    obtain ⟨b, off, rfl, hb, hcs⟩ := hI.cells (by omega)
    have HC := Lib.hid hcs
    clear hcs hI
    have e6 : (6 : Int) < (q.length : Int) := by omega
    have HL := Lib.hid (show limV 3 q = q.set 6 (clampI (iAt q 6)) from rfl)
    go_enter Tryz.func124, Tryz.ntmps124
    go_wp2_with fail
    refine (cloneI_any q b off cap w hb hq HC.out).mono ?_
    rintro e w1 ⟨v1, rfl, hown, hnn, hbel⟩
    obtain ⟨g, cap', cur, rfl, hg, hblk, hsz, hcur⟩ := own_ints hown hnn
    have HB := Lib.hid hbel
    have HQ := Lib.hid hcur
    have c6 : w1.cell? ⟨g, 6, none⟩ = some (.int .i64 (iAt q 6)) := cellW (j := 6) hblk (hcur 6 h6)
    have fz : w1.frozen? ⟨g, 6, none⟩ = false := by simp [World.frozen?, hblk]
    have hg1 := lt_of_block hblk
    have hs6 : 6 < cur.size := by omega
    clear hown hnn hbel hcur
    go_wp2_with fail
    refine (clamp_any (iAt q 6) w1).mono ?_
    rintro e w2 ⟨rfl, rfl⟩
    go_wp2_with fail
    go_ret
    have Q := block_setCell (i := 6) (u := .int .i64 (clampI (iAt q 6))) hblk
    refine ⟨some ⟨g, 0, none⟩, cap', by (show Ending.returned (.slice (some ⟨g, 0, none⟩) q.length cap') = _; rw [limV_len]), .inr ⟨g, 0, rfl, lt_of_block Q, fun i hi => ?_⟩, HB.out.setCell (p := ⟨g, 6, none⟩) hg _⟩
    rw [limV_len] at hi
    rw [HL.out, Nat.zero_add, iAt_set h6]
    refine cellW Q ?_
    rw [Array.getElem?_setIfInBounds]
    by_cases e : i = 6
    · subst e; simp [hs6]
    · rw [if_neg (fun h => e h.symm), if_neg e]; exact HQ.out i hi
  · have hk2 : (k == 3) = false := by simpa using hk
    have HL := Lib.hid (show limV k q = q from if_neg hk)
    have HI := Lib.hid hI
    clear hI h36
    go_enter Tryz.func124, Tryz.ntmps124
    go_wp2_with fail
    go_ret
    exact ⟨a, cap, by (show Ending.returned (.slice a q.length cap) = _; rw [HL.out]), by rw [HL.out]; exact HI.out, Below.refl _ _⟩
end Go.Proofs.YtpgbckgjlgecpaaGreat
/- contract of the setting: CostOf -/
namespace Go.Proofs.YtpgbckgjlgecpaaGreat
open Go.RowKit Go.Sort
set_option linter.unusedVariables false
set_option linter.unusedSimpArgs false
set_option maxRecDepth 100000
def sumF (q : List Int) (l : List FormM) : Nat → Int
  | 0 => 0
  | j + 1 => sumF q l j + fval q (gAt l j)
theorem sumF_bd {q : List Int} {l : List FormM} (h : ∀ i, i < l.length → inR (fval q (gAt l i))) : ∀ k : Nat, k ≤ l.length → -(1099511627776 * (k : Int)) ≤ sumF q l k ∧ sumF q l k ≤ 1099511627776 * (k : Int)
  | 0, _ => by simp [sumF]
  | k + 1, hk => by
    obtain ⟨a, b⟩ := sumF_bd h k (by omega)
    obtain ⟨c, d⟩ := h k (by omega)
    rw [sumF]
    omega
/-- the sum of the costs of a scope -/
def costV (c : ConM) (k : Nat) (q : List Int) : Int := sumF (limV k q) (costsOf c k) (costsOf c k).length
set_option maxHeartbeats 1600000 in
theorem costOf_1 (w : World) (sb : Nat) (t : TTM) (c : ConM) (P : SetP) (hS : SetAt w sb t c P) (q : List Int) (a : Option Addr) (cap : Nat) (hq : q.length * 8 ≤ 140737488355328) (hI : IntsAt w a q) (hn : (costsOf c 1).length ≤ 1000) (hk : ∀ i, i < (costsOf c 1).length → fok (limV 1 q) (gAt (costsOf c 1) i)) : Calls Tryz.prog 72 #[.pointer (some ⟨sb, 0, none⟩), .int .i64 1, .slice a q.length cap] w fun e w' => e = .returned (.int .i64 (costV c 1 q)) ∧ Below w.heap.size w w' := by
  have HS := Lib.hid hS
  have HK := Lib.hid hk
  have HI := Lib.hid hI
  clear hS hk hI
  go_enter Tryz.func72, Tryz.ntmps72
  go_wp2_with fail
  refine (limited_any 1 q a cap w (fun h => absurd h (by decide)) hq HI.out).mono ?_
  rintro e w1 ⟨a1, cap1, rfl, hI1, hb1⟩
  have HI1 := Lib.hid hI1
  have HS1 := Lib.hid (HS.out.below hb1)
  have HB1 := Lib.hid hb1
  have hql : (limV 1 q).length ≤ 140737488355328 := by rw [limV_len]; omega
  have dk : w1.cell? ⟨sb, 23, none⟩ = some (.slice (P.ka 1) (costsOf c 1).length (P.kc 1)) := cellW (j := 23) HS1.out.box rfl
  have hs1 := HS1.out.lt
  clear hI1 hb1 HS HI
  have HV := Lib.hid (show costV c 1 q = sumF (limV 1 q) (costsOf c 1) (costsOf c 1).length from rfl)
  obtain ⟨p, hp⟩ : ∃ p, p = limV 1 q := ⟨_, rfl⟩
  obtain ⟨l, hl⟩ : ∃ l, l = costsOf c 1 := ⟨_, rfl⟩
  have HC1 := Lib.hid (HS1.out.costs 1 (by decide))
  rw [← hp] at HI1 HK HV hql
  rw [← hl] at HK HV hn HC1 dk
  rw [← hp]
  clear hp hl HS1
  go_wp2_with fail
  go_loopw [7, 19] (fun s i wr => ∃ (k : Nat), k ≤ l.length ∧ i = .int .i64 k ∧ s = .int .i64 (sumF p l k) ∧ Hid (Below w1.heap.size w1 wr)) (fun _ i _ => l.length - (intOf i).toNat)
  case atStart => exact ⟨0, Nat.zero_le _, rfl, rfl, Lib.hid (Below.refl _ _)⟩
  case round =>
    obtain ⟨k, hkl, rfl, rfl, hbel⟩ := hrel
    by_cases hlt : k < l.length
    · obtain ⟨fb, foff, hfa, hfb, hfc⟩ := HC1.out.cells (by omega)
      have F0 := Lib.hid ((hfc.kept hbel.out).at k hlt)
      have dr := below_cell dk hs1 hbel.out
      have hsr := Nat.lt_of_lt_of_le hs1 hbel.out.size
      have hbr := Nat.lt_of_lt_of_le hfb hbel.out.size
      rw [hfa] at dr
      obtain ⟨sl1, sl2⟩ := sumF_bd (fun i hi => fval_in _ (HK.out i hi)) k hkl
      obtain ⟨vl1, vl2⟩ := fval_in _ (HK.out k hlt)
      have hst := Lib.hid (show sumF p l (k + 1) = sumF p l k + fval p (gAt l k) from rfl)
      clear hfc hfa
      go_wp2_with fail
      refine (value_any p _ _ noX hql (gAt l k) fb (foff + k * 3) wr F0.out (HK.out k hlt) (HI1.out.below hbel.out)).mono ?_
      rintro e w2 ⟨rfl, hb2⟩
      have HB2 := Lib.hid (Below.then hbel.out hb2)
      clear hb2
      go_wp2_with fail
      go_roundw
      case rel => exact ⟨k + 1, by omega, by go_num, by rw [hst.out], HB2⟩
      case measure => simp [intOf]; omega
    · obtain rfl : k = l.length := by omega
      go_wp2_with fail
      go_ret
      exact ⟨ret_int HV.out.symm, Below.then HB1.out hbel.out⟩
set_option maxHeartbeats 1600000 in
theorem costOf_2 (w : World) (sb : Nat) (t : TTM) (c : ConM) (P : SetP) (hS : SetAt w sb t c P) (q : List Int) (a : Option Addr) (cap : Nat) (hq : q.length * 8 ≤ 140737488355328) (hI : IntsAt w a q) (hn : (costsOf c 2).length ≤ 1000) (hk : ∀ i, i < (costsOf c 2).length → fok (limV 2 q) (gAt (costsOf c 2) i)) : Calls Tryz.prog 72 #[.pointer (some ⟨sb, 0, none⟩), .int .i64 2, .slice a q.length cap] w fun e w' => e = .returned (.int .i64 (costV c 2 q)) ∧ Below w.heap.size w w' := by
  have HS := Lib.hid hS
  have HK := Lib.hid hk
  have HI := Lib.hid hI
  clear hS hk hI
  go_enter Tryz.func72, Tryz.ntmps72
  go_wp2_with fail
  refine (limited_any 2 q a cap w (fun h => absurd h (by decide)) hq HI.out).mono ?_
  rintro e w1 ⟨a1, cap1, rfl, hI1, hb1⟩
  have HI1 := Lib.hid hI1
  have HS1 := Lib.hid (HS.out.below hb1)
  have HB1 := Lib.hid hb1
  have hql : (limV 2 q).length ≤ 140737488355328 := by rw [limV_len]; omega
  have dk : w1.cell? ⟨sb, 24, none⟩ = some (.slice (P.ka 2) (costsOf c 2).length (P.kc 2)) := cellW (j := 24) HS1.out.box rfl
  have hs1 := HS1.out.lt
  clear hI1 hb1 HS HI
  have HV := Lib.hid (show costV c 2 q = sumF (limV 2 q) (costsOf c 2) (costsOf c 2).length from rfl)
  obtain ⟨p, hp⟩ : ∃ p, p = limV 2 q := ⟨_, rfl⟩
  obtain ⟨l, hl⟩ : ∃ l, l = costsOf c 2 := ⟨_, rfl⟩
  have HC1 := Lib.hid (HS1.out.costs 2 (by decide))
  rw [← hp] at HI1 HK HV hql
  rw [← hl] at HK HV hn HC1 dk
  rw [← hp]
  clear hp hl HS1
  go_wp2_with fail
  go_loopw [7, 19] (fun s i wr => ∃ (k : Nat), k ≤ l.length ∧ i = .int .i64 k ∧ s = .int .i64 (sumF p l k) ∧ Hid (Below w1.heap.size w1 wr)) (fun _ i _ => l.length - (intOf i).toNat)
  case atStart => exact ⟨0, Nat.zero_le _, rfl, rfl, Lib.hid (Below.refl _ _)⟩
  case round =>
    obtain ⟨k, hkl, rfl, rfl, hbel⟩ := hrel
    by_cases hlt : k < l.length
    · obtain ⟨fb, foff, hfa, hfb, hfc⟩ := HC1.out.cells (by omega)
      have F0 := Lib.hid ((hfc.kept hbel.out).at k hlt)
      have dr := below_cell dk hs1 hbel.out
      have hsr := Nat.lt_of_lt_of_le hs1 hbel.out.size
      have hbr := Nat.lt_of_lt_of_le hfb hbel.out.size
      rw [hfa] at dr
      obtain ⟨sl1, sl2⟩ := sumF_bd (fun i hi => fval_in _ (HK.out i hi)) k hkl
      obtain ⟨vl1, vl2⟩ := fval_in _ (HK.out k hlt)
      have hst := Lib.hid (show sumF p l (k + 1) = sumF p l k + fval p (gAt l k) from rfl)
      clear hfc hfa
      go_wp2_with fail
      refine (value_any p _ _ noX hql (gAt l k) fb (foff + k * 3) wr F0.out (HK.out k hlt) (HI1.out.below hbel.out)).mono ?_
      rintro e w2 ⟨rfl, hb2⟩
      have HB2 := Lib.hid (Below.then hbel.out hb2)
      clear hb2
      go_wp2_with fail
      go_roundw
      case rel => exact ⟨k + 1, by omega, by go_num, by rw [hst.out], HB2⟩
      case measure => simp [intOf]; omega
    · obtain rfl : k = l.length := by omega
      go_wp2_with fail
      go_ret
      exact ⟨ret_int HV.out.symm, Below.then HB1.out hbel.out⟩
set_option maxHeartbeats 1600000 in
theorem costOf_3 (w : World) (sb : Nat) (t : TTM) (c : ConM) (P : SetP) (hS : SetAt w sb t c P) (q : List Int) (a : Option Addr) (cap : Nat) (h6 : 6 < q.length) (hq : q.length * 8 ≤ 140737488355328) (hI : IntsAt w a q) (hn : (costsOf c 3).length ≤ 1000) (hk : ∀ i, i < (costsOf c 3).length → fok (limV 3 q) (gAt (costsOf c 3) i)) : Calls Tryz.prog 72 #[.pointer (some ⟨sb, 0, none⟩), .int .i64 3, .slice a q.length cap] w fun e w' => e = .returned (.int .i64 (costV c 3 q)) ∧ Below w.heap.size w w' := by
  have HS := Lib.hid hS
  have HK := Lib.hid hk
  have HI := Lib.hid hI
  clear hS hk hI
  go_enter Tryz.func72, Tryz.ntmps72
  go_wp2_with fail
  refine (limited_any 3 q a cap w (fun h => h6) hq HI.out).mono ?_
  rintro e w1 ⟨a1, cap1, rfl, hI1, hb1⟩
  have HI1 := Lib.hid hI1
  have HS1 := Lib.hid (HS.out.below hb1)
  have HB1 := Lib.hid hb1
  have hql : (limV 3 q).length ≤ 140737488355328 := by rw [limV_len]; omega
  have dk : w1.cell? ⟨sb, 25, none⟩ = some (.slice (P.ka 3) (costsOf c 3).length (P.kc 3)) := cellW (j := 25) HS1.out.box rfl
  have hs1 := HS1.out.lt
  clear hI1 hb1 HS HI
  have HV := Lib.hid (show costV c 3 q = sumF (limV 3 q) (costsOf c 3) (costsOf c 3).length from rfl)
  obtain ⟨p, hp⟩ : ∃ p, p = limV 3 q := ⟨_, rfl⟩
  obtain ⟨l, hl⟩ : ∃ l, l = costsOf c 3 := ⟨_, rfl⟩
  have HC1 := Lib.hid (HS1.out.costs 3 (by decide))
  rw [← hp] at HI1 HK HV hql
  rw [← hl] at HK HV hn HC1 dk
  rw [← hp]
  clear hp hl HS1
  go_wp2_with fail
  go_loopw [7, 19] (fun s i wr => ∃ (k : Nat), k ≤ l.length ∧ i = .int .i64 k ∧ s = .int .i64 (sumF p l k) ∧ Hid (Below w1.heap.size w1 wr)) (fun _ i _ => l.length - (intOf i).toNat)
  case atStart => exact ⟨0, Nat.zero_le _, rfl, rfl, Lib.hid (Below.refl _ _)⟩
  case round =>
    obtain ⟨k, hkl, rfl, rfl, hbel⟩ := hrel
    by_cases hlt : k < l.length
    · obtain ⟨fb, foff, hfa, hfb, hfc⟩ := HC1.out.cells (by omega)
      have F0 := Lib.hid ((hfc.kept hbel.out).at k hlt)
      have dr := below_cell dk hs1 hbel.out
      have hsr := Nat.lt_of_lt_of_le hs1 hbel.out.size
      have hbr := Nat.lt_of_lt_of_le hfb hbel.out.size
      rw [hfa] at dr
      obtain ⟨sl1, sl2⟩ := sumF_bd (fun i hi => fval_in _ (HK.out i hi)) k hkl
      obtain ⟨vl1, vl2⟩ := fval_in _ (HK.out k hlt)
      have hst := Lib.hid (show sumF p l (k + 1) = sumF p l k + fval p (gAt l k) from rfl)
      clear hfc hfa
      go_wp2_with fail
      refine (value_any p _ _ noX hql (gAt l k) fb (foff + k * 3) wr F0.out (HK.out k hlt) (HI1.out.below hbel.out)).mono ?_
      rintro e w2 ⟨rfl, hb2⟩
      have HB2 := Lib.hid (Below.then hbel.out hb2)
      clear hb2
      go_wp2_with fail
      go_roundw
      case rel => exact ⟨k + 1, by omega, by go_num, by rw [hst.out], HB2⟩
      case measure => simp [intOf]; omega
    · obtain rfl : k = l.length := by omega
      go_wp2_with fail
      go_ret
      exact ⟨ret_int HV.out.symm, Below.then HB1.out hbel.out⟩
end Go.Proofs.YtpgbckgjlgecpaaGreat
/- contract of the setting: Broken -/
namespace Go.Proofs.YtpgbckgjlgecpaaGreat
open Go.RowKit Go.Sort
set_option linter.unusedVariables false
set_option linter.unusedSimpArgs false
set_option maxRecDepth 100000
def brkF (q : List Int) (l : List (ByteArray × FormM)) : Nat → List ByteArray
  | 0 => []
  | j + 1 => if fval q (ruAt l j).2 = 0 then brkF q l j ++ [(ruAt l j).1] else brkF q l j
theorem brkF_hit {p : List Int} {l : List (ByteArray × FormM)} {k : Nat} (h : fval p (ruAt l k).2 = 0) : brkF p l (k + 1) = brkF p l k ++ [(ruAt l k).1] := if_pos h
theorem brkF_go {p : List Int} {l : List (ByteArray × FormM)} {k : Nat} (h : ¬ fval p (ruAt l k).2 = 0) : brkF p l (k + 1) = brkF p l k := if_neg h
theorem brkF_len (p : List Int) (l : List (ByteArray × FormM)) : ∀ k, (brkF p l k).length ≤ k
  | 0 => Nat.le_refl _
  | k + 1 => by
    have := brkF_len p l k
    rw [brkF]; split
    · rw [List.length_append]; simp; omega
    · omega
/-- the names of the broken rules of a scope -/
def brkV (c : ConM) (k : Nat) (q : List Int) : List ByteArray := brkF (limV k q) (rulesOf c k) (rulesOf c k).length
theorem rules_cells {w : World} {a : Option Addr} {l : List (ByteArray × FormM)} (h : RulesRow w a l) (hl : 0 < l.length) : ∃ b off, a = some ⟨b, off, none⟩ ∧ b < w.heap.size ∧ ∀ i, i < l.length → w.cell? ⟨b, off + i * 4, none⟩ = some (.string (ruAt l i).1) ∧ (ruAt l i).1.size ≤ 140737488355328 ∧ FormsAt noX w b (off + i * 4 + 1) [(ruAt l i).2] := by
  rcases h with rfl | h
  · simp at hl
  · exact h
theorem own_monoB {w : World} {B B' : Nat} {e : TypeId} {s : Nat} {v : Value} {n : Nat} {xs : List Value} (h : w.ownsRow B e s v n xs) (hb : B' ≤ B) : w.ownsRow B' e s v n xs := by
  refine ⟨h.1, ?_⟩
  rcases h.2 with h | ⟨g, cap, cur, h1, h2, h3⟩
  · exact .inl h
  · exact .inr ⟨g, cap, cur, h1, Nat.le_trans hb h2, h3⟩
set_option maxHeartbeats 1600000 in
theorem broken_1 (w : World) (sb : Nat) (t : TTM) (c : ConM) (P : SetP) (hS : SetAt w sb t c P) (q : List Int) (a : Option Addr) (cap : Nat) (hq : q.length * 8 ≤ 140737488355328) (hI : IntsAt w a q) (hn : (rulesOf c 1).length ≤ 1000) (hk : ∀ i, i < (rulesOf c 1).length → fok (limV 1 q) (ruAt (rulesOf c 1) i).2) : Calls Tryz.prog 123 #[.pointer (some ⟨sb, 0, none⟩), .int .i64 1, .slice a q.length cap] w fun e w' => ∃ v', e = .returned v' ∧ w'.ownsRow w.heap.size 9 1 v' (brkV c 1 q).length ((brkV c 1 q).map Value.string) ∧ Below w.heap.size w w' := by
  obtain ⟨i0, hi, hz0, hz1, hz2⟩ := info_parts infoStr
  have HS := Lib.hid hS
  have HK := Lib.hid hk
  have HI := Lib.hid hI
  clear hS hk hI
  go_enter Tryz.func123, Tryz.ntmps123
  go_wp2_with fail
  refine (limited_any 1 q a cap w (fun h => absurd h (by decide)) hq HI.out).mono ?_
  rintro e w1 ⟨a1, cap1, rfl, hI1, hb1⟩
  have HI1 := Lib.hid hI1
  have HS1 := Lib.hid (HS.out.below hb1)
  have HB1 := Lib.hid hb1
  have hql : (limV 1 q).length ≤ 140737488355328 := by rw [limV_len]; omega
  have dk : w1.cell? ⟨sb, 19, none⟩ = some (.slice (P.ra 1) (rulesOf c 1).length (P.rc 1)) := cellW (j := 19) HS1.out.box rfl
  have hs1 := HS1.out.lt
  clear hI1 hb1 HS HI
  have HV := Lib.hid (show brkV c 1 q = brkF (limV 1 q) (rulesOf c 1) (rulesOf c 1).length from rfl)
  obtain ⟨p, hp⟩ : ∃ p, p = limV 1 q := ⟨_, rfl⟩
  obtain ⟨l, hl⟩ : ∃ l, l = rulesOf c 1 := ⟨_, rfl⟩
  have HC1 := Lib.hid (HS1.out.rules 1 (by decide))
  rw [← hp] at HI1 HK HV hql
  rw [← hl] at HK HV hn HC1 dk
  rw [← hp]
  clear hp hl HS1
  go_wp2_with fail
  go_loopw [7, 20] (fun s i wr => ∃ (k : Nat) (v : Value), k ≤ l.length ∧ i = .int .i64 k ∧ s = v ∧ Hid (wr.ownsRow w1.heap.size 9 1 v (brkF p l k).length ((brkF p l k).map Value.string)) ∧ Hid (Below w1.heap.size w1 wr)) (fun _ i _ => l.length - (intOf i).toNat)
  case atStart => exact ⟨0, _, Nat.zero_le _, rfl, rfl, Lib.hid (World.ownsRow_nil _ _ _ _), Lib.hid (Below.refl _ _)⟩
  case round =>
    obtain ⟨k, v, hkl, rfl, rfl, hO, hbel⟩ := hrel
    by_cases hlt : k < l.length
    · obtain ⟨fb, foff, hfa, hfb, hfc⟩ := rules_cells HC1.out (by omega)
      obtain ⟨n0, n1, n2⟩ := hfc k hlt
      have F0 := Lib.hid (n2.kept hbel.out)
      have N0 := Lib.hid n0
      have dr := below_cell dk hs1 hbel.out
      have hsr := Nat.lt_of_lt_of_le hs1 hbel.out.size
      have hbr := Nat.lt_of_lt_of_le hfb hbel.out.size
      rw [hfa] at dr
      clear hfc hfa n0 n2
      go_wp2_with fail
      refine (value_any p _ _ noX hql (ruAt l k).2 fb (foff + k * 4 + 1) wr F0.out (HK.out k hlt) (HI1.out.below hbel.out)).mono ?_
      rintro e w2 ⟨rfl, hb2⟩
      have HB2 := Lib.hid (Below.then hbel.out hb2)
      have HO2 := Lib.hid (own_below hO.out hbel.out hb2)
      have nm := below_cell N0.out hfb HB2.out
      have hb22 := Nat.lt_of_lt_of_le hfb HB2.out.size
      clear hb2 dr hsr hbr hO
      by_cases e0 : fval p (ruAt l k).2 = 0
      · have hst := Lib.hid (brkF_hit (p := p) (l := l) (k := k) e0)
        have hln := Lib.hid (brkF_len p l k)
        rw [e0]
        clear e0
        go_wp2_with (at_builtin; refine wpList_append_own _ rfl _ _ 165 rfl w1.heap.size 9 i0 (.string ByteArray.empty) 1 16 Tryz.underlying165 hi hz0 hz1 hz2 rfl (by decide) _ _ _ rfl (HO2.out.alloc _) ⟨w2.heap.size, 0, none⟩ 1 1 [.string (ruAt l k).1] rfl rfl ?c1 ?c2 ?c3 ?c4 ?c5 ?_)
        case c1 => exact fresh_cells w2 [.string (ruAt l k).1] 9
        case c2 => intro u hu; simp at hu; subst hu; rfl
        case c3 => have := hln.out; unfold maxLen; omega
        case c4 => have := hln.out; omega
        case c5 => have := HB2.out.size; simp; omega
        intro v' w3 hown' hgrow _
        have HB3 := Lib.hid (below_append (e' := 9) HB2.out rfl HO2.out hgrow)
        have HO3 := Lib.hid (show w3.ownsRow w1.heap.size 9 1 v' (brkF p l (k + 1)).length ((brkF p l (k + 1)).map Value.string) by
          rw [hst.out, List.length_append, List.map_append]; exact hown')
        clear hown' hgrow hln hst HO2 nm
        go_wp2_with fail
        go_roundw
        case rel => first | exact ⟨k + 1, _, by omega, by go_num, rfl, HO3, HB3⟩ | ((repeat apply Exists.intro); exact ⟨⟨k + 1, _, by omega, by go_num, rfl, HO3, HB3⟩, rfl⟩)
        case measure => simp [intOf]; omega
      · have hst := Lib.hid (brkF_go (p := p) (l := l) (k := k) e0)
        have e0b : (fval p (ruAt l k).2 == 0) = false := by simpa using e0
        clear e0
        go_wp2_with fail
        go_roundw
        case rel => exact ⟨k + 1, _, by omega, by go_num, rfl, by rw [hst.out]; exact HO2, HB2⟩
        case measure => simp [intOf]; omega
    · obtain rfl : k = l.length := by omega
      go_wp2_with fail
      go_ret
      exact ⟨_, rfl, by rw [HV.out]; exact own_monoB hO.out HB1.out.size, Below.then HB1.out hbel.out⟩
set_option maxHeartbeats 1600000 in
theorem broken_2 (w : World) (sb : Nat) (t : TTM) (c : ConM) (P : SetP) (hS : SetAt w sb t c P) (q : List Int) (a : Option Addr) (cap : Nat) (hq : q.length * 8 ≤ 140737488355328) (hI : IntsAt w a q) (hn : (rulesOf c 2).length ≤ 1000) (hk : ∀ i, i < (rulesOf c 2).length → fok (limV 2 q) (ruAt (rulesOf c 2) i).2) : Calls Tryz.prog 123 #[.pointer (some ⟨sb, 0, none⟩), .int .i64 2, .slice a q.length cap] w fun e w' => ∃ v', e = .returned v' ∧ w'.ownsRow w.heap.size 9 1 v' (brkV c 2 q).length ((brkV c 2 q).map Value.string) ∧ Below w.heap.size w w' := by
  obtain ⟨i0, hi, hz0, hz1, hz2⟩ := info_parts infoStr
  have HS := Lib.hid hS
  have HK := Lib.hid hk
  have HI := Lib.hid hI
  clear hS hk hI
  go_enter Tryz.func123, Tryz.ntmps123
  go_wp2_with fail
  refine (limited_any 2 q a cap w (fun h => absurd h (by decide)) hq HI.out).mono ?_
  rintro e w1 ⟨a1, cap1, rfl, hI1, hb1⟩
  have HI1 := Lib.hid hI1
  have HS1 := Lib.hid (HS.out.below hb1)
  have HB1 := Lib.hid hb1
  have hql : (limV 2 q).length ≤ 140737488355328 := by rw [limV_len]; omega
  have dk : w1.cell? ⟨sb, 20, none⟩ = some (.slice (P.ra 2) (rulesOf c 2).length (P.rc 2)) := cellW (j := 20) HS1.out.box rfl
  have hs1 := HS1.out.lt
  clear hI1 hb1 HS HI
  have HV := Lib.hid (show brkV c 2 q = brkF (limV 2 q) (rulesOf c 2) (rulesOf c 2).length from rfl)
  obtain ⟨p, hp⟩ : ∃ p, p = limV 2 q := ⟨_, rfl⟩
  obtain ⟨l, hl⟩ : ∃ l, l = rulesOf c 2 := ⟨_, rfl⟩
  have HC1 := Lib.hid (HS1.out.rules 2 (by decide))
  rw [← hp] at HI1 HK HV hql
  rw [← hl] at HK HV hn HC1 dk
  rw [← hp]
  clear hp hl HS1
  go_wp2_with fail
  go_loopw [7, 20] (fun s i wr => ∃ (k : Nat) (v : Value), k ≤ l.length ∧ i = .int .i64 k ∧ s = v ∧ Hid (wr.ownsRow w1.heap.size 9 1 v (brkF p l k).length ((brkF p l k).map Value.string)) ∧ Hid (Below w1.heap.size w1 wr)) (fun _ i _ => l.length - (intOf i).toNat)
  case atStart => exact ⟨0, _, Nat.zero_le _, rfl, rfl, Lib.hid (World.ownsRow_nil _ _ _ _), Lib.hid (Below.refl _ _)⟩
  case round =>
    obtain ⟨k, v, hkl, rfl, rfl, hO, hbel⟩ := hrel
    by_cases hlt : k < l.length
    · obtain ⟨fb, foff, hfa, hfb, hfc⟩ := rules_cells HC1.out (by omega)
      obtain ⟨n0, n1, n2⟩ := hfc k hlt
      have F0 := Lib.hid (n2.kept hbel.out)
      have N0 := Lib.hid n0
      have dr := below_cell dk hs1 hbel.out
      have hsr := Nat.lt_of_lt_of_le hs1 hbel.out.size
      have hbr := Nat.lt_of_lt_of_le hfb hbel.out.size
      rw [hfa] at dr
      clear hfc hfa n0 n2
      go_wp2_with fail
      refine (value_any p _ _ noX hql (ruAt l k).2 fb (foff + k * 4 + 1) wr F0.out (HK.out k hlt) (HI1.out.below hbel.out)).mono ?_
      rintro e w2 ⟨rfl, hb2⟩
      have HB2 := Lib.hid (Below.then hbel.out hb2)
      have HO2 := Lib.hid (own_below hO.out hbel.out hb2)
      have nm := below_cell N0.out hfb HB2.out
      have hb22 := Nat.lt_of_lt_of_le hfb HB2.out.size
      clear hb2 dr hsr hbr hO
      by_cases e0 : fval p (ruAt l k).2 = 0
      · have hst := Lib.hid (brkF_hit (p := p) (l := l) (k := k) e0)
        have hln := Lib.hid (brkF_len p l k)
        rw [e0]
        clear e0
        go_wp2_with (at_builtin; refine wpList_append_own _ rfl _ _ 165 rfl w1.heap.size 9 i0 (.string ByteArray.empty) 1 16 Tryz.underlying165 hi hz0 hz1 hz2 rfl (by decide) _ _ _ rfl (HO2.out.alloc _) ⟨w2.heap.size, 0, none⟩ 1 1 [.string (ruAt l k).1] rfl rfl ?c1 ?c2 ?c3 ?c4 ?c5 ?_)
        case c1 => exact fresh_cells w2 [.string (ruAt l k).1] 9
        case c2 => intro u hu; simp at hu; subst hu; rfl
        case c3 => have := hln.out; unfold maxLen; omega
        case c4 => have := hln.out; omega
        case c5 => have := HB2.out.size; simp; omega
        intro v' w3 hown' hgrow _
        have HB3 := Lib.hid (below_append (e' := 9) HB2.out rfl HO2.out hgrow)
        have HO3 := Lib.hid (show w3.ownsRow w1.heap.size 9 1 v' (brkF p l (k + 1)).length ((brkF p l (k + 1)).map Value.string) by
          rw [hst.out, List.length_append, List.map_append]; exact hown')
        clear hown' hgrow hln hst HO2 nm
        go_wp2_with fail
        go_roundw
        case rel => first | exact ⟨k + 1, _, by omega, by go_num, rfl, HO3, HB3⟩ | ((repeat apply Exists.intro); exact ⟨⟨k + 1, _, by omega, by go_num, rfl, HO3, HB3⟩, rfl⟩)
        case measure => simp [intOf]; omega
      · have hst := Lib.hid (brkF_go (p := p) (l := l) (k := k) e0)
        have e0b : (fval p (ruAt l k).2 == 0) = false := by simpa using e0
        clear e0
        go_wp2_with fail
        go_roundw
        case rel => exact ⟨k + 1, _, by omega, by go_num, rfl, by rw [hst.out]; exact HO2, HB2⟩
        case measure => simp [intOf]; omega
    · obtain rfl : k = l.length := by omega
      go_wp2_with fail
      go_ret
      exact ⟨_, rfl, by rw [HV.out]; exact own_monoB hO.out HB1.out.size, Below.then HB1.out hbel.out⟩
set_option maxHeartbeats 1600000 in
theorem broken_3 (w : World) (sb : Nat) (t : TTM) (c : ConM) (P : SetP) (hS : SetAt w sb t c P) (q : List Int) (a : Option Addr) (cap : Nat) (h6 : 6 < q.length) (hq : q.length * 8 ≤ 140737488355328) (hI : IntsAt w a q) (hn : (rulesOf c 3).length ≤ 1000) (hk : ∀ i, i < (rulesOf c 3).length → fok (limV 3 q) (ruAt (rulesOf c 3) i).2) : Calls Tryz.prog 123 #[.pointer (some ⟨sb, 0, none⟩), .int .i64 3, .slice a q.length cap] w fun e w' => ∃ v', e = .returned v' ∧ w'.ownsRow w.heap.size 9 1 v' (brkV c 3 q).length ((brkV c 3 q).map Value.string) ∧ Below w.heap.size w w' := by
  obtain ⟨i0, hi, hz0, hz1, hz2⟩ := info_parts infoStr
  have HS := Lib.hid hS
  have HK := Lib.hid hk
  have HI := Lib.hid hI
  clear hS hk hI
  go_enter Tryz.func123, Tryz.ntmps123
  go_wp2_with fail
  refine (limited_any 3 q a cap w (fun h => h6) hq HI.out).mono ?_
  rintro e w1 ⟨a1, cap1, rfl, hI1, hb1⟩
  have HI1 := Lib.hid hI1
  have HS1 := Lib.hid (HS.out.below hb1)
  have HB1 := Lib.hid hb1
  have hql : (limV 3 q).length ≤ 140737488355328 := by rw [limV_len]; omega
  have dk : w1.cell? ⟨sb, 21, none⟩ = some (.slice (P.ra 3) (rulesOf c 3).length (P.rc 3)) := cellW (j := 21) HS1.out.box rfl
  have hs1 := HS1.out.lt
  clear hI1 hb1 HS HI
  have HV := Lib.hid (show brkV c 3 q = brkF (limV 3 q) (rulesOf c 3) (rulesOf c 3).length from rfl)
  obtain ⟨p, hp⟩ : ∃ p, p = limV 3 q := ⟨_, rfl⟩
  obtain ⟨l, hl⟩ : ∃ l, l = rulesOf c 3 := ⟨_, rfl⟩
  have HC1 := Lib.hid (HS1.out.rules 3 (by decide))
  rw [← hp] at HI1 HK HV hql
  rw [← hl] at HK HV hn HC1 dk
  rw [← hp]
  clear hp hl HS1
  go_wp2_with fail
  go_loopw [7, 20] (fun s i wr => ∃ (k : Nat) (v : Value), k ≤ l.length ∧ i = .int .i64 k ∧ s = v ∧ Hid (wr.ownsRow w1.heap.size 9 1 v (brkF p l k).length ((brkF p l k).map Value.string)) ∧ Hid (Below w1.heap.size w1 wr)) (fun _ i _ => l.length - (intOf i).toNat)
  case atStart => exact ⟨0, _, Nat.zero_le _, rfl, rfl, Lib.hid (World.ownsRow_nil _ _ _ _), Lib.hid (Below.refl _ _)⟩
  case round =>
    obtain ⟨k, v, hkl, rfl, rfl, hO, hbel⟩ := hrel
    by_cases hlt : k < l.length
    · obtain ⟨fb, foff, hfa, hfb, hfc⟩ := rules_cells HC1.out (by omega)
      obtain ⟨n0, n1, n2⟩ := hfc k hlt
      have F0 := Lib.hid (n2.kept hbel.out)
      have N0 := Lib.hid n0
      have dr := below_cell dk hs1 hbel.out
      have hsr := Nat.lt_of_lt_of_le hs1 hbel.out.size
      have hbr := Nat.lt_of_lt_of_le hfb hbel.out.size
      rw [hfa] at dr
      clear hfc hfa n0 n2
      go_wp2_with fail
      refine (value_any p _ _ noX hql (ruAt l k).2 fb (foff + k * 4 + 1) wr F0.out (HK.out k hlt) (HI1.out.below hbel.out)).mono ?_
      rintro e w2 ⟨rfl, hb2⟩
      have HB2 := Lib.hid (Below.then hbel.out hb2)
      have HO2 := Lib.hid (own_below hO.out hbel.out hb2)
      have nm := below_cell N0.out hfb HB2.out
      have hb22 := Nat.lt_of_lt_of_le hfb HB2.out.size
      clear hb2 dr hsr hbr hO
      by_cases e0 : fval p (ruAt l k).2 = 0
      · have hst := Lib.hid (brkF_hit (p := p) (l := l) (k := k) e0)
        have hln := Lib.hid (brkF_len p l k)
        rw [e0]
        clear e0
        go_wp2_with (at_builtin; refine wpList_append_own _ rfl _ _ 165 rfl w1.heap.size 9 i0 (.string ByteArray.empty) 1 16 Tryz.underlying165 hi hz0 hz1 hz2 rfl (by decide) _ _ _ rfl (HO2.out.alloc _) ⟨w2.heap.size, 0, none⟩ 1 1 [.string (ruAt l k).1] rfl rfl ?c1 ?c2 ?c3 ?c4 ?c5 ?_)
        case c1 => exact fresh_cells w2 [.string (ruAt l k).1] 9
        case c2 => intro u hu; simp at hu; subst hu; rfl
        case c3 => have := hln.out; unfold maxLen; omega
        case c4 => have := hln.out; omega
        case c5 => have := HB2.out.size; simp; omega
        intro v' w3 hown' hgrow _
        have HB3 := Lib.hid (below_append (e' := 9) HB2.out rfl HO2.out hgrow)
        have HO3 := Lib.hid (show w3.ownsRow w1.heap.size 9 1 v' (brkF p l (k + 1)).length ((brkF p l (k + 1)).map Value.string) by
          rw [hst.out, List.length_append, List.map_append]; exact hown')
        clear hown' hgrow hln hst HO2 nm
        go_wp2_with fail
        go_roundw
        case rel => first | exact ⟨k + 1, _, by omega, by go_num, rfl, HO3, HB3⟩ | ((repeat apply Exists.intro); exact ⟨⟨k + 1, _, by omega, by go_num, rfl, HO3, HB3⟩, rfl⟩)
        case measure => simp [intOf]; omega
      · have hst := Lib.hid (brkF_go (p := p) (l := l) (k := k) e0)
        have e0b : (fval p (ruAt l k).2 == 0) = false := by simpa using e0
        clear e0
        go_wp2_with fail
        go_roundw
        case rel => exact ⟨k + 1, _, by omega, by go_num, rfl, by rw [hst.out]; exact HO2, HB2⟩
        case measure => simp [intOf]; omega
    · obtain rfl : k = l.length := by omega
      go_wp2_with fail
      go_ret
      exact ⟨_, rfl, by rw [HV.out]; exact own_monoB hO.out HB1.out.size, Below.then HB1.out hbel.out⟩
end Go.Proofs.YtpgbckgjlgecpaaGreat
/- contract: violations -/
namespace Go.Proofs.YtpgbckgjlgecpaaGreat
open Go.RowKit Go.Sort
set_option linter.unusedVariables false
set_option linter.unusedSimpArgs false
set_option maxRecDepth 100000
/-- blocks of other element types than e stay -/
def Keeps (e : TypeId) (w w' : World) : Prop := w.heap.size ≤ w'.heap.size ∧ ∀ (b : Nat) (o : Obj), (∀ cs f, o ≠ Obj.cells cs e f) → w.heap[b]? = some o → w'.heap[b]? = some o
theorem Keeps.refl (e : TypeId) (w : World) : Keeps e w w := ⟨Nat.le_refl _, fun _ _ _ h => h⟩
theorem Keeps.append {e : TypeId} {B size n : Nat} {w wr w' : World} {v : Value} {xs : List Value} {o : Obj} (h : Keeps e w wr) (hO : wr.ownsRow B e size v n xs) (hg : (wr.alloc o).grownBy w' v.ownBlock) : Keeps e w w' := by
  have hs : wr.heap.size ≤ w'.heap.size := Nat.le_trans (by simp) hg.size
  refine ⟨Nat.le_trans h.1 hs, fun b x hx hb => ?_⟩
  have h1 := h.2 b x hx hb
  have hlt := lt_of_block h1
  rw [hg.block b (by simp; omega) ?_]
  · exact ((World.grownBy_alloc wr o none).block b hlt (by simp)).trans h1
  · intro e1
    rcases hO.2 with ⟨rfl, _⟩ | ⟨g, cap, cur, rfl, _, hg2, _⟩
    · simp [Value.ownBlock] at e1
    · simp [Value.ownBlock] at e1
      subst e1
      rw [hg2] at h1
      exact hx cur (0, 0) (Option.some.inj h1).symm
def vCells (x : Int × Int × ByteArray) : List Value := [.int .i64 x.1, .int .i64 x.2.1, .string x.2.2]
def vRow (V : List (Int × Int × ByteArray)) : List Value := V.flatMap vCells
def vTake (sc ix : Int) (N : List ByteArray) (k : Nat) : List (Int × Int × ByteArray) := (N.take k).map fun s => (sc, ix, s)
theorem vTake_succ {sc ix : Int} {N : List ByteArray} {k : Nat} (h : k < N.length) : vTake sc ix N (k + 1) = vTake sc ix N k ++ [(sc, ix, sAt N k)] := by
  unfold vTake
  rw [List.take_succ_eq_append_getElem h, List.map_append, sAt, List.getD_eq_getElem?_getD, List.getElem?_eq_getElem h]; rfl
theorem vTake_all (sc ix : Int) (N : List ByteArray) : vTake sc ix N N.length = N.map fun s => (sc, ix, s) := by rw [vTake, List.take_length]
theorem vTake_len {sc ix : Int} {N : List ByteArray} {k : Nat} (h : k ≤ N.length) : (vTake sc ix N k).length = k := by simp [vTake]; omega
theorem infoVio : (Tryz.prog.info? 117).map (fun i => (i.zero, i.size, i.bytes)) = some (some (.agg #[.int .i64 0, .int .i64 0, .string ByteArray.empty]), 3, 32) := by kernel_rfl
/-- a row of strings at a block's head -/
def NamesAt (w : World) (a : Option Addr) (N : List ByteArray) : Prop := N = [] ∨ ∃ b cur f, a = some ⟨b, 0, none⟩ ∧ w.heap[b]? = some (.cells cur 9 f) ∧ ∀ i, i < N.length → cur[i]? = some (.string (sAt N i))
set_option maxHeartbeats 1600000 in
theorem violations_any (B : Nat) (V : List (Int × Int × ByteArray)) (v : Value) (w : World) (hBw : B ≤ w.heap.size) (hO : w.ownsRow B 117 3 v V.length (vRow V)) (sc ix : Int) (N : List ByteArray) (na : Option Addr) (nc : Nat) (hN : NamesAt w na N) (hlen : V.length + N.length ≤ 100000) : Calls Tryz.prog 122 #[v, .int .i64 sc, .int .i64 ix, .slice na N.length nc] w fun e w' => ∃ v', e = .returned v' ∧ w'.ownsRow B 117 3 v' (V ++ N.map fun s => (sc, ix, s)).length (vRow (V ++ N.map fun s => (sc, ix, s))) ∧ Below B w w' ∧ Keeps 117 w w' := by
  obtain ⟨i0, hi, hz0, hz1, hz2⟩ := info_parts infoVio
  have HO0 := Lib.hid hO
  have HN := Lib.hid hN
  clear hO hN
  go_enter Tryz.func122, Tryz.ntmps122
  go_wp2_with fail
  go_loopw [0, 13] (fun s i wr => ∃ (k : Nat) (u : Value), k ≤ N.length ∧ i = .int .i64 k ∧ s = u ∧ Hid (wr.ownsRow B 117 3 u (V ++ vTake sc ix N k).length (vRow (V ++ vTake sc ix N k))) ∧ Hid (Below B w wr) ∧ Hid (Keeps 117 w wr)) (fun _ i _ => N.length - (intOf i).toNat)
  case atStart => exact ⟨0, v, Nat.zero_le _, rfl, rfl, Lib.hid (by simpa [vTake] using HO0.out), Lib.hid (Below.refl _ _), Lib.hid (Keeps.refl _ _)⟩
  clear HO0
  case round =>
    obtain ⟨k, u, hkl, rfl, rfl, hO, hB, hK⟩ := hrel
    by_cases hlt : k < N.length
    · obtain ⟨nb, cur, nf, rfl, hblk, hcur⟩ : ∃ b cur f, na = some ⟨b, 0, none⟩ ∧ w.heap[b]? = some (.cells cur 9 f) ∧ ∀ i, i < N.length → cur[i]? = some (.string (sAt N i)) := by
        rcases HN.out with rfl | h
        · simp at hlt
        · exact h
      have hblr := hK.out.2 nb _ (fun cs f h => by cases h) hblk
      have c0 : wr.cell? ⟨nb, k, none⟩ = some (.string (sAt N k)) := cellW (j := k) hblr (hcur k hlt)
      have hnr := lt_of_block hblr
      have hBr : B ≤ wr.heap.size := Nat.le_trans hBw hK.out.1
      have hvl := Lib.hid (show (V ++ vTake sc ix N k).length = V.length + k by rw [List.length_append, vTake_len hkl])
      clear hblk hblr hcur
      go_wp2_with (at_builtin; refine wpList_append_own _ rfl _ _ 61 rfl B 117 i0 (.agg #[.int .i64 0, .int .i64 0, .string ByteArray.empty]) 3 32 Tryz.underlying61 hi hz0 hz1 hz2 rfl (by decide) _ _ _ rfl (hO.out.alloc _) ⟨wr.heap.size, 0, none⟩ 1 1 [.int .i64 sc, .int .i64 ix, .string (sAt N k)] rfl rfl ?c1 ?c2 ?c3 ?c4 ?c5 ?_)
      case c1 => exact fresh_cells wr [.int .i64 sc, .int .i64 ix, .string (sAt N k)] 117
      case c2 => intro x hx; simp at hx; rcases hx with rfl | rfl | rfl <;> rfl
      case c3 => have := hvl.out; unfold maxLen; omega
      case c4 => have := hvl.out; omega
      case c5 => simp; omega
      intro v' w3 hown' hgrow _
      have HB3 := Lib.hid ((hB.out.alloc hBr _).grown hgrow (by simp; omega) (fun j hj => own_base hO.out j hj))
      have HK3 := Lib.hid (Keeps.append hK.out hO.out hgrow)
      have HO3 := Lib.hid (show w3.ownsRow B 117 3 v' (V ++ vTake sc ix N (k + 1)).length (vRow (V ++ vTake sc ix N (k + 1))) by
        rw [vTake_succ hlt, ← List.append_assoc, List.length_append, List.length_append, vRow, List.flatMap_append]; exact hown')
      clear hown' hgrow hvl hO hB hK c0
      go_wp2_with fail
      go_roundw
      case rel => first | exact ⟨k + 1, _, by omega, by go_num, rfl, HO3, HB3, HK3⟩ | ((repeat apply Exists.intro); exact ⟨⟨k + 1, _, by omega, by go_num, rfl, HO3, HB3, HK3⟩, rfl⟩)
      case measure => simp [intOf]; omega
    · obtain rfl : k = N.length := by omega
      rw [vTake_all] at hO
      go_wp2_with fail
      go_ret
      exact ⟨_, rfl, hO.out, hB.out, hK.out⟩
end Go.Proofs.YtpgbckgjlgecpaaGreat
/- contract: Attrs -/
namespace Go.Proofs.YtpgbckgjlgecpaaGreat
open Go.RowKit Go.Sort
set_option linter.unusedVariables false
set_option linter.unusedSimpArgs false
set_option maxRecDepth 100000
theorem attributes_new (k : Nat) (h0 : 0 < k) (hk : k < 4) (w : World) : Calls Tryz.prog 108 #[.int .i64 k] w fun e w' => ∃ b off cap, e = .returned (.slice (some ⟨b, off, none⟩) (attrNames k).length cap) ∧ w.heap.size ≤ b ∧ b < w'.heap.size ∧ StrCells w' b off (attrNames k) ∧ Below w.heap.size w w' := by
  obtain rfl | rfl | rfl : k = 1 ∨ k = 2 ∨ k = 3 := by omega
  · refine (attributes_duty w).mono ?_
    rintro e w' ⟨⟨cap, rfl⟩, h1, h2, h3⟩
    exact ⟨_, 0, cap, rfl, Nat.le_refl _, h1, h2, h3⟩
  · refine (attributes_rest w).mono ?_
    rintro e w' ⟨v, rfl, h1, h2⟩
    have hb := fun j hj => own_base h1 j hj
    obtain ⟨a, cap, rfl, h3, _⟩ := StrAt.of_own (l := restNames) h1 (by decide)
    obtain ⟨b, off, rfl, h4, h5⟩ := h3.cells (by decide)
    exact ⟨b, off, cap, rfl, hb b rfl, h4, h5, h2⟩
  · refine (attributes_pair w).mono ?_
    rintro e w' ⟨⟨cap, rfl⟩, h1, h2, h3⟩
    exact ⟨_, 0, cap, rfl, Nat.le_refl _, h1, h2, h3⟩
theorem info_attr : (Tryz.prog.info? 104).map (fun i => (i.zero, i.size, i.bytes)) = some (some (.agg #[.string ByteArray.empty, .int .i64 0]), 2, 24) := by kernel_rfl
theorem make_attrs (n : Nat) (hn : n ≤ 200) (w : World) : (Instr.makeSlice 53 (.int .i64 (n : Int)) (.int .i64 (n : Int))).run Tryz.prog w = .ok (.slice (some ⟨w.heap.size, 0, none⟩) n n) (w.alloc (.cells (madeCells #[.string ByteArray.empty, .int .i64 0] (n * 2)) 104)) := by
  obtain ⟨i, hi, hz, hs, hb⟩ := info_parts info_attr
  have hr := run_make (P := Tryz.prog) w 53 104 i (.agg #[.string ByteArray.empty, .int .i64 0]) Tryz.underlying53 hi hz .i64 .i64 n n (by omega) (Int.le_refl _) (by rw [hb]; omega) (by omega)
  simp only [Int.toNat_natCast, hs] at hr
  exact hr
theorem take_set2 {C : Array Value} {cs : List Value} {m : Nat} (h : C.toList.take m = cs) (hm : m + 2 ≤ C.size) (v0 v1 : Value) : ((C.setIfInBounds m v0).setIfInBounds (m + 1) v1).toList.take (m + 2) = cs ++ [v0, v1] := by
  subst h
  obtain ⟨L⟩ := C
  simp only [List.setIfInBounds_toArray, List.size_toArray] at hm ⊢
  have hd : L = L.take m ++ L.drop m := (List.take_append_drop m L).symm
  obtain ⟨x, y, T, hT⟩ : ∃ x y T, L.drop m = x :: y :: T := by
    have hl : 2 ≤ (L.drop m).length := by simp; omega
    match hh : L.drop m, hl with
    | x :: y :: T, _ => exact ⟨x, y, T, rfl⟩
  have hlen : (L.take m).length = m := by simp; omega
  generalize L.take m = A at *
  rw [hd, hT]
  subst hlen
  simp [List.set_append, List.take_append]
  exact List.take_of_length_le (by omega)
/-- the cells of the first k attributes -/
def atCells (N : List ByteArray) (q : List Int) : Nat → List Value
  | 0 => []
  | k + 1 => atCells N q k ++ [.string (sAt N k), .int .i64 (iAt q k)]
set_option maxHeartbeats 1600000 in
theorem attrs_any (k : Nat) (h0 : 0 < k) (hk : k < 4) (q : List Int) (a : Option Addr) (cap : Nat) (w : World) (hq : q.length = (attrNames k).length) (hI : IntsAt w a q) : Calls Tryz.prog 59 #[.int .i64 k, .slice a q.length cap] w fun e w' => ∃ C, e = .returned (.slice (some ⟨w.heap.size, 0, none⟩) q.length q.length) ∧ w'.heap[w.heap.size]? = some (.cells C 104 (0, 0)) ∧ C.size = q.length * 2 ∧ C.toList.take (q.length * 2) = atCells (attrNames k) q q.length ∧ Below w.heap.size w w' := by
  have hn := attr_len k
  have HI := Lib.hid hI
  have mk := fun w => make_attrs q.length (by omega) w
  clear hI
  obtain ⟨N, hN⟩ : ∃ N, N = attrNames k := ⟨_, rfl⟩
  have HC := Lib.hid (fun w => attributes_new k h0 hk w)
  rw [← hN] at HC hn hq
  rw [← hN]
  clear hN
  have hqn : q.length ≤ 25 := by omega
  have HQ := Lib.hid hq
  clear hq
  have HBn := Lib.hid (below_new w (.cells (madeCells #[.string ByteArray.empty, .int .i64 0] (q.length * 2)) 104))
  go_enter Tryz.func59, Tryz.ntmps59
  go_wp2_with fail
  refine (HC.out _).mono ?_
  rintro e w1 ⟨nb, noff, ncap, rfl, hnb, hnb1, hnc, hb1⟩
  have HBl := Lib.hid hb1
  have hsz1 : (w.alloc (.cells (madeCells #[.string ByteArray.empty, .int .i64 0] (q.length * 2)) 104)).heap.size = w.heap.size + 1 := by simp
  have hblk0 : w1.heap[w.heap.size]? = some (.cells (madeCells #[.string ByteArray.empty, .int .i64 0] (q.length * 2)) 104 (0, 0)) := (hb1.block _ (by rw [hsz1]; omega)).trans (by show (w.heap.push _)[w.heap.size]? = _; simp)
  rw [hsz1] at hnb
  have HB1 := Lib.hid (Below.then HBn.out hb1)
  have HNC := Lib.hid hnc
  have hms : (madeCells #[.string ByteArray.empty, .int .i64 0] (q.length * 2)).size = q.length * 2 := by simp [madeCells]
  obtain ⟨C0, hC0⟩ : ∃ C0, C0 = madeCells #[.string ByteArray.empty, .int .i64 0] (q.length * 2) := ⟨_, rfl⟩
  rw [← hC0] at hblk0 hms
  have Hb0 := Lib.hid hblk0
  have Hms := Lib.hid hms
  clear hb1 hnc HBl hsz1 hblk0 hms hC0 HBn mk HC
  go_wp2_with fail
  go_loopw [14] (fun i wr => ∃ (j : Nat) (C : Array Value), j ≤ N.length ∧ i = .int .i64 j ∧ Hid (wr.heap[w.heap.size]? = some (.cells C 104 (0, 0))) ∧ Hid (C.size = q.length * 2 ∧ C.toList.take (j * 2) = atCells N q j) ∧ Hid (StrCells wr nb noff N) ∧ nb < wr.heap.size ∧ Hid (Below w.heap.size w wr)) (fun i _ => N.length - (intOf i).toNat)
  case atStart => exact ⟨0, C0, Nat.zero_le _, rfl, Hb0, Lib.hid ⟨Hms.out, by simp [atCells]⟩, HNC, hnb1, HB1⟩
  clear Hb0 Hms HNC hnb1 HB1
  case round =>
    obtain ⟨j, C, hj, rfl, hblk, hC, hNC, hnb1, hB⟩ := hrel
    by_cases hlt : j < N.length
    · have c0 := hNC.out j hlt
      have hjq : j < q.length := by have := HQ.out; omega
      obtain ⟨b, off, rfl, hb, hcs⟩ := (HI.out.below hB.out).cells (by omega)
      have c1 := hcs j hjq
      have hblk' := hblk.out
      have hg := lt_of_block hblk'
      have hCs : j * 2 + 2 ≤ C.size := by have := hC.out.1; omega
      have y0 := cellW (j := j * 2) hblk' (Array.getElem?_eq_getElem (by omega))
      have y1 := cellW (j := j * 2 + 1) hblk' (Array.getElem?_eq_getElem (by omega))
      have u0 := freeW (j := j * 2) hblk'
      have u1 := freeW (j := j * 2 + 1) hblk'
      clear hcs
      go_wp2_with fail
      have Q := Lib.hid (block_setCell (i := j * 2 + 1) (u := .int .i64 (iAt q j)) (block_setCell (i := j * 2) (u := .string (sAt N j)) hblk'))
      have G := Lib.grownBy_setB (Lib.grownBy_setCell wr w.heap.size (j * 2) (.string (sAt N j))) (j * 2 + 1) (.int .i64 (iAt q j))
      have HB2 := Lib.hid ((hB.out.setCell (p := ⟨w.heap.size, j * 2, none⟩) (Nat.le_refl _) (.string (sAt N j))).setCell (p := ⟨w.heap.size, j * 2 + 1, none⟩) (Nat.le_refl _) (.int .i64 (iAt q j)))
      have HN2 := Lib.hid (hNC.out.kept hnb1 G (by omega))
      have hs2 := Nat.lt_of_lt_of_le hnb1 G.size
      have HC2 := Lib.hid (show ((C.setIfInBounds (j * 2) (.string (sAt N j))).setIfInBounds (j * 2 + 1) (.int .i64 (iAt q j))).size = q.length * 2 ∧ ((C.setIfInBounds (j * 2) (.string (sAt N j))).setIfInBounds (j * 2 + 1) (.int .i64 (iAt q j))).toList.take ((j + 1) * 2) = atCells N q (j + 1) from ⟨by simpa using hC.out.1, by rw [show (j + 1) * 2 = j * 2 + 2 by omega]; exact take_set2 hC.out.2 hCs _ _⟩)
      clear y0 y1 u0 u1 c0 c1 hblk' G hblk hC hNC hB
      go_roundw
      case rel => first | exact ⟨j + 1, _, by omega, by go_num, Q, HC2, HN2, hs2, HB2⟩ | ((repeat apply Exists.intro); exact ⟨⟨j + 1, _, by omega, by go_num, Q, HC2, HN2, hs2, HB2⟩, rfl⟩)
      case measure => simp [intOf]; omega
    · obtain rfl : j = N.length := by omega
      go_wp2_with fail
      go_ret
      exact ⟨C, rfl, hblk.out, hC.out.1, by rw [HQ.out]; exact hC.out.2, hB.out⟩
end Go.Proofs.YtpgbckgjlgecpaaGreat
/- contract: uses -/
namespace Go.Proofs.YtpgbckgjlgecpaaGreat
open Go.RowKit Go.Sort
set_option linter.unusedVariables false
set_option linter.unusedSimpArgs false
set_option maxRecDepth 100000
mutual
/-- does a formula have the attribute p? -/
def usesB (p : Int) : FormM → Bool
  | .mk o n l => if o = 6 then n == p else usesL p l
def usesL (p : Int) : List FormM → Bool
  | [] => false
  | x :: l => usesB p x || usesL p l
end
theorem usesL_step {p : Int} {l : List FormM} {k : Nat} (h : k < l.length) : usesL p (l.drop k) = (usesB p (gAt l k) || usesL p (l.drop (k + 1))) := by rw [g_drop l k h, usesL]
theorem usesL_end (p : Int) (l : List FormM) : usesL p (l.drop l.length) = false := by rw [List.drop_length, usesL]
def UsesS (p : Int) (X : Nat → Prop) (f : FormM) : Prop := ∀ (b off : Nat) (w : World), FormsAt X w b off [f] → Calls Tryz.prog 95 #[.pointer (some ⟨b, off, none⟩), .int .i64 p] w fun e w' => e = .returned (.bool (usesB p f)) ∧ w = w'
set_option maxHeartbeats 1600000 in
theorem uses_step (p : Int) (X : Nat → Prop) (o n : Int) (l : List FormM) (IH : ∀ k, k < l.length → UsesS p X (gAt l k)) : UsesS p X (.mk o n l) := by
  intro b off w hF
  obtain ⟨a, cap, hb, d0, d1, d2, hl, hA⟩ := hF.one
  simp only [FormM.op, FormM.num, FormM.args] at d0 d1 d2 hl hA
  have HI := Lib.hid IH
  have HA := Lib.hid hA
  clear hF hA IH
  by_cases h6 : o = 6
  · have hr := Lib.hid (show usesB p (.mk o n l) = (n == p) by rw [usesB, if_pos h6])
    subst h6
    go_enter Tryz.func95, Tryz.ntmps95
    go_wp2_with fail
    go_ret
    exact ⟨ret_boolE hr.out.symm, rfl⟩
  · have hr := Lib.hid (show usesB p (.mk o n l) = usesL p (l.drop 0) by rw [usesB, if_neg h6]; rfl)
    have h6b : (o == 6) = false := by simpa using h6
    go_enter Tryz.func95, Tryz.ntmps95
    go_wp2_with fail
    go_loop [22] (fun i => ∃ k : Nat, k ≤ l.length ∧ i = .int .i64 k ∧ Hid (usesL p (l.drop 0) = usesL p (l.drop k))) (fun i => l.length - (intOf i).toNat)
    case atStart => exact ⟨0, Nat.zero_le _, rfl, Lib.hid rfl⟩
    case round =>
      obtain ⟨k, hk, rfl, hval⟩ := hrel
      by_cases hlt : k < l.length
      · obtain ⟨fb, foff, rfl, hfb, hfc⟩ := HA.out.cells (by omega)
        have F0 := Lib.hid (hfc.at k hlt)
        clear hfc
        have hs := usesL_step (p := p) hlt
        have Hs := Lib.hid (hval.out.trans hs)
        clear hs
        go_wp2_with fail
        refine (HI.out k hlt fb (foff + k * 3) w F0.out).mono ?_
        rintro e w1 ⟨rfl, rfl⟩
        cases e0 : usesB p (gAt l k)
        · have hst := Lib.hid (show usesL p (l.drop 0) = usesL p (l.drop (k + 1)) from Hs.out.trans (by rw [e0]; rfl))
          go_wp2_with fail
          go_round
          case rel => exact ⟨k + 1, by omega, by go_num, hst⟩
          case measure => simp [intOf]; omega
        · have hst := Lib.hid (show usesL p (l.drop 0) = true from Hs.out.trans (by rw [e0]; rfl))
          go_wp2_with fail
          go_ret
          exact ⟨ret_boolE (hr.out.trans hst.out).symm, rfl⟩
      · obtain rfl : k = l.length := by omega
        have hst := Lib.hid (hval.out.trans (usesL_end p l))
        go_wp2_with fail
        go_ret
        exact ⟨ret_boolE (hr.out.trans hst.out).symm, rfl⟩
theorem uses_any (p : Int) (X : Nat → Prop) (f : FormM) : UsesS p X f := by
  obtain ⟨m, hm⟩ : ∃ m, m = SizeOf.sizeOf f := ⟨_, rfl⟩
  induction m using Nat.strongRecOn generalizing f with
  | _ m ih =>
    subst hm
    obtain ⟨o, n, l⟩ := f
    exact uses_step p X o n l fun k hk => ih _ (size_garg hk) _ rfl
end Go.Proofs.YtpgbckgjlgecpaaGreat
/- maps of zones, in plain terms -/
namespace Go.Proofs.YtpgbckgjlgecpaaGreat
open Go.RowKit Go.Sort
set_option linter.unusedVariables false
set_option linter.unusedSimpArgs false
set_option maxRecDepth 100000
theorem zoneN_snoc (zs : List ZoneM) (z : ZoneM) (s : ByteArray) : zoneN (zs ++ [z]) s = if z.name = s then some z else zoneN zs s := by
  unfold zoneN
  rw [List.reverse_append]
  by_cases h : z.name = s <;> simp [h]
theorem airN_snoc (l : List AirM) (z : AirM) (s : ByteArray) : airN (l ++ [z]) s = if z.code = s then some z else airN l s := by
  unfold airN
  rw [List.reverse_append]
  by_cases h : z.code = s <;> simp [h]
def ZMapOf (w0 : World) (M : List (Value × Value)) (zs : List ZoneM) : Prop := ∀ s, (zoneN zs s = none → mget M (.string s) = none) ∧ ∀ z, zoneN zs s = some z → ∃ v, mget M (.string s) = some v ∧ ZVal w0 v z
theorem ZMapOf.nil (w0 : World) : ZMapOf w0 [] [] := fun s => ⟨fun _ => rfl, fun z h => by simp [zoneN] at h⟩
theorem ZMapOf.put {w0 : World} {M : List (Value × Value)} {zs : List ZoneM} (h : ZMapOf w0 M zs) (z : ZoneM) {v : Value} (hv : ZVal w0 v z) : ZMapOf w0 (mput M (.string z.name) v) (zs ++ [z]) := by
  intro s
  rw [zoneN_snoc, mget_mput_string]
  by_cases e : z.name = s
  · rw [if_pos e, if_pos e]
    exact ⟨(fun h => by cases h), fun y hy => ⟨v, rfl, by cases hy; exact hv⟩⟩
  · rw [if_neg e, if_neg e]; exact h s
def AMapOf (w0 : World) (M : List (Value × Value)) (zs : List ZoneM) (l : List AirM) : Prop := ∀ s, (airN l s = none → mget M (.string s) = none) ∧ ∀ a, airN l s = some a → ∃ v, mget M (.string s) = some v ∧ ZVal w0 v ((zoneN zs a.zone).getD zone0)
theorem AMapOf.nil (w0 : World) (zs : List ZoneM) : AMapOf w0 [] zs [] := fun s => ⟨fun _ => rfl, fun z h => by simp [airN] at h⟩
theorem AMapOf.put {w0 : World} {M : List (Value × Value)} {zs : List ZoneM} {l : List AirM} (h : AMapOf w0 M zs l) (a : AirM) {v : Value} (hv : ZVal w0 v ((zoneN zs a.zone).getD zone0)) : AMapOf w0 (mput M (.string a.code) v) zs (l ++ [a]) := by
  intro s
  rw [airN_snoc, mget_mput_string]
  by_cases e : a.code = s
  · rw [if_pos e, if_pos e]
    exact ⟨(fun h => by cases h), fun y hy => ⟨v, rfl, by cases hy; exact hv⟩⟩
  · rw [if_neg e, if_neg e]; exact h s
theorem ZVal.zero (w : World) : ZVal w (.agg #[.string ByteArray.empty, .int .i64 0, .slice none 0 0]) zone0 := ⟨none, 0, rfl, .inl rfl, by simp [zone0], by simp [zone0]⟩
theorem look_name {w0 w : World} {b : Nat} {M : List (Value × Value)} {zs : List ZoneM} (hM : MapOf Tryz.prog w b .string M) (h : ZMapOf w0 M zs) (s : ByteArray) : ∃ v, ((Instr.lookup 140 (.map (some b)) (.string s) false).run Tryz.prog w = .ok v w) ∧ ZVal w0 v ((zoneN zs s).getD zone0) := by
  have e2 := run_lookup Tryz.underlying140 Tryz.underlying9 hM (key := .string s) trivial (airZone _)
  cases hh : zoneN zs s with
  | none =>
    rw [(h s).1 hh] at e2
    exact ⟨_, e2, ZVal.zero _⟩
  | some z =>
    obtain ⟨v, h1, h2⟩ := (h s).2 z hh
    rw [h1] at e2
    exact ⟨v, e2, h2⟩
theorem put_zone {w : World} {b : Nat} {M : List (Value × Value)} (hM : MapOf Tryz.prog w b .string M) (s : ByteArray) (v : Value) : ∃ w', (Instr.mapUpdate 140 (.map (some b)) (.string s) v).run Tryz.prog w = .ok () w' ∧ MapOf Tryz.prog w' b .string (mput M (.string s) v) ∧ w.grownBy w' (some b) :=
  run_update Tryz.underlying140 Tryz.underlying9 hM (key := .string s) v trivial
theorem AMapOf.zones {w0 w : World} {b : Nat} {M : List (Value × Value)} {t : TTM} (hM : MapOf Tryz.prog w b .string M) (h : AMapOf w0 M t.zones t.airs) (hb : Below w0.heap.size w0 w) : ZonesAt w b t := by
  refine ⟨M, hM, fun s => ⟨(h s).1, fun hs => ?_⟩⟩
  cases hh : airN t.airs s with
  | none => exact absurd hh hs
  | some a =>
    obtain ⟨v, h1, h2⟩ := (h s).2 a hh
    refine ⟨v, h1, ?_⟩
    have e : zoneT t s = (zoneN t.zones a.zone).getD zone0 := by simp [zoneT, hh]
    rw [e]
    exact h2.below hb
theorem mkMapZ (w : World) : (Instr.makeMap 140 none).run Tryz.prog w = .ok (.map (some w.heap.size)) (w.alloc (.map #[] 0)) := by kernel_rfl
theorem take_z (l : List ZoneM) (k : Nat) (h : k < l.length) : l.take (k + 1) = l.take k ++ [zAt l k] := by
  rw [List.take_succ_eq_append_getElem h, zAt, List.getD_eq_getElem?_getD, List.getElem?_eq_getElem h]; rfl
theorem take_a (l : List AirM) (k : Nat) (h : k < l.length) : l.take (k + 1) = l.take k ++ [aAt l k] := by
  rw [List.take_succ_eq_append_getElem h, aAt, List.getD_eq_getElem?_getD, List.getElem?_eq_getElem h]; rfl
/-- the nights are wanted -/
def usesR (l : List (ByteArray × FormM)) : Bool := l.any fun r => usesB 1 r.2
def usesK (l : List FormM) : Bool := l.any fun f => usesB 1 f
def nightsB (c : ConM) : Bool := usesR (rulesOf c 2) || usesK (costsOf c 2)
inductive NewRes (w : World) (t : TTM) (c : ConM) (e : Ending) (w' : World) : Prop
  | badT (h : valTT t ≠ 0) (he : e = .returned (.tuple #[.pointer none, .int .i64 (valTT t)]))
  | badC (h : valTT t = 0) (hc : valT c ≠ 0) (he : e = .returned (.tuple #[.pointer none, .int .i64 (valT c)]))
  | ok (sb : Nat) (P : SetP) (he : e = .returned (.tuple #[.pointer (some ⟨sb, 0, none⟩), .int .i64 0])) (hs : SetAt w' sb t c P) (hl : w.heap.size ≤ sb) (hn : P.nights = nightsB c)
def NewPost (w : World) (t : TTM) (c : ConM) (e : Ending) (w' : World) : Prop := NewRes w t c e w' ∧ Below w.heap.size w w'
/-- a timetable and a contract in memory -/
structure TCAt (w : World) (t : TTM) (c : ConM) (za aa fa : Option Addr) (p : ConP) : Prop where
  z : SlAt zoneRT w za t.zones
  a : SlAt airRT w aa t.airs
  f : SlAt flightRT w fa t.fls
  c : ConAt w.heap.size w c p
theorem TCAt.below {w w' : World} {t : TTM} {c : ConM} {za aa fa : Option Addr} {p : ConP} (h : TCAt w t c za aa fa p) (hb : Below w.heap.size w w') : TCAt w' t c za aa fa p where
  z := h.z.below hb
  a := h.a.below hb
  f := h.f.below hb
  c := (h.c.keep hb).more hb.size
def NewS (t : TTM) (c : ConM) (za : Option Addr) (zc : Nat) (aa : Option Addr) (ac : Nat) (fa : Option Addr) (fc : Nat) (p : ConP) : Prop := ∀ w : World, TCAt w t c za aa fa p → Calls Tryz.prog 47 #[.agg #[.slice za t.zones.length zc, .slice aa t.airs.length ac, .slice fa t.fls.length fc], .agg #[.int .i64 c.report, .int .i64 c.release, .int .i64 c.connect, .int .i64 c.sit, .int .i64 c.layover, .int .i64 c.nf, .int .i64 c.nt, .slice p.ca c.consts.length p.cc, .slice p.ra c.rules.length p.rc, .slice p.ka c.costs.length p.kc, .slice p.xa c.credit.length p.xc, .slice p.la c.lims.length p.lc, .slice p.oa c.offs.length p.oc, .int .i64 c.guar]] w (NewPost w t c)
end Go.Proofs.YtpgbckgjlgecpaaGreat
