/- merged texts: On0 On1 -/
import Derived.Test.YtpgbckgjlgecpaaGreatG5
import Derived.Test.YtpgbckgjlgecpaaGreatG6
import Derived.Test.YtpgbckgjlgecpaaGreatGD
import Derived.Test.YtpgbckgjlgecpaaGreatGB
import Derived.Test.YtpgbckgjlgecpaaGreatGC
/- the flights of a structurally valid pairing are in ascending order -/
namespace Go.Proofs.YtpgbckgjlgecpaaGreat
open Go.RowKit Go.Sort
set_option linter.unusedVariables false
set_option linter.unusedSimpArgs false
theorem before_dep {f g : FlightM} (h : beforeB f g = true) : f.dep ≤ g.dep := by
  unfold beforeB at h
  by_cases e : f.dep ≠ g.dep
  · rw [if_pos e] at h; have := of_decide_eq_true h; omega
  · omega
theorem valF_sorted {ar : List ByteArray} : ∀ {l : List FlightM} {p : Option FlightM}, valF ar p l = 0 → (∀ f, p = some f → ∀ g, l[0]? = some g → f.dep ≤ g.dep) ∧ ∀ i f g, l[i]? = some f → l[i + 1]? = some g → f.dep ≤ g.dep
  | [], p, _ => ⟨fun _ _ g hg => by simp at hg, fun i f g hf _ => by simp at hf⟩
  | x :: l, p, h => by
    rw [valF] at h
    by_cases h1 : valFl ar x ≠ 0
    · rw [if_pos h1] at h; exact absurd h h1
    rw [if_neg h1] at h
    by_cases h2 : p.any (fun q => !beforeB q x) = true
    · rw [if_pos h2] at h; omega
    rw [if_neg h2] at h
    obtain ⟨g1, g2⟩ := valF_sorted h
    refine ⟨fun f hp g hg => ?_, fun i f g hf hg => ?_⟩
    · subst hp
      have e : x = g := by simpa using hg
      subst e
      have : beforeB f x = true := by simpa using h2
      exact before_dep this
    · cases i with
      | zero =>
        have e : x = f := by simpa using hf
        subst e
        exact g1 x rfl g (by simpa using hg)
      | succ i => exact g2 i f g (by simpa using hf) (by simpa using hg)
theorem dep_mono {t : TTM} (h : valTT t = 0) {i : Nat} : ∀ {j : Nat}, i ≤ j → j < t.fls.length → (fAt t.fls i).dep ≤ (fAt t.fls j).dep
  | 0, hij, _ => by have : i = 0 := by omega
                    subst this; exact Int.le_refl _
  | j + 1, hij, hj => by
    by_cases e : i = j + 1
    · subst e; exact Int.le_refl _
    · obtain ⟨ar, ha⟩ := valTT_fls h
      have h1 := dep_mono h (show i ≤ j by omega) (by omega)
      have h2 := (valF_sorted ha).2 j (fAt t.fls j) (fAt t.fls (j + 1)) (by rw [fAt, List.getD_eq_getElem?_getD, List.getElem?_eq_getElem (by omega)]; rfl) (by rw [fAt, List.getD_eq_getElem?_getD, List.getElem?_eq_getElem (by omega)]; rfl)
      omega
theorem dep_lt {t : TTM} (h : valTT t = 0) {i j : Nat} (hi : i < t.fls.length) (hlt : (fAt t.fls i).dep < (fAt t.fls j).dep) : i < j := by
  rcases Nat.lt_or_ge i j with h1 | h1
  · exact h1
  · have := dep_mono h h1 hi
    omega
/-- what the structure of a pairing gives -/
theorem pairE_ok {t : TTM} {c : ConM} {p : ByteArray} {L : List Duty} (h : pairE t c p L = 0) : 1 ≤ L.length ∧ L.length ≤ 6 ∧ (∀ k, k < L.length → dutyE t c (dAt L k) = 0) ∧ ∀ k, 1 ≤ k → k < L.length → follB t c (dAt L (k - 1)) (dAt L k) = true := by
  unfold pairE at h
  by_cases h0 : airB' t p = false
  · rw [if_pos h0] at h; omega
  rw [if_neg h0] at h
  by_cases h1 : L.length < 1 ∨ 6 < L.length
  · rw [if_pos h1] at h; omega
  rw [if_neg h1] at h
  by_cases h2 : fstE (pdE t c L) 0 (L.length - 0) ≠ 0
  · rw [if_pos h2] at h; exact absurd h h2
  rw [if_neg h2] at h
  by_cases h3 : fstE (pfE t c L) 1 (L.length - 1) ≠ 0
  · rw [if_pos h3] at h; omega
  have g2 := fstE_zero _ _ (Classical.not_not.1 h2)
  have g3 := fstE_zero _ _ (Classical.not_not.1 h3)
  refine ⟨by omega, by omega, fun k hk => g2 k (by omega) (by omega), fun k h1 hk => ?_⟩
  have := g3 k h1 (by omega)
  unfold pfE at this
  by_cases e : follB t c (dAt L (k - 1)) (dAt L k) = true
  · exact e
  · rw [if_neg e] at this; omega
/-- inside a duty -/
theorem asc_duty {t : TTM} {c : ConM} {d : Duty} (ht : valTT t = 0) (hc : valT c = 0) (hd : dutyE t c d = 0) {k : Nat} (hk : k < d.length) (h0 : 0 < k) : (tAt d (k - 1)).1 < (tAt d k).1 := by
  obtain ⟨h1, h2, h3, h4⟩ := dutyE_ok hd
  obtain ⟨m, hm, hml⟩ := flOk_nat (h3 (k - 1) (by omega))
  obtain ⟨n, hn, hnl⟩ := flOk_nat (h3 k hk)
  have hg := gap_bd hc hd hk h0
  unfold fOf at hg
  rw [hm, hn] at hg ⊢
  simp only [Int.toNat_natCast] at hg
  have h5 := flight_times ht hml
  have := dep_lt ht hml (j := n) (by omega)
  omega
/-- from a duty to the next one -/
theorem asc_next {t : TTM} {c : ConM} {x y : Duty} (ht : valTT t = 0) (hc : valT c = 0) (hx : dutyE t c x = 0) (hy : dutyE t c y = 0) (hf : follB t c x y = true) : (tAt x (x.length - 1)).1 < (tAt y 0).1 := by
  obtain ⟨_, _, hm, hml⟩ := fst_ok hx
  obtain ⟨hn, hnl, _, _⟩ := fst_ok hy
  rw [hm, hn]
  have hr := con_range hc
  unfold follB at hf
  simp only [Bool.and_eq_true, decide_eq_true_eq] at hf
  obtain ⟨⟨_, h6⟩, h7⟩ := hf
  simp only [spanD] at h6 h7
  have h5 := flight_times ht hml
  have := dep_lt ht hml (j := fstN y) (by omega)
  omega
end Go.Proofs.YtpgbckgjlgecpaaGreat
/- the law MeasureOnce: the walk -/
namespace Go.Proofs.YtpgbckgjlgecpaaGreat
open Go.RowKit Go.Sort
set_option linter.unusedVariables false
set_option linter.unusedSimpArgs false
set_option maxRecDepth 100000
theorem tcE_zero {t : TTM} {c : ConM} {e : Int} (h : tcE t c e = 0) : valTT t = 0 ∧ valT c = 0 ∧ e = 0 := by
  unfold tcE at h
  by_cases h1 : valTT t = 0
  · by_cases h2 : valT c = 0
    · simp [h1, h2] at h; exact ⟨h1, h2, h⟩
    · simp [h1, h2] at h
  · simp [h1] at h
/-- the last flight in front of duty i -/
def lastD (L : List Duty) (i : Nat) : Int := if i = 0 then -1 else (tAt (dAt L (i - 1)) ((dAt L (i - 1)).length - 1)).1
def lastT (L : List Duty) (i k : Nat) : Int := if k = 0 then lastD L i else (tAt (dAt L i) (k - 1)).1
theorem lastT_up {t : TTM} {c : ConM} {s : ByteArray} {L : List Duty} (ht : valTT t = 0) (hc : valT c = 0) (hp : pairE t c s L = 0) {i k : Nat} (hi : i < L.length) (hk : k < (dAt L i).length) :
    0 ≤ (tAt (dAt L i) k).1 ∧ (tAt (dAt L i) k).1 < t.fls.length ∧ lastT L i k < (tAt (dAt L i) k).1 := by
  obtain ⟨_, _, h3, h4⟩ := pairE_ok hp
  obtain ⟨_, _, g3, _⟩ := dutyE_ok (h3 i hi)
  obtain ⟨m, hm, hml⟩ := flOk_nat (g3 k hk)
  refine ⟨by omega, by omega, ?_⟩
  unfold lastT
  by_cases e : k = 0
  · rw [if_pos e]
    unfold lastD
    by_cases e2 : i = 0
    · rw [if_pos e2]; omega
    · rw [if_neg e2, e]
      exact asc_next ht hc (h3 (i - 1) (by omega)) (h3 i hi) (h4 i (by omega) hi)
  · rw [if_neg e]
    exact asc_duty ht hc (h3 i hi) hk (by omega)
theorem lastT_next (L : List Duty) (i k : Nat) : lastT L i (k + 1) = (tAt (dAt L i) k).1 := by unfold lastT; rw [if_neg (by omega), Nat.add_sub_cancel]
theorem lastD_next {t : TTM} {c : ConM} {s : ByteArray} {L : List Duty} (hp : pairE t c s L = 0) {i : Nat} (hi : i < L.length) : lastT L i (dAt L i).length = lastD L (i + 1) := by
  obtain ⟨_, _, h3, h4⟩ := pairE_ok hp
  obtain ⟨h1, _, g3, _⟩ := dutyE_ok (h3 i hi)
  unfold lastT lastD
  rw [if_neg (by omega), if_neg (by omega), Nat.add_sub_cancel]
set_option maxHeartbeats 6400000 in
theorem once_walk (t : TTM) (c : ConM) (s : ByteArray) (L : List Duty) (za : Option Addr) (zc : Nat) (aa : Option Addr) (ac : Nat) (fa : Option Addr) (fc : Nat) (p : ConP) (la : Option Addr) (lc : Nat) (w : World) (hn : (t.zones.length ≤ zc ∧ zc ≤ 140737488355328 ∧ t.airs.length ≤ ac ∧ ac ≤ 140737488355328) ∧ t.fls.length ≤ fc ∧ fc ≤ 140737488355328) (hz : SlAt zoneRT w za t.zones) (ha : SlAt airRT w aa t.airs) (hf : SlAt flightRT w fa t.fls) (hcn : c.consts.length ≤ p.cc ∧ p.cc ≤ 140737488355328) (hc : ConAt w.heap.size w c p) (hs : s.size ≤ 140737488355328) (hL : L.length ≤ 140737488355328) (hl : SlAt dutyRT w la L) :
    Calls Tryz.prog 3 #[.agg #[.slice za t.zones.length zc, .slice aa t.airs.length ac, .slice fa t.fls.length fc], .agg #[.int .i64 c.report, .int .i64 c.release, .int .i64 c.connect, .int .i64 c.sit, .int .i64 c.layover, .int .i64 c.nf, .int .i64 c.nt, .slice p.ca c.consts.length p.cc, .slice p.ra c.rules.length p.rc, .slice p.ka c.costs.length p.kc, .slice p.xa c.credit.length p.xc, .slice p.la c.lims.length p.lc, .slice p.oa c.offs.length p.oc, .int .i64 c.guar], .agg #[.string s, .slice la L.length lc]] w fun e w' => e = .returned (.bool true) ∧ Below w.heap.size w w' := by
  have HA := Lib.hid (fun W (h : Below w.heap.size w W) => And.intro (TCAt.below ⟨hz, ha, hf, hc⟩ h) (hl.below h))
  obtain ⟨hcap, hn1, hn2⟩ := hn
  clear hz ha hf hc hl
  go_enter Tryz.func3, Tryz.ntmps3
  go_wp2_with fail
  have HB0 := Lib.hid (Below.then (below_new w (Obj.cells #[.slice za t.zones.length zc, .slice aa t.airs.length ac, .slice fa t.fls.length fc] 26)) (Below.then (below_new _ (Obj.cells #[.int .i64 c.report, .int .i64 c.release, .int .i64 c.connect, .int .i64 c.sit, .int .i64 c.layover, .int .i64 c.nf, .int .i64 c.nt, .slice p.ca c.consts.length p.cc, .slice p.ra c.rules.length p.rc, .slice p.ka c.costs.length p.kc, .slice p.xa c.credit.length p.xc, .slice p.la c.lims.length p.lc, .slice p.oa c.offs.length p.oc, .int .i64 c.guar] 34)) (below_new _ (Obj.cells #[.string s, .slice la L.length lc] 37))))
  have q0 := one_alloc (o' := (Obj.cells #[.string s, .slice la L.length lc] 37)) (one_alloc (o' := (Obj.cells #[.int .i64 c.report, .int .i64 c.release, .int .i64 c.connect, .int .i64 c.sit, .int .i64 c.layover, .int .i64 c.nf, .int .i64 c.nt, .slice p.ca c.consts.length p.cc, .slice p.ra c.rules.length p.rc, .slice p.ka c.costs.length p.kc, .slice p.xa c.credit.length p.xc, .slice p.la c.lims.length p.lc, .slice p.oa c.offs.length p.oc, .int .i64 c.guar] 34)) (heap_new w (Obj.cells #[.slice za t.zones.length zc, .slice aa t.airs.length ac, .slice fa t.fls.length fc] 26)))
  have q1 := one_alloc (o' := (Obj.cells #[.string s, .slice la L.length lc] 37)) (heap_new (w.alloc (Obj.cells #[.slice za t.zones.length zc, .slice aa t.airs.length ac, .slice fa t.fls.length fc] 26)) (Obj.cells #[.int .i64 c.report, .int .i64 c.release, .int .i64 c.connect, .int .i64 c.sit, .int .i64 c.layover, .int .i64 c.nf, .int .i64 c.nt, .slice p.ca c.consts.length p.cc, .slice p.ra c.rules.length p.rc, .slice p.ka c.costs.length p.kc, .slice p.xa c.credit.length p.xc, .slice p.la c.lims.length p.lc, .slice p.oa c.offs.length p.oc, .int .i64 c.guar] 34))
  have q2 := heap_new ((w.alloc (Obj.cells #[.slice za t.zones.length zc, .slice aa t.airs.length ac, .slice fa t.fls.length fc] 26)).alloc (Obj.cells #[.int .i64 c.report, .int .i64 c.release, .int .i64 c.connect, .int .i64 c.sit, .int .i64 c.layover, .int .i64 c.nf, .int .i64 c.nt, .slice p.ca c.consts.length p.cc, .slice p.ra c.rules.length p.rc, .slice p.ka c.costs.length p.kc, .slice p.xa c.credit.length p.xc, .slice p.la c.lims.length p.lc, .slice p.oa c.offs.length p.oc, .int .i64 c.guar] 34)) (Obj.cells #[.string s, .slice la L.length lc] 37)
  rw [alloc_size] at q1
  rw [alloc_size, alloc_size] at q2
  obtain ⟨b0, hb0⟩ : ∃ b0, b0 = w.heap.size := ⟨_, rfl⟩
  obtain ⟨b1, hb1⟩ : ∃ b1, b1 = w.heap.size + 1 := ⟨_, rfl⟩
  obtain ⟨b2, hb2⟩ : ∃ b2, b2 = w.heap.size + 1 + 1 := ⟨_, rfl⟩
  rw [← hb0] at q0
  rw [← hb1] at q1
  rw [← hb2] at q2
  simp only [← hb2]
  simp only [← hb1]
  simp only [← hb0]
  clear hb0 hb1 hb2
  generalize ((w.alloc (Obj.cells #[.slice za t.zones.length zc, .slice aa t.airs.length ac, .slice fa t.fls.length fc] 26)).alloc (Obj.cells #[.int .i64 c.report, .int .i64 c.release, .int .i64 c.connect, .int .i64 c.sit, .int .i64 c.layover, .int .i64 c.nf, .int .i64 c.nt, .slice p.ca c.consts.length p.cc, .slice p.ra c.rules.length p.rc, .slice p.ka c.costs.length p.kc, .slice p.xa c.credit.length p.xc, .slice p.la c.lims.length p.lc, .slice p.oa c.offs.length p.oc, .int .i64 c.guar] 34)).alloc (Obj.cells #[.string s, .slice la L.length lc] 37) = W at *
  have Q0 := Lib.hid q0
  have Q1 := Lib.hid q1
  have Q2 := Lib.hid q2
  clear q0 q1 q2
  have BX := Lib.hid (fun W' (h : Below W.heap.size W W') => And.intro (blk_after h Q0.out) (And.intro (blk_after h Q1.out) (blk_after h Q2.out)))
  refine (lightTC_any t c za zc aa ac fa fc p W ⟨by omega, by omega, by omega⟩ (HA.out _ HB0.out).1).mono ?_
  rintro e w1 ⟨bl, rfl, hbl⟩
  have HB1 := Lib.hid (Below.then HB0.out hbl)
  have HK1 := Lib.hid hbl
  clear hbl
  cases bl
  · have HBX := HB1
    go_wp2_with fail
    refine (awake_any _).mono ?_
    rintro e wz ⟨rfl, hbz⟩
    have HBz := Lib.hid (Below.then HBX.out hbz)
    clear hbz
    go_wp2_with fail
    go_ret
    exact ⟨rfl, HBz.out⟩
  · have BP := (BX.out _ HK1.out).2.2
    have y0 : w1.cell? ⟨b2, 0, none⟩ = some (.string s) := cellW (j := 0) BP rfl
    have y1 : w1.cell? ⟨b2, 1, none⟩ = some (.slice la L.length lc) := cellW (j := 1) BP rfl
    have yl := lt_of_block BP
    clear BP
    go_wp2_with fail
    refine (light_any s L la lc w1 hL (HA.out _ HB1.out).2).mono ?_
    rintro e w2 ⟨bl, rfl, hbl⟩
    have HB2 := Lib.hid (Below.then HB1.out hbl)
    have HK2 := Lib.hid (Below.then HK1.out hbl)
    clear hbl y0 y1 yl
    cases bl
    · have HBX := HB2
      go_wp2_with fail
      refine (awake_any _).mono ?_
      rintro e wz ⟨rfl, hbz⟩
      have HBz := Lib.hid (Below.then HBX.out hbz)
      clear hbz
      go_wp2_with fail
      go_ret
      exact ⟨rfl, HBz.out⟩
    · have BT := (BX.out _ HK2.out).1
      have BC := (BX.out _ HK2.out).2.1
      have BP := (BX.out _ HK2.out).2.2
      have x0 : w2.cell? ⟨b0, 0, none⟩ = some (.slice za t.zones.length zc) := cellW (j := 0) BT rfl
      have x1 : w2.cell? ⟨b0, 1, none⟩ = some (.slice aa t.airs.length ac) := cellW (j := 1) BT rfl
      have x2 : w2.cell? ⟨b0, 2, none⟩ = some (.slice fa t.fls.length fc) := cellW (j := 2) BT rfl
      have z0 : w2.cell? ⟨b1, 0, none⟩ = some (.int .i64 c.report) := cellW (j := 0) BC rfl
      have z1 : w2.cell? ⟨b1, 1, none⟩ = some (.int .i64 c.release) := cellW (j := 1) BC rfl
      have z2 : w2.cell? ⟨b1, 2, none⟩ = some (.int .i64 c.connect) := cellW (j := 2) BC rfl
      have z3 : w2.cell? ⟨b1, 3, none⟩ = some (.int .i64 c.sit) := cellW (j := 3) BC rfl
      have z4 : w2.cell? ⟨b1, 4, none⟩ = some (.int .i64 c.layover) := cellW (j := 4) BC rfl
      have z5 : w2.cell? ⟨b1, 5, none⟩ = some (.int .i64 c.nf) := cellW (j := 5) BC rfl
      have z6 : w2.cell? ⟨b1, 6, none⟩ = some (.int .i64 c.nt) := cellW (j := 6) BC rfl
      have z7 : w2.cell? ⟨b1, 7, none⟩ = some (.slice p.ca c.consts.length p.cc) := cellW (j := 7) BC rfl
      have z8 : w2.cell? ⟨b1, 8, none⟩ = some (.slice p.ra c.rules.length p.rc) := cellW (j := 8) BC rfl
      have z9 : w2.cell? ⟨b1, 9, none⟩ = some (.slice p.ka c.costs.length p.kc) := cellW (j := 9) BC rfl
      have z10 : w2.cell? ⟨b1, 10, none⟩ = some (.slice p.xa c.credit.length p.xc) := cellW (j := 10) BC rfl
      have z11 : w2.cell? ⟨b1, 11, none⟩ = some (.slice p.la c.lims.length p.lc) := cellW (j := 11) BC rfl
      have z12 : w2.cell? ⟨b1, 12, none⟩ = some (.slice p.oa c.offs.length p.oc) := cellW (j := 12) BC rfl
      have z13 : w2.cell? ⟨b1, 13, none⟩ = some (.int .i64 c.guar) := cellW (j := 13) BC rfl
      have y0 : w2.cell? ⟨b2, 0, none⟩ = some (.string s) := cellW (j := 0) BP rfl
      have y1 : w2.cell? ⟨b2, 1, none⟩ = some (.slice la L.length lc) := cellW (j := 1) BP rfl
      have xl := lt_of_block BT
      have zl := lt_of_block BC
      have yl := lt_of_block BP
      clear BT BC BP
      go_wp2_with fail
      refine (pairStructM_any t c za zc aa ac fa fc p (new_any t za aa fa zc ac fc c p) w2 (HA.out _ HB2.out).1 s L la lc hL (HA.out _ HB2.out).2).mono ?_
      rintro e w3 ⟨rfl, hb3⟩
      have HB3 := Lib.hid (Below.then HB2.out hb3)
      have HK3 := Lib.hid (Below.then HK2.out hb3)
      clear hb3 xl zl yl x0 x1 x2 y0 y1 z0 z1 z2 z3 z4 z5 z6 z7 z8 z9 z10 z11 z12 z13
      by_cases hE : tcE t c (pairE t c s L) = 0
      case neg =>
        have hE' : (tcE t c (pairE t c s L) != 0) = true := by simpa using hE
        clear hE
        have HBX := HB3
        go_wp2_with fail
        refine (awake_any _).mono ?_
        rintro e wz ⟨rfl, hbz⟩
        have HBz := Lib.hid (Below.then HBX.out hbz)
        clear hbz
        go_wp2_with fail
        go_ret
        exact ⟨rfl, HBz.out⟩
      case pos =>
        obtain ⟨hT, hC, hP⟩ := tcE_zero hE
        rw [hE]
        have BT := (BX.out _ HK3.out).1
        have BP := (BX.out _ HK3.out).2.2
        have x0 : w3.cell? ⟨b0, 0, none⟩ = some (.slice za t.zones.length zc) := cellW (j := 0) BT rfl
        have x1 : w3.cell? ⟨b0, 1, none⟩ = some (.slice aa t.airs.length ac) := cellW (j := 1) BT rfl
        have x2 : w3.cell? ⟨b0, 2, none⟩ = some (.slice fa t.fls.length fc) := cellW (j := 2) BT rfl
        have y0 : w3.cell? ⟨b2, 0, none⟩ = some (.string s) := cellW (j := 0) BP rfl
        have y1 : w3.cell? ⟨b2, 1, none⟩ = some (.slice la L.length lc) := cellW (j := 1) BP rfl
        have xl := lt_of_block BT
        have yl := lt_of_block BP
        have UP := Lib.hid (fun (i k : Nat) (hi : i < L.length) (hk : k < (dAt L i).length) => lastT_up hT hC hP hi hk)
        have NX := Lib.hid (fun (i : Nat) (hi : i < L.length) => lastD_next hP hi)
        have HL := Lib.hid (HA.out _ HB3.out).2
        have HT := Lib.hid hT
        clear BT BP hE hT hC hP
        go_wp2_with fail
        go_loop [7, 8] (fun z i => ∃ k : Nat, k ≤ L.length ∧ i = .int .i64 k ∧ z = .int .i64 (lastD L k)) (fun _ i => L.length - (intOf i).toNat)
        case atStart => exact ⟨0, Nat.zero_le _, rfl, rfl⟩
        case round =>
          obtain ⟨i, hi, rfl, rfl⟩ := hrel
          by_cases hlt : i < L.length
          · obtain ⟨b, off, hla, hb, hcs⟩ := duty_cells HL.out (by omega)
            obtain ⟨da, dc, c0, hd1, hd2⟩ := hcs i hlt
            have HD := Lib.hid hd2
            rw [hla] at y1
            clear hcs hd2
            go_wp2_with fail
            go_loop [7, 9] (fun z i2 => ∃ k : Nat, k ≤ (dAt L i).length ∧ i2 = .int .i64 k ∧ z = .int .i64 (lastT L i k)) (fun _ i2 => (dAt L i).length - (intOf i2).toNat)
            case atStart => exact ⟨0, Nat.zero_le _, rfl, rfl⟩
            case round =>
              obtain ⟨k, hk, rfl, rfl⟩ := hrel
              by_cases hlt2 : k < (dAt L i).length
              · obtain ⟨b3, off3, hda, hb3, hcs3⟩ := task_cells HD.out (by omega)
                obtain ⟨e0, e1⟩ := hcs3 k hlt2
                rw [hda] at c0
                obtain ⟨u1, u2, u3⟩ := UP.out i k hlt hlt2
                clear hcs3
                go_wp2_with fail
                go_round
                case rel => exact ⟨k + 1, by omega, by go_num, by rw [lastT_next]⟩
                case measure => simp [intOf]; omega
              · obtain rfl : k = (dAt L i).length := by omega
                have hnx := NX.out i hlt
                rw [hnx]
                go_wp2_with fail
                go_round
                case rel => first | exact ⟨i + 1, by omega, by go_num, rfl⟩ | exact ⟨_, _, _, ⟨i + 1, by omega, by go_num, rfl⟩, rfl, rfl, rfl⟩
                case measure => simp [intOf]; omega
          · go_wp2_with fail
            refine (validateR9_any t za aa fa zc ac fc w3 hcap (HA.out _ HB3.out).1.z (HA.out _ HB3.out).1.a (HA.out _ HB3.out).1.f).mono ?_
            rintro e w4 ⟨rfl, hb4⟩
            have HB4 := Lib.hid (Below.then HB3.out hb4)
            clear hb4
            rw [HT.out]
            go_wp2_with fail
            refine (awake_any _).mono ?_
            rintro e wz ⟨rfl, hbz⟩
            have HBz := Lib.hid (Below.then HB4.out hbz)
            clear hbz
            go_wp2_with fail
            go_ret
            exact ⟨rfl, HBz.out⟩
end Go.Proofs.YtpgbckgjlgecpaaGreat
