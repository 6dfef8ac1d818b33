/- merged texts: Li Wr1 -/
import Derived.Test.YtpgbckgjlgecpaaGreatG9
import Derived.Test.YtpgbckgjlgecpaaGreatG6
import Derived.Test.YtpgbckgjlgecpaaGreatG7
import Derived.Test.YtpgbckgjlgecpaaGreatG5
/- contracts: the laws' tests of size -/
namespace Go.Proofs.YtpgbckgjlgecpaaGreat
open Go.RowKit Go.Sort
set_option linter.unusedVariables false
set_option linter.unusedSimpArgs false
set_option maxRecDepth 100000
def SomeInt (w : World) (e : Ending) (w' : World) : Prop := ∃ n : Int, e = .returned (.int .i64 n) ∧ (Lit.int .i64 n).wf = true ∧ Below w.heap.size w w'
def SizeS (B : Nat) (x : ExprM) : Prop := ∀ (a : Option Addr) (cap : Nat) (w : World), B ≤ w.heap.size → x.args.length ≤ 140737488355328 → ArgsAt B w a x.args → Calls Tryz.prog 90 #[.agg #[.int .i64 x.op, .int .i64 x.num, .string x.name, .slice a x.args.length cap]] w (SomeInt w)
set_option maxHeartbeats 1600000 in
theorem size_step (B : Nat) (o n : Int) (s : ByteArray) (l : List ExprM) (IH : ∀ k, k < l.length → SizeS B (eAt l k)) : SizeS B (.mk o n s l) := by
  intro a cap w hBw hl ha
  simp only [ExprM.op, ExprM.num, ExprM.name, ExprM.args] at hl ha ⊢
  have HI := Lib.hid IH
  have HA := Lib.hid ha
  clear IH ha
  go_enter Tryz.func90, Tryz.ntmps90
  go_wp2_with fail
  have HB := Lib.hid (below_new w (Obj.cells #[.int .i64 o, .int .i64 n, .string s, .slice a l.length cap] 111))
  have q0 := Lib.hid (heap_new w (Obj.cells #[.int .i64 o, .int .i64 n, .string s, .slice a l.length cap] 111))
  generalize w.alloc (Obj.cells #[.int .i64 o, .int .i64 n, .string s, .slice a l.length cap] 111) = W at *
  go_loopw [3, 4] (fun m i wr => ∃ (k : Nat) (z : Int), k ≤ l.length ∧ i = .int .i64 k ∧ m = .int .i64 z ∧ (Lit.int .i64 z).wf = true ∧ Hid (wr.heap[w.heap.size]? = some (.cells #[.int .i64 o, .int .i64 n, .string s, .slice a l.length cap] 111 (0, 0))) ∧ Hid (Below w.heap.size w wr)) (fun _ i _ => l.length - (intOf i).toNat)
  case atStart => exact ⟨0, 1, Nat.zero_le _, rfl, rfl, by decide, q0, HB⟩
  case round =>
    obtain ⟨k, z, hk, rfl, rfl, hz, hq, hbel⟩ := hrel
    have q3 : wr.cell? ⟨w.heap.size, 3, none⟩ = some (.slice a l.length cap) := cellW (j := 3) hq.out rfl
    have ql := lt_of_block hq.out
    by_cases hlt : k < l.length
    · by_cases hm2 : z < 1000
      · obtain ⟨b, off, rfl, hb, hcs⟩ := HA.out.cells (by omega)
        obtain ⟨a2, cap2, hbB, ⟨c0, c1, c2, c3⟩, hfit, hargs⟩ := (hcs.keep (hbel.out.mono hBw)).at k hlt
        have HAr := Lib.hid hargs
        have hbw : b < wr.heap.size := Nat.lt_of_lt_of_le hbB (Nat.le_trans hBw hbel.out.size)
        clear hcs hargs
        go_wp2_with fail
        refine (HI.out k hlt a2 cap2 wr (Nat.le_trans hBw hbel.out.size) hfit.2.1 HAr.out).mono ?_
        rintro e w1 ⟨m, rfl, hm, hb1⟩
        have HB1 := Lib.hid (Below.then hbel.out hb1)
        have Q1 := Lib.hid ((hb1.block _ (lt_of_block hq.out)).trans hq.out)
        clear hb1 c0 c1 c2 c3 HAr
        go_wp2_with fail
        go_roundw
        case rel => exact ⟨k + 1, _, by omega, by go_num, rfl, wrap64_wf _, Q1, HB1⟩
        case measure => simp [intOf]; omega
      · go_wp2_with fail
        go_ret
        exact ⟨_, rfl, hz, hbel.out⟩
    · go_wp2_with fail
      go_ret
      exact ⟨_, rfl, hz, hbel.out⟩
theorem size_any (B : Nat) (x : ExprM) : SizeS B x := by
  obtain ⟨m, hm⟩ : ∃ m, m = SizeOf.sizeOf x := ⟨_, rfl⟩
  induction m using Nat.strongRecOn generalizing x with
  | _ m ih =>
    subst hm
    obtain ⟨o, n, s, l⟩ := x
    exact size_step B o n s l fun k hk => ih _ (size_arg (x := .mk o n s l) hk) _ rfl
set_option maxHeartbeats 800000 in
theorem lightT_any (t : TTM) (za aa fa : Option Addr) (zc ac fc : Nat) (w : World) (hln : t.zones.length ≤ 140737488355328 ∧ t.airs.length ≤ 140737488355328 ∧ t.fls.length ≤ 140737488355328) (hz : SlAt zoneRT w za t.zones) : Calls Tryz.prog 45 #[.agg #[.slice za t.zones.length zc, .slice aa t.airs.length ac, .slice fa t.fls.length fc]] w (SomeBool w) := by
  have HZ := Lib.hid hz
  obtain ⟨l1, l2, l3⟩ := hln
  clear hz
  go_enter Tryz.func45, Tryz.ntmps45
  go_wp2_with fail
  have HB := Lib.hid (below_new w (Obj.cells #[.slice za t.zones.length zc, .slice aa t.airs.length ac, .slice fa t.fls.length fc] 26))
  have q0 := heap_new w (Obj.cells #[.slice za t.zones.length zc, .slice aa t.airs.length ac, .slice fa t.fls.length fc] 26)
  have x0 : (w.alloc (Obj.cells #[.slice za t.zones.length zc, .slice aa t.airs.length ac, .slice fa t.fls.length fc] 26)).cell? ⟨w.heap.size, 0, none⟩ = some (.slice za t.zones.length zc) := cellW (j := 0) q0 rfl
  have xl := lt_of_block q0
  clear q0
  generalize w.alloc (Obj.cells #[.slice za t.zones.length zc, .slice aa t.airs.length ac, .slice fa t.fls.length fc] 26) = W at *
  go_loop [3, 4] (fun n i => ∃ k m : Nat, k ≤ t.zones.length ∧ i = .int .i64 k ∧ n = .int .i64 m ∧ m ≤ 422212465066000) (fun _ i => t.zones.length - (intOf i).toNat)
  case atStart => exact ⟨0, t.zones.length + t.airs.length + t.fls.length, Nat.zero_le _, rfl, by go_num, by omega⟩
  case round =>
    obtain ⟨k, m, hk, rfl, rfl, hm⟩ := hrel
    by_cases hlt : k < t.zones.length
    · by_cases hm2 : m < 1000
      · obtain ⟨b, off, rfl, hb, hcs⟩ := zone_cells (HZ.out.below HB.out) (by omega)
        obtain ⟨sa, scap, c1, c2, c3, s1, s2, s3⟩ := hcs k hlt
        clear hcs s3
        have g1 : decide ((m : Int) < 1000) = true := by simp; omega
        go_wp2_with fail
        go_round
        case rel => exact ⟨k + 1, m + (zAt t.zones k).sh.length, by omega, by go_num, by go_num, by omega⟩
        case measure => simp [intOf]; omega
      · have g1 : decide ((m : Int) < 1000) = false := by simp; omega
        go_wp2_with fail
        go_ret
        exact ⟨_, rfl, HB.out⟩
    · go_wp2_with fail
      go_ret
      exact ⟨_, rfl, HB.out⟩
set_option maxHeartbeats 1600000 in
theorem lightC_any (c : ConM) (p : ConP) (w : World) (hc : ConAt w.heap.size w c p) : Calls Tryz.prog 46 #[.agg #[.int .i64 c.report, .int .i64 c.release, .int .i64 c.connect, .int .i64 c.sit, .int .i64 c.layover, .int .i64 c.nf, .int .i64 c.nt, .slice p.ca c.consts.length p.cc, .slice p.ra c.rules.length p.rc, .slice p.ka c.costs.length p.kc, .slice p.xa c.credit.length p.xc, .slice p.la c.lims.length p.lc, .slice p.oa c.offs.length p.oc, .int .i64 c.guar]] w (SomeBool w) := by
  have HC := Lib.hid hc
  have l7 := hc.consts.1
  have l8 := hc.rules.1
  have l9 := hc.costs.1
  have l10 := hc.creditN
  have l11 := hc.lims.1
  have l12 := hc.offs.1
  clear hc
  go_enter Tryz.func46, Tryz.ntmps46
  go_wp2_with fail
  have HB := Lib.hid (below_new w (Obj.cells #[.int .i64 c.report, .int .i64 c.release, .int .i64 c.connect, .int .i64 c.sit, .int .i64 c.layover, .int .i64 c.nf, .int .i64 c.nt, .slice p.ca c.consts.length p.cc, .slice p.ra c.rules.length p.rc, .slice p.ka c.costs.length p.kc, .slice p.xa c.credit.length p.xc, .slice p.la c.lims.length p.lc, .slice p.oa c.offs.length p.oc, .int .i64 c.guar] 34))
  have q0 := Lib.hid (heap_new w (Obj.cells #[.int .i64 c.report, .int .i64 c.release, .int .i64 c.connect, .int .i64 c.sit, .int .i64 c.layover, .int .i64 c.nf, .int .i64 c.nt, .slice p.ca c.consts.length p.cc, .slice p.ra c.rules.length p.rc, .slice p.ka c.costs.length p.kc, .slice p.xa c.credit.length p.xc, .slice p.la c.lims.length p.lc, .slice p.oa c.offs.length p.oc, .int .i64 c.guar] 34))
  have hw1 : (Lit.int .i64 ((c.lims.length : Int) + (c.offs.length : Int))).wf = true := by simp [Lit.wf, IntKind.min, IntKind.max, IntKind.signed, IntKind.bits]; omega
  generalize w.alloc (Obj.cells #[.int .i64 c.report, .int .i64 c.release, .int .i64 c.connect, .int .i64 c.sit, .int .i64 c.layover, .int .i64 c.nf, .int .i64 c.nt, .slice p.ca c.consts.length p.cc, .slice p.ra c.rules.length p.rc, .slice p.ka c.costs.length p.kc, .slice p.xa c.credit.length p.xc, .slice p.la c.lims.length p.lc, .slice p.oa c.offs.length p.oc, .int .i64 c.guar] 34) = W at *
  go_loopw [3, 4] (fun m i wr => ∃ (k : Nat) (z : Int), k ≤ c.consts.length ∧ i = .int .i64 k ∧ m = .int .i64 z ∧ (Lit.int .i64 z).wf = true ∧ Hid (wr.heap[w.heap.size]? = some (.cells #[.int .i64 c.report, .int .i64 c.release, .int .i64 c.connect, .int .i64 c.sit, .int .i64 c.layover, .int .i64 c.nf, .int .i64 c.nt, .slice p.ca c.consts.length p.cc, .slice p.ra c.rules.length p.rc, .slice p.ka c.costs.length p.kc, .slice p.xa c.credit.length p.xc, .slice p.la c.lims.length p.lc, .slice p.oa c.offs.length p.oc, .int .i64 c.guar] 34 (0, 0))) ∧ Hid (Below w.heap.size w wr)) (fun _ i _ => c.consts.length - (intOf i).toNat)
  case atStart => exact ⟨0, _, Nat.zero_le _, rfl, by go_num, hw1, q0, HB⟩
  case round =>
    obtain ⟨k, z, hk, rfl, rfl, hz, hq, hbel⟩ := hrel
    have q3 : wr.cell? ⟨w.heap.size, 7, none⟩ = some (.slice p.ca c.consts.length p.cc) := cellW (j := 7) hq.out rfl
    have ql := lt_of_block hq.out
    by_cases hgo : k < c.consts.length ∧ z < 3000
    · obtain ⟨hlt, hz3⟩ := hgo
      obtain ⟨b, off, hpa, hb, hcs⟩ := ((HC.out.keep hbel.out).consts).cells (by omega)
      obtain ⟨_, _, a2, cap2, ⟨c0, c1, c2, c3⟩, hfit, hargs⟩ := hcs k hlt
      have HAr := Lib.hid hargs
      have hbw : b < wr.heap.size := Nat.lt_of_lt_of_le hb hbel.out.size
      rw [hpa] at q3
      clear hcs hargs hpa
      go_wp2_with fail
      refine (size_any w.heap.size (csAt c.consts k).ex a2 cap2 wr hbel.out.size hfit.2.1 HAr.out).mono ?_
      rintro e w1 ⟨m, rfl, hm, hb1⟩
      have HB1 := Lib.hid (Below.then hbel.out hb1)
      have Q1 := Lib.hid ((hb1.block _ (lt_of_block hq.out)).trans hq.out)
      clear hb1 c0 c1 c2 c3 HAr q3
      go_wp2_with fail
      go_roundw
      case rel => exact ⟨k + 1, _, by omega, by go_num, rfl, wrap64_wf _, Q1, HB1⟩
      case measure => simp [intOf]; omega
    · have hx : (k < c.consts.length ∧ ¬ z < 3000) ∨ ¬ k < c.consts.length := by omega
      rcases hx with ⟨hx, hx2⟩ | hx <;>
      (
      go_wp2_with fail
      go_loopw [3, 5] (fun m i wr => ∃ (k : Nat) (z : Int), k ≤ c.rules.length ∧ i = .int .i64 k ∧ m = .int .i64 z ∧ (Lit.int .i64 z).wf = true ∧ Hid (wr.heap[w.heap.size]? = some (.cells #[.int .i64 c.report, .int .i64 c.release, .int .i64 c.connect, .int .i64 c.sit, .int .i64 c.layover, .int .i64 c.nf, .int .i64 c.nt, .slice p.ca c.consts.length p.cc, .slice p.ra c.rules.length p.rc, .slice p.ka c.costs.length p.kc, .slice p.xa c.credit.length p.xc, .slice p.la c.lims.length p.lc, .slice p.oa c.offs.length p.oc, .int .i64 c.guar] 34 (0, 0))) ∧ Hid (Below w.heap.size w wr)) (fun _ i _ => c.rules.length - (intOf i).toNat)
      case atStart => exact ⟨0, _, Nat.zero_le _, rfl, rfl, hz, hq, hbel⟩
      case round =>
        clear hz hq hbel q3 ql hx; obtain ⟨k, z, hk, rfl, rfl, hz, hq, hbel⟩ := hrel
        have q3 : wr.cell? ⟨w.heap.size, 8, none⟩ = some (.slice p.ra c.rules.length p.rc) := cellW (j := 8) hq.out rfl
        have ql := lt_of_block hq.out
        by_cases hgo : k < c.rules.length ∧ z < 3000
        · obtain ⟨hlt, hz3⟩ := hgo
          obtain ⟨b, off, hpa, hb, hcs⟩ := ((HC.out.keep hbel.out).rules).cells (by omega)
          obtain ⟨_, _, _, _, a2, cap2, ⟨c0, c1, c2, c3⟩, hfit, hargs⟩ := hcs k hlt
          have HAr := Lib.hid hargs
          have hbw : b < wr.heap.size := Nat.lt_of_lt_of_le hb hbel.out.size
          rw [hpa] at q3
          clear hcs hargs hpa
          go_wp2_with fail
          refine (size_any w.heap.size (rlAt c.rules k).ex a2 cap2 wr hbel.out.size hfit.2.1 HAr.out).mono ?_
          rintro e w1 ⟨m, rfl, hm, hb1⟩
          have HB1 := Lib.hid (Below.then hbel.out hb1)
          have Q1 := Lib.hid ((hb1.block _ (lt_of_block hq.out)).trans hq.out)
          clear hb1 c0 c1 c2 c3 HAr q3
          go_wp2_with fail
          go_roundw
          case rel => exact ⟨k + 1, _, by omega, by go_num, rfl, wrap64_wf _, Q1, HB1⟩
          case measure => simp [intOf]; omega
        · have hx : (k < c.rules.length ∧ ¬ z < 3000) ∨ ¬ k < c.rules.length := by omega
          rcases hx with ⟨hx, hx2⟩ | hx <;>
          (
          go_wp2_with fail
          go_loopw [3, 6] (fun m i wr => ∃ (k : Nat) (z : Int), k ≤ c.costs.length ∧ i = .int .i64 k ∧ m = .int .i64 z ∧ (Lit.int .i64 z).wf = true ∧ Hid (wr.heap[w.heap.size]? = some (.cells #[.int .i64 c.report, .int .i64 c.release, .int .i64 c.connect, .int .i64 c.sit, .int .i64 c.layover, .int .i64 c.nf, .int .i64 c.nt, .slice p.ca c.consts.length p.cc, .slice p.ra c.rules.length p.rc, .slice p.ka c.costs.length p.kc, .slice p.xa c.credit.length p.xc, .slice p.la c.lims.length p.lc, .slice p.oa c.offs.length p.oc, .int .i64 c.guar] 34 (0, 0))) ∧ Hid (Below w.heap.size w wr)) (fun _ i _ => c.costs.length - (intOf i).toNat)
          case atStart => exact ⟨0, _, Nat.zero_le _, rfl, rfl, hz, hq, hbel⟩
          case round =>
            clear hz hq hbel q3 ql hx; obtain ⟨k, z, hk, rfl, rfl, hz, hq, hbel⟩ := hrel
            have q3 : wr.cell? ⟨w.heap.size, 9, none⟩ = some (.slice p.ka c.costs.length p.kc) := cellW (j := 9) hq.out rfl
            have ql := lt_of_block hq.out
            by_cases hgo : k < c.costs.length ∧ z < 3000
            · obtain ⟨hlt, hz3⟩ := hgo
              obtain ⟨b, off, hpa, hb, hcs⟩ := ((HC.out.keep hbel.out).costs).cells (by omega)
              obtain ⟨_, _, a2, cap2, ⟨c0, c1, c2, c3⟩, hfit, hargs⟩ := hcs k hlt
              have HAr := Lib.hid hargs
              have hbw : b < wr.heap.size := Nat.lt_of_lt_of_le hb hbel.out.size
              rw [hpa] at q3
              clear hcs hargs hpa
              go_wp2_with fail
              refine (size_any w.heap.size (coAt c.costs k).ex a2 cap2 wr hbel.out.size hfit.2.1 HAr.out).mono ?_
              rintro e w1 ⟨m, rfl, hm, hb1⟩
              have HB1 := Lib.hid (Below.then hbel.out hb1)
              have Q1 := Lib.hid ((hb1.block _ (lt_of_block hq.out)).trans hq.out)
              clear hb1 c0 c1 c2 c3 HAr q3
              go_wp2_with fail
              go_roundw
              case rel => exact ⟨k + 1, _, by omega, by go_num, rfl, wrap64_wf _, Q1, HB1⟩
              case measure => simp [intOf]; omega
            · have hx : (k < c.costs.length ∧ ¬ z < 3000) ∨ ¬ k < c.costs.length := by omega
              rcases hx with ⟨hx, hx2⟩ | hx <;>
              (
              go_wp2_with fail
              go_loopw [3, 7] (fun m i wr => ∃ (k : Nat) (z : Int), k ≤ c.credit.length ∧ i = .int .i64 k ∧ m = .int .i64 z ∧ (Lit.int .i64 z).wf = true ∧ Hid (wr.heap[w.heap.size]? = some (.cells #[.int .i64 c.report, .int .i64 c.release, .int .i64 c.connect, .int .i64 c.sit, .int .i64 c.layover, .int .i64 c.nf, .int .i64 c.nt, .slice p.ca c.consts.length p.cc, .slice p.ra c.rules.length p.rc, .slice p.ka c.costs.length p.kc, .slice p.xa c.credit.length p.xc, .slice p.la c.lims.length p.lc, .slice p.oa c.offs.length p.oc, .int .i64 c.guar] 34 (0, 0))) ∧ Hid (Below w.heap.size w wr)) (fun _ i _ => c.credit.length - (intOf i).toNat)
              case atStart => exact ⟨0, _, Nat.zero_le _, rfl, rfl, hz, hq, hbel⟩
              case round =>
                clear hz hq hbel q3 ql hx; obtain ⟨k, z, hk, rfl, rfl, hz, hq, hbel⟩ := hrel
                have q3 : wr.cell? ⟨w.heap.size, 10, none⟩ = some (.slice p.xa c.credit.length p.xc) := cellW (j := 10) hq.out rfl
                have ql := lt_of_block hq.out
                by_cases hgo : k < c.credit.length ∧ z < 3000
                · obtain ⟨hlt, hz3⟩ := hgo
                  obtain ⟨b, off, hpa, hb, hcs⟩ := ((HC.out.keep hbel.out).credit).cells (by omega)
                  obtain ⟨a2, cap2, hbB, ⟨c0, c1, c2, c3⟩, hfit, hargs⟩ := hcs.at k hlt
                  have HAr := Lib.hid hargs
                  have hbw : b < wr.heap.size := Nat.lt_of_lt_of_le hb hbel.out.size
                  rw [hpa] at q3
                  clear hcs hargs hpa
                  go_wp2_with fail
                  refine (size_any w.heap.size (eAt c.credit k) a2 cap2 wr hbel.out.size hfit.2.1 HAr.out).mono ?_
                  rintro e w1 ⟨m, rfl, hm, hb1⟩
                  have HB1 := Lib.hid (Below.then hbel.out hb1)
                  have Q1 := Lib.hid ((hb1.block _ (lt_of_block hq.out)).trans hq.out)
                  clear hb1 c0 c1 c2 c3 HAr q3
                  go_wp2_with fail
                  go_roundw
                  case rel => exact ⟨k + 1, _, by omega, by go_num, rfl, wrap64_wf _, Q1, HB1⟩
                  case measure => simp [intOf]; omega
                · have hx : (k < c.credit.length ∧ ¬ z < 3000) ∨ ¬ k < c.credit.length := by omega
                  rcases hx with ⟨hx, hx2⟩ | hx <;>
                  (
                  go_wp2_with fail
                  go_ret
                  exact ⟨_, rfl, hbel.out⟩)
              )
          )
      )
set_option maxHeartbeats 800000 in
theorem lightTC_any (t : TTM) (c : ConM) (za : Option Addr) (zc : Nat) (aa : Option Addr) (ac : Nat) (fa : Option Addr) (fc : Nat) (p : ConP) (w : World) (hln : t.zones.length ≤ 140737488355328 ∧ t.airs.length ≤ 140737488355328 ∧ t.fls.length ≤ 140737488355328) (hT : TCAt w t c za aa fa p) : Calls Tryz.prog 10 #[.agg #[.slice za t.zones.length zc, .slice aa t.airs.length ac, .slice fa t.fls.length fc], .agg #[.int .i64 c.report, .int .i64 c.release, .int .i64 c.connect, .int .i64 c.sit, .int .i64 c.layover, .int .i64 c.nf, .int .i64 c.nt, .slice p.ca c.consts.length p.cc, .slice p.ra c.rules.length p.rc, .slice p.ka c.costs.length p.kc, .slice p.xa c.credit.length p.xc, .slice p.la c.lims.length p.lc, .slice p.oa c.offs.length p.oc, .int .i64 c.guar]] w (SomeBool w) := by
  have HT := Lib.hid hT
  clear hT
  go_enter Tryz.func10, Tryz.ntmps10
  go_wp2_with fail
  have HB0 := Lib.hid (Below.then (below_new w (Obj.cells #[.slice za t.zones.length zc, .slice aa t.airs.length ac, .slice fa t.fls.length fc] 26)) (below_new _ (Obj.cells #[.int .i64 c.report, .int .i64 c.release, .int .i64 c.connect, .int .i64 c.sit, .int .i64 c.layover, .int .i64 c.nf, .int .i64 c.nt, .slice p.ca c.consts.length p.cc, .slice p.ra c.rules.length p.rc, .slice p.ka c.costs.length p.kc, .slice p.xa c.credit.length p.xc, .slice p.la c.lims.length p.lc, .slice p.oa c.offs.length p.oc, .int .i64 c.guar] 34)))
  have T0 := Lib.hid (one_alloc (o' := (Obj.cells #[.int .i64 c.report, .int .i64 c.release, .int .i64 c.connect, .int .i64 c.sit, .int .i64 c.layover, .int .i64 c.nf, .int .i64 c.nt, .slice p.ca c.consts.length p.cc, .slice p.ra c.rules.length p.rc, .slice p.ka c.costs.length p.kc, .slice p.xa c.credit.length p.xc, .slice p.la c.lims.length p.lc, .slice p.oa c.offs.length p.oc, .int .i64 c.guar] 34)) (heap_new w (Obj.cells #[.slice za t.zones.length zc, .slice aa t.airs.length ac, .slice fa t.fls.length fc] 26)))
  have C0 := Lib.hid (heap_new (w.alloc (Obj.cells #[.slice za t.zones.length zc, .slice aa t.airs.length ac, .slice fa t.fls.length fc] 26)) (Obj.cells #[.int .i64 c.report, .int .i64 c.release, .int .i64 c.connect, .int .i64 c.sit, .int .i64 c.layover, .int .i64 c.nf, .int .i64 c.nt, .slice p.ca c.consts.length p.cc, .slice p.ra c.rules.length p.rc, .slice p.ka c.costs.length p.kc, .slice p.xa c.credit.length p.xc, .slice p.la c.lims.length p.lc, .slice p.oa c.offs.length p.oc, .int .i64 c.guar] 34))
  rw [alloc_size] at C0
  generalize (w.alloc (Obj.cells #[.slice za t.zones.length zc, .slice aa t.airs.length ac, .slice fa t.fls.length fc] 26)).alloc (Obj.cells #[.int .i64 c.report, .int .i64 c.release, .int .i64 c.connect, .int .i64 c.sit, .int .i64 c.layover, .int .i64 c.nf, .int .i64 c.nt, .slice p.ca c.consts.length p.cc, .slice p.ra c.rules.length p.rc, .slice p.ka c.costs.length p.kc, .slice p.xa c.credit.length p.xc, .slice p.la c.lims.length p.lc, .slice p.oa c.offs.length p.oc, .int .i64 c.guar] 34) = W0 at *
  refine (lightT_any t za aa fa zc ac fc W0 hln (HT.out.below HB0.out).z).mono ?_
  rintro e w1 ⟨b1, rfl, hb1⟩
  have HB1 := Lib.hid (Below.then HB0.out hb1)
  have T1 := Lib.hid ((hb1.block _ (lt_of_block T0.out)).trans T0.out)
  have C1 := Lib.hid ((hb1.block _ (lt_of_block C0.out)).trans C0.out)
  have t2 : w1.cell? ⟨w.heap.size, 2, none⟩ = some (.slice fa t.fls.length fc) := cellW (j := 2) T1.out rfl
  have tl := lt_of_block T1.out
  clear hb1 T0 C0 HB0
  cases b1
  · go_wp2_with fail
    go_ret
    exact ⟨_, rfl, HB1.out⟩
  · by_cases hf : t.fls.length ≤ 12
    · have hf' : decide ((t.fls.length : Int) ≤ 12) = true := by simp; omega
      have c1_0 : w1.cell? ⟨w.heap.size + 1, 0, none⟩ = some (.int .i64 c.report) := cellW (j := 0) C1.out rfl
      have c1_1 : w1.cell? ⟨w.heap.size + 1, 1, none⟩ = some (.int .i64 c.release) := cellW (j := 1) C1.out rfl
      have c1_2 : w1.cell? ⟨w.heap.size + 1, 2, none⟩ = some (.int .i64 c.connect) := cellW (j := 2) C1.out rfl
      have c1_3 : w1.cell? ⟨w.heap.size + 1, 3, none⟩ = some (.int .i64 c.sit) := cellW (j := 3) C1.out rfl
      have c1_4 : w1.cell? ⟨w.heap.size + 1, 4, none⟩ = some (.int .i64 c.layover) := cellW (j := 4) C1.out rfl
      have c1_5 : w1.cell? ⟨w.heap.size + 1, 5, none⟩ = some (.int .i64 c.nf) := cellW (j := 5) C1.out rfl
      have c1_6 : w1.cell? ⟨w.heap.size + 1, 6, none⟩ = some (.int .i64 c.nt) := cellW (j := 6) C1.out rfl
      have c1_7 : w1.cell? ⟨w.heap.size + 1, 7, none⟩ = some (.slice p.ca c.consts.length p.cc) := cellW (j := 7) C1.out rfl
      have c1_8 : w1.cell? ⟨w.heap.size + 1, 8, none⟩ = some (.slice p.ra c.rules.length p.rc) := cellW (j := 8) C1.out rfl
      have c1_9 : w1.cell? ⟨w.heap.size + 1, 9, none⟩ = some (.slice p.ka c.costs.length p.kc) := cellW (j := 9) C1.out rfl
      have c1_10 : w1.cell? ⟨w.heap.size + 1, 10, none⟩ = some (.slice p.xa c.credit.length p.xc) := cellW (j := 10) C1.out rfl
      have c1_11 : w1.cell? ⟨w.heap.size + 1, 11, none⟩ = some (.slice p.la c.lims.length p.lc) := cellW (j := 11) C1.out rfl
      have c1_12 : w1.cell? ⟨w.heap.size + 1, 12, none⟩ = some (.slice p.oa c.offs.length p.oc) := cellW (j := 12) C1.out rfl
      have c1_13 : w1.cell? ⟨w.heap.size + 1, 13, none⟩ = some (.int .i64 c.guar) := cellW (j := 13) C1.out rfl
      have cl := lt_of_block C1.out
      go_wp2_with fail
      refine (lightC_any c p w1 (HT.out.below HB1.out).c).mono ?_
      rintro e w2 ⟨b2, rfl, hb2⟩
      have HB2 := Lib.hid (Below.then HB1.out hb2)
      clear hb2 c1_0 c1_1 c1_2 c1_3 c1_4 c1_5 c1_6 c1_7 c1_8 c1_9 c1_10 c1_11 c1_12 c1_13
      go_wp2_with fail
      go_ret
      exact ⟨_, rfl, HB2.out⟩
    · have hf' : decide ((t.fls.length : Int) ≤ 12) = false := by simp; omega
      go_wp2_with fail
      go_ret
      exact ⟨_, rfl, HB1.out⟩
end Go.Proofs.YtpgbckgjlgecpaaGreat
/- contracts: measure.DutyStructure, RestStructure, PairingStructure -/
namespace Go.Proofs.YtpgbckgjlgecpaaGreat
open Go.RowKit Go.Sort
set_option linter.unusedVariables false
set_option linter.unusedSimpArgs false
set_option maxRecDepth 100000
/-- the error of a timetable and a contract, or else e -/
def tcE (t : TTM) (c : ConM) (e : Int) : Int := if valTT t ≠ 0 then valTT t else if valT c ≠ 0 then valT c else e
theorem tcE_t {t : TTM} {c : ConM} {e : Int} (h : valTT t ≠ 0) : tcE t c e = valTT t := if_pos h
theorem tcE_c {t : TTM} {c : ConM} {e : Int} (h : valTT t = 0) (h2 : valT c ≠ 0) : tcE t c e = valT c := by rw [tcE, if_neg (by simpa using h), if_pos h2]
theorem tcE_d {t : TTM} {c : ConM} {e : Int} (h : valTT t = 0) (h2 : valT c = 0) : tcE t c e = e := by rw [tcE, if_neg (by simpa using h), if_neg (by simpa using h2)]

set_option maxHeartbeats 1600000 in
theorem dutyStructM_any (t : TTM) (c : ConM) (za : Option Addr) (zc : Nat) (aa : Option Addr) (ac : Nat) (fa : Option Addr) (fc : Nat) (p : ConP) (hN : NewS t c za zc aa ac fa fc p) (w : World) (hT : TCAt w t c za aa fa p) (d : Duty) (da : Option Addr) (dc : Nat) (hdl : d.length ≤ 140737488355328) (hd : SlAt taskRT w da d) : Calls Tryz.prog 21 #[.agg #[.slice za t.zones.length zc, .slice aa t.airs.length ac, .slice fa t.fls.length fc], .agg #[.int .i64 c.report, .int .i64 c.release, .int .i64 c.connect, .int .i64 c.sit, .int .i64 c.layover, .int .i64 c.nf, .int .i64 c.nt, .slice p.ca c.consts.length p.cc, .slice p.ra c.rules.length p.rc, .slice p.ka c.costs.length p.kc, .slice p.xa c.credit.length p.xc, .slice p.la c.lims.length p.lc, .slice p.oa c.offs.length p.oc, .int .i64 c.guar], .slice da d.length dc] w fun e w' => e = .returned (.int .i64 (tcE t c (dutyE t c d))) ∧ Below w.heap.size w w' := by
  have HT := Lib.hid hT
  have HN := Lib.hid hN
  have Hd := Lib.hid hd
  clear hT hN hd
  go_enter Tryz.func21, Tryz.ntmps21
  go_wp2_with fail
  have HB0 := Lib.hid (Below.then (below_new w (Obj.cells #[.slice za t.zones.length zc, .slice aa t.airs.length ac, .slice fa t.fls.length fc] 26)) (below_new _ (Obj.cells #[.int .i64 c.report, .int .i64 c.release, .int .i64 c.connect, .int .i64 c.sit, .int .i64 c.layover, .int .i64 c.nf, .int .i64 c.nt, .slice p.ca c.consts.length p.cc, .slice p.ra c.rules.length p.rc, .slice p.ka c.costs.length p.kc, .slice p.xa c.credit.length p.xc, .slice p.la c.lims.length p.lc, .slice p.oa c.offs.length p.oc, .int .i64 c.guar] 34)))
  generalize (w.alloc (Obj.cells #[.slice za t.zones.length zc, .slice aa t.airs.length ac, .slice fa t.fls.length fc] 26)).alloc (Obj.cells #[.int .i64 c.report, .int .i64 c.release, .int .i64 c.connect, .int .i64 c.sit, .int .i64 c.layover, .int .i64 c.nf, .int .i64 c.nt, .slice p.ca c.consts.length p.cc, .slice p.ra c.rules.length p.rc, .slice p.ka c.costs.length p.kc, .slice p.xa c.credit.length p.xc, .slice p.la c.lims.length p.lc, .slice p.oa c.offs.length p.oc, .int .i64 c.guar] 34) = W0 at *
  refine (HN.out W0 (HT.out.below HB0.out)).mono ?_
  rintro e w1 ⟨hres, hb1⟩
  have HB1 := Lib.hid (Below.then HB0.out hb1)
  clear hb1 HB0
  rcases hres with ⟨h, rfl⟩ | ⟨h, h2, rfl⟩ | ⟨sb, P, rfl, hs, _, hn⟩
  · have h' : (valTT t != 0) = true := by simpa using h
    have HV := Lib.hid h
    clear h
    go_wp2_with fail
    go_ret
    exact ⟨ret_int (tcE_t HV.out).symm, HB1.out⟩
  · have h' : (valT c != 0) = true := by simpa using h2
    have HV := Lib.hid h
    have HV2 := Lib.hid h2
    clear h h2
    go_wp2_with fail
    go_ret
    exact ⟨ret_int (tcE_c HV.out HV2.out).symm, HB1.out⟩
  · have HS := Lib.hid hs
    clear hs hn
    go_wp2_with fail
    refine (dutyStructure_any w1 sb t c P HS.out d da dc hdl (Hd.out.below HB1.out)).mono ?_
    rintro e w2 ⟨rfl, hb2⟩
    have HB2 := Lib.hid (Below.then HB1.out hb2)
    have HE := Lib.hid (tcE_d (e := dutyE t c d) HS.out.okT HS.out.okC)
    clear hb2
    go_wp2_with fail
    go_ret
    exact ⟨ret_int HE.out.symm, HB2.out⟩

set_option maxHeartbeats 1600000 in
theorem restStructM_any (t : TTM) (c : ConM) (za : Option Addr) (zc : Nat) (aa : Option Addr) (ac : Nat) (fa : Option Addr) (fc : Nat) (p : ConP) (hN : NewS t c za zc aa ac fa fc p) (w : World) (hT : TCAt w t c za aa fa p) (x : Duty) (xa : Option Addr) (xc : Nat) (hxl : x.length ≤ 140737488355328) (hx : SlAt taskRT w xa x) (y : Duty) (ya : Option Addr) (yc : Nat) (hyl : y.length ≤ 140737488355328) (hy : SlAt taskRT w ya y) : Calls Tryz.prog 32 #[.agg #[.slice za t.zones.length zc, .slice aa t.airs.length ac, .slice fa t.fls.length fc], .agg #[.int .i64 c.report, .int .i64 c.release, .int .i64 c.connect, .int .i64 c.sit, .int .i64 c.layover, .int .i64 c.nf, .int .i64 c.nt, .slice p.ca c.consts.length p.cc, .slice p.ra c.rules.length p.rc, .slice p.ka c.costs.length p.kc, .slice p.xa c.credit.length p.xc, .slice p.la c.lims.length p.lc, .slice p.oa c.offs.length p.oc, .int .i64 c.guar], .slice xa x.length xc, .slice ya y.length yc] w fun e w' => e = .returned (.int .i64 (tcE t c (restE t c x y))) ∧ Below w.heap.size w w' := by
  have HT := Lib.hid hT
  have HN := Lib.hid hN
  have Hx := Lib.hid hx
  have Hy := Lib.hid hy
  clear hT hN hx hy
  go_enter Tryz.func32, Tryz.ntmps32
  go_wp2_with fail
  have HB0 := Lib.hid (Below.then (below_new w (Obj.cells #[.slice za t.zones.length zc, .slice aa t.airs.length ac, .slice fa t.fls.length fc] 26)) (below_new _ (Obj.cells #[.int .i64 c.report, .int .i64 c.release, .int .i64 c.connect, .int .i64 c.sit, .int .i64 c.layover, .int .i64 c.nf, .int .i64 c.nt, .slice p.ca c.consts.length p.cc, .slice p.ra c.rules.length p.rc, .slice p.ka c.costs.length p.kc, .slice p.xa c.credit.length p.xc, .slice p.la c.lims.length p.lc, .slice p.oa c.offs.length p.oc, .int .i64 c.guar] 34)))
  generalize (w.alloc (Obj.cells #[.slice za t.zones.length zc, .slice aa t.airs.length ac, .slice fa t.fls.length fc] 26)).alloc (Obj.cells #[.int .i64 c.report, .int .i64 c.release, .int .i64 c.connect, .int .i64 c.sit, .int .i64 c.layover, .int .i64 c.nf, .int .i64 c.nt, .slice p.ca c.consts.length p.cc, .slice p.ra c.rules.length p.rc, .slice p.ka c.costs.length p.kc, .slice p.xa c.credit.length p.xc, .slice p.la c.lims.length p.lc, .slice p.oa c.offs.length p.oc, .int .i64 c.guar] 34) = W0 at *
  refine (HN.out W0 (HT.out.below HB0.out)).mono ?_
  rintro e w1 ⟨hres, hb1⟩
  have HB1 := Lib.hid (Below.then HB0.out hb1)
  clear hb1 HB0
  rcases hres with ⟨h, rfl⟩ | ⟨h, h2, rfl⟩ | ⟨sb, P, rfl, hs, _, hn⟩
  · have h' : (valTT t != 0) = true := by simpa using h
    have HV := Lib.hid h
    clear h
    go_wp2_with fail
    go_ret
    exact ⟨ret_int (tcE_t HV.out).symm, HB1.out⟩
  · have h' : (valT c != 0) = true := by simpa using h2
    have HV := Lib.hid h
    have HV2 := Lib.hid h2
    clear h h2
    go_wp2_with fail
    go_ret
    exact ⟨ret_int (tcE_c HV.out HV2.out).symm, HB1.out⟩
  · have HS := Lib.hid hs
    clear hs hn
    go_wp2_with fail
    refine (restStructure_any w1 sb t c P HS.out x y xa ya xc yc hxl hyl (Hx.out.below HB1.out) (Hy.out.below HB1.out)).mono ?_
    rintro e w2 ⟨rfl, hb2⟩
    have HB2 := Lib.hid (Below.then HB1.out hb2)
    have HE := Lib.hid (tcE_d (e := restE t c x y) HS.out.okT HS.out.okC)
    clear hb2
    go_wp2_with fail
    go_ret
    exact ⟨ret_int HE.out.symm, HB2.out⟩

set_option maxHeartbeats 1600000 in
theorem pairStructM_any (t : TTM) (c : ConM) (za : Option Addr) (zc : Nat) (aa : Option Addr) (ac : Nat) (fa : Option Addr) (fc : Nat) (p : ConP) (hN : NewS t c za zc aa ac fa fc p) (w : World) (hT : TCAt w t c za aa fa p) (s : ByteArray) (L : List Duty) (la : Option Addr) (lc : Nat) (hLl : L.length ≤ 140737488355328) (hL : SlAt dutyRT w la L) : Calls Tryz.prog 12 #[.agg #[.slice za t.zones.length zc, .slice aa t.airs.length ac, .slice fa t.fls.length fc], .agg #[.int .i64 c.report, .int .i64 c.release, .int .i64 c.connect, .int .i64 c.sit, .int .i64 c.layover, .int .i64 c.nf, .int .i64 c.nt, .slice p.ca c.consts.length p.cc, .slice p.ra c.rules.length p.rc, .slice p.ka c.costs.length p.kc, .slice p.xa c.credit.length p.xc, .slice p.la c.lims.length p.lc, .slice p.oa c.offs.length p.oc, .int .i64 c.guar], .agg #[.string s, .slice la L.length lc]] w fun e w' => e = .returned (.int .i64 (tcE t c (pairE t c s L))) ∧ Below w.heap.size w w' := by
  have HT := Lib.hid hT
  have HN := Lib.hid hN
  have HL := Lib.hid hL
  clear hT hN hL
  go_enter Tryz.func12, Tryz.ntmps12
  go_wp2_with fail
  have HB0 := Lib.hid (Below.then (Below.then (below_new w (Obj.cells #[.slice za t.zones.length zc, .slice aa t.airs.length ac, .slice fa t.fls.length fc] 26)) (below_new _ (Obj.cells #[.int .i64 c.report, .int .i64 c.release, .int .i64 c.connect, .int .i64 c.sit, .int .i64 c.layover, .int .i64 c.nf, .int .i64 c.nt, .slice p.ca c.consts.length p.cc, .slice p.ra c.rules.length p.rc, .slice p.ka c.costs.length p.kc, .slice p.xa c.credit.length p.xc, .slice p.la c.lims.length p.lc, .slice p.oa c.offs.length p.oc, .int .i64 c.guar] 34))) (below_new _ (Obj.cells #[.string s, .slice la L.length lc] 37)))
  have Q0 := Lib.hid (heap_new ((w.alloc (Obj.cells #[.slice za t.zones.length zc, .slice aa t.airs.length ac, .slice fa t.fls.length fc] 26)).alloc (Obj.cells #[.int .i64 c.report, .int .i64 c.release, .int .i64 c.connect, .int .i64 c.sit, .int .i64 c.layover, .int .i64 c.nf, .int .i64 c.nt, .slice p.ca c.consts.length p.cc, .slice p.ra c.rules.length p.rc, .slice p.ka c.costs.length p.kc, .slice p.xa c.credit.length p.xc, .slice p.la c.lims.length p.lc, .slice p.oa c.offs.length p.oc, .int .i64 c.guar] 34)) (Obj.cells #[.string s, .slice la L.length lc] 37))
  rw [alloc_size, alloc_size] at Q0
  generalize ((w.alloc (Obj.cells #[.slice za t.zones.length zc, .slice aa t.airs.length ac, .slice fa t.fls.length fc] 26)).alloc (Obj.cells #[.int .i64 c.report, .int .i64 c.release, .int .i64 c.connect, .int .i64 c.sit, .int .i64 c.layover, .int .i64 c.nf, .int .i64 c.nt, .slice p.ca c.consts.length p.cc, .slice p.ra c.rules.length p.rc, .slice p.ka c.costs.length p.kc, .slice p.xa c.credit.length p.xc, .slice p.la c.lims.length p.lc, .slice p.oa c.offs.length p.oc, .int .i64 c.guar] 34)).alloc (Obj.cells #[.string s, .slice la L.length lc] 37) = W0 at *
  refine (HN.out W0 (HT.out.below HB0.out)).mono ?_
  rintro e w1 ⟨hres, hb1⟩
  have HB1 := Lib.hid (Below.then HB0.out hb1)
  have Q1 := Lib.hid ((hb1.block _ (lt_of_block Q0.out)).trans Q0.out)
  clear hb1 HB0
  rcases hres with ⟨h, rfl⟩ | ⟨h, h2, rfl⟩ | ⟨sb, P, rfl, hs, _, hn⟩
  · have h' : (valTT t != 0) = true := by simpa using h
    have HV := Lib.hid h
    clear h
    go_wp2_with fail
    go_ret
    exact ⟨ret_int (tcE_t HV.out).symm, HB1.out⟩
  · have h' : (valT c != 0) = true := by simpa using h2
    have HV := Lib.hid h
    have HV2 := Lib.hid h2
    clear h h2
    go_wp2_with fail
    go_ret
    exact ⟨ret_int (tcE_c HV.out HV2.out).symm, HB1.out⟩
  · have HS := Lib.hid hs
    clear hs hn
    have q0 : w1.cell? ⟨w.heap.size + 1 + 1, 0, none⟩ = some (.string s) := cellW (j := 0) Q1.out rfl
    have q1 : w1.cell? ⟨w.heap.size + 1 + 1, 1, none⟩ = some (.slice la L.length lc) := cellW (j := 1) Q1.out rfl
    have ql := lt_of_block Q1.out
    go_wp2_with fail
    refine (pairingStructure_any w1 sb t c P HS.out s L la lc hLl (HL.out.below HB1.out)).mono ?_
    rintro e w2 ⟨rfl, hb2⟩
    have HB2 := Lib.hid (Below.then HB1.out hb2)
    have HE := Lib.hid (tcE_d (e := pairE t c s L) HS.out.okT HS.out.okC)
    clear hb2
    go_wp2_with fail
    go_ret
    exact ⟨ret_int HE.out.symm, HB2.out⟩
end Go.Proofs.YtpgbckgjlgecpaaGreat
