/- merged texts: Nw Aw0 Aw1 Aw2 -/
import Derived.Deep.DeepCutAuto
import Derived.StillTailTactics
import Derived.Deep.DrawnRows
import Derived.Test.YtpgbckgjlgecpaaGreatG6
import Derived.Test.YtpgbckgjlgecpaaGreatG5
import Derived.Test.YtpgbckgjlgecpaaGreatG7
/- contract: setting.New -/
namespace Go.Proofs.YtpgbckgjlgecpaaGreat
open Go.RowKit Go.Sort
set_option linter.unusedVariables false
set_option linter.unusedSimpArgs false
set_option maxRecDepth 100000
set_option maxHeartbeats 6400000 in
theorem new_nil (t : TTM) (za aa fa : Option Addr) (zc ac fc : Nat) (c : ConM) (p : ConP) (e1 : c.rules = []) (e2 : c.costs = []) (e3 : c.credit = []) :
    NewS t c za zc aa ac fa fc p := by
  intro w hT
  obtain ⟨hz, ha, hf, hc⟩ := hT
  have HZ := Lib.hid hz
  have HA := Lib.hid ha
  have HF := Lib.hid hf
  have HC := Lib.hid hc
  have E1 := Lib.hid e1
  have E2 := Lib.hid e2
  have E3 := Lib.hid e3
  clear hz ha hf hc e1 e2 e3
  have mkZ := mkMapZ
  go_enter Tryz.func47, Tryz.ntmps47
  go_wp2_with fail
  have HB0 := Lib.hid (Below.then (below_new w (Obj.cells #[Value.slice za t.zones.length zc, Value.slice aa t.airs.length ac, Value.slice fa t.fls.length fc] 26)) (below_new _ (Obj.cells #[Value.int .i64 c.report, Value.int .i64 c.release, Value.int .i64 c.connect, Value.int .i64 c.sit, Value.int .i64 c.layover, Value.int .i64 c.nf, Value.int .i64 c.nt, Value.slice p.ca c.consts.length p.cc, Value.slice p.ra c.rules.length p.rc, Value.slice p.ka c.costs.length p.kc, Value.slice p.xa c.credit.length p.xc, Value.slice p.la c.lims.length p.lc, Value.slice p.oa c.offs.length p.oc, Value.int .i64 c.guar] 34)))
  have T0 := Lib.hid (one_alloc (o' := Obj.cells #[Value.int .i64 c.report, Value.int .i64 c.release, Value.int .i64 c.connect, Value.int .i64 c.sit, Value.int .i64 c.layover, Value.int .i64 c.nf, Value.int .i64 c.nt, Value.slice p.ca c.consts.length p.cc, Value.slice p.ra c.rules.length p.rc, Value.slice p.ka c.costs.length p.kc, Value.slice p.xa c.credit.length p.xc, Value.slice p.la c.lims.length p.lc, Value.slice p.oa c.offs.length p.oc, Value.int .i64 c.guar] 34) (heap_new w (Obj.cells #[Value.slice za t.zones.length zc, Value.slice aa t.airs.length ac, Value.slice fa t.fls.length fc] 26)))
  have C0 := Lib.hid (heap_new (w.alloc (Obj.cells #[Value.slice za t.zones.length zc, Value.slice aa t.airs.length ac, Value.slice fa t.fls.length fc] 26)) (Obj.cells #[Value.int .i64 c.report, Value.int .i64 c.release, Value.int .i64 c.connect, Value.int .i64 c.sit, Value.int .i64 c.layover, Value.int .i64 c.nf, Value.int .i64 c.nt, Value.slice p.ca c.consts.length p.cc, Value.slice p.ra c.rules.length p.rc, Value.slice p.ka c.costs.length p.kc, Value.slice p.xa c.credit.length p.xc, Value.slice p.la c.lims.length p.lc, Value.slice p.oa c.offs.length p.oc, Value.int .i64 c.guar] 34))
  rw [alloc_size] at C0
  obtain ⟨tb, htb⟩ : ∃ tb, tb = w.heap.size := ⟨_, rfl⟩
  obtain ⟨cb, hcb⟩ : ∃ cb, cb = w.heap.size + 1 := ⟨_, rfl⟩
  rw [← htb] at T0
  rw [← hcb] at C0
  simp only [← hcb]
  simp only [← htb]
  have HTB := Lib.hid htb
  have HCB := Lib.hid hcb
  clear htb hcb
  generalize (w.alloc (Obj.cells #[Value.slice za t.zones.length zc, Value.slice aa t.airs.length ac, Value.slice fa t.fls.length fc] 26)).alloc (Obj.cells #[Value.int .i64 c.report, Value.int .i64 c.release, Value.int .i64 c.connect, Value.int .i64 c.sit, Value.int .i64 c.layover, Value.int .i64 c.nf, Value.int .i64 c.nt, Value.slice p.ca c.consts.length p.cc, Value.slice p.ra c.rules.length p.rc, Value.slice p.ka c.costs.length p.kc, Value.slice p.xa c.credit.length p.xc, Value.slice p.la c.lims.length p.lc, Value.slice p.oa c.offs.length p.oc, Value.int .i64 c.guar] 34) = W0 at *
  refine (validateTT_any t za aa fa zc ac fc W0 (HZ.out.below HB0.out) (HA.out.below HB0.out) (HF.out.below HB0.out)).mono ?_
  rintro e w1 ⟨rfl, hb1⟩
  by_cases hv : valTT t = 0
  case neg =>
    have hv' : (valTT t != 0) = true := by simpa using hv
    have HV := Lib.hid hv
    have HB1 := Lib.hid (Below.then HB0.out hb1)
    clear hv hb1
    go_wp2_with fail
    go_ret2
    exact ⟨.badT HV.out rfl, HB1.out⟩
  case pos =>
    have HV := Lib.hid hv
    have HB1 := Lib.hid (Below.then HB0.out hb1)
    have T1 := Lib.hid ((hb1.block _ (lt_of_block T0.out)).trans T0.out)
    have C1 := Lib.hid ((hb1.block _ (lt_of_block C0.out)).trans C0.out)
    rw [hv]
    clear hv hb1 T0 C0 HB0
    clear W0
    have c1_0 : w1.cell? ⟨cb, 0, none⟩ = some (Value.int .i64 c.report) := cellW (j := 0) C1.out rfl
    have c1_1 : w1.cell? ⟨cb, 1, none⟩ = some (Value.int .i64 c.release) := cellW (j := 1) C1.out rfl
    have c1_2 : w1.cell? ⟨cb, 2, none⟩ = some (Value.int .i64 c.connect) := cellW (j := 2) C1.out rfl
    have c1_3 : w1.cell? ⟨cb, 3, none⟩ = some (Value.int .i64 c.sit) := cellW (j := 3) C1.out rfl
    have c1_4 : w1.cell? ⟨cb, 4, none⟩ = some (Value.int .i64 c.layover) := cellW (j := 4) C1.out rfl
    have c1_5 : w1.cell? ⟨cb, 5, none⟩ = some (Value.int .i64 c.nf) := cellW (j := 5) C1.out rfl
    have c1_6 : w1.cell? ⟨cb, 6, none⟩ = some (Value.int .i64 c.nt) := cellW (j := 6) C1.out rfl
    have c1_7 : w1.cell? ⟨cb, 7, none⟩ = some (Value.slice p.ca c.consts.length p.cc) := cellW (j := 7) C1.out rfl
    have c1_8 : w1.cell? ⟨cb, 8, none⟩ = some (Value.slice p.ra c.rules.length p.rc) := cellW (j := 8) C1.out rfl
    have c1_9 : w1.cell? ⟨cb, 9, none⟩ = some (Value.slice p.ka c.costs.length p.kc) := cellW (j := 9) C1.out rfl
    have c1_10 : w1.cell? ⟨cb, 10, none⟩ = some (Value.slice p.xa c.credit.length p.xc) := cellW (j := 10) C1.out rfl
    have c1_11 : w1.cell? ⟨cb, 11, none⟩ = some (Value.slice p.la c.lims.length p.lc) := cellW (j := 11) C1.out rfl
    have c1_12 : w1.cell? ⟨cb, 12, none⟩ = some (Value.slice p.oa c.offs.length p.oc) := cellW (j := 12) C1.out rfl
    have c1_13 : w1.cell? ⟨cb, 13, none⟩ = some (Value.int .i64 c.guar) := cellW (j := 13) C1.out rfl
    have hcl := lt_of_block C1.out
    go_wp2_with fail
    refine (validateT_any c p w1 w.heap.size HB1.out.size (HC.out.keep HB1.out)).mono ?_
    rintro e w2 ⟨rfl, hb2⟩
    clear c1_0 c1_1 c1_2 c1_3 c1_4 c1_5 c1_6 c1_7 c1_8 c1_9 c1_10 c1_11 c1_12 c1_13 hcl
    by_cases hv : valT c = 0
    case neg =>
      have hv' : (valT c != 0) = true := by simpa using hv
      have HV2 := Lib.hid hv
      have HB2 := Lib.hid (Below.then HB1.out hb2)
      clear hv hb2
      go_wp2_with fail
      go_ret2
      exact ⟨.badC HV.out HV2.out rfl, HB2.out⟩
    case pos =>
      have HV2 := Lib.hid hv
      have HB2 := Lib.hid (Below.then HB1.out hb2)
      have T2 := Lib.hid ((hb2.block _ (lt_of_block T1.out)).trans T1.out)
      have C2 := Lib.hid ((hb2.block _ (lt_of_block C1.out)).trans C1.out)
      rw [hv]
      clear hv hb2 T1 C1 HB1
      clear w1
      have c2_0 : w2.cell? ⟨cb, 0, none⟩ = some (Value.int .i64 c.report) := cellW (j := 0) C2.out rfl
      have c2_1 : w2.cell? ⟨cb, 1, none⟩ = some (Value.int .i64 c.release) := cellW (j := 1) C2.out rfl
      have c2_2 : w2.cell? ⟨cb, 2, none⟩ = some (Value.int .i64 c.connect) := cellW (j := 2) C2.out rfl
      have c2_3 : w2.cell? ⟨cb, 3, none⟩ = some (Value.int .i64 c.sit) := cellW (j := 3) C2.out rfl
      have c2_4 : w2.cell? ⟨cb, 4, none⟩ = some (Value.int .i64 c.layover) := cellW (j := 4) C2.out rfl
      have c2_5 : w2.cell? ⟨cb, 5, none⟩ = some (Value.int .i64 c.nf) := cellW (j := 5) C2.out rfl
      have c2_6 : w2.cell? ⟨cb, 6, none⟩ = some (Value.int .i64 c.nt) := cellW (j := 6) C2.out rfl
      have c2_7 : w2.cell? ⟨cb, 7, none⟩ = some (Value.slice p.ca c.consts.length p.cc) := cellW (j := 7) C2.out rfl
      have c2_8 : w2.cell? ⟨cb, 8, none⟩ = some (Value.slice p.ra c.rules.length p.rc) := cellW (j := 8) C2.out rfl
      have c2_9 : w2.cell? ⟨cb, 9, none⟩ = some (Value.slice p.ka c.costs.length p.kc) := cellW (j := 9) C2.out rfl
      have c2_10 : w2.cell? ⟨cb, 10, none⟩ = some (Value.slice p.xa c.credit.length p.xc) := cellW (j := 10) C2.out rfl
      have c2_11 : w2.cell? ⟨cb, 11, none⟩ = some (Value.slice p.la c.lims.length p.lc) := cellW (j := 11) C2.out rfl
      have c2_12 : w2.cell? ⟨cb, 12, none⟩ = some (Value.slice p.oa c.offs.length p.oc) := cellW (j := 12) C2.out rfl
      have c2_13 : w2.cell? ⟨cb, 13, none⟩ = some (Value.int .i64 c.guar) := cellW (j := 13) C2.out rfl
      have t2_0 : w2.cell? ⟨tb, 0, none⟩ = some (Value.slice za t.zones.length zc) := cellW (j := 0) T2.out rfl
      have t2_1 : w2.cell? ⟨tb, 1, none⟩ = some (Value.slice aa t.airs.length ac) := cellW (j := 1) T2.out rfl
      have t2_2 : w2.cell? ⟨tb, 2, none⟩ = some (Value.slice fa t.fls.length fc) := cellW (j := 2) T2.out rfl
      have hcl := lt_of_block C2.out
      have htl := lt_of_block T2.out
      go_upto_region 9 with fail
      have HB3 := Lib.hid (Below.then HB2.out (Below.then (Below.then (below_new w2 (Obj.map #[] 0)) (below_new _ (Obj.cells #[Value.slice za t.zones.length zc, Value.slice aa t.airs.length ac, Value.slice fa t.fls.length fc, Value.int .i64 c.report, Value.int .i64 c.release, Value.int .i64 c.connect, Value.int .i64 c.sit, Value.int .i64 c.layover, Value.int .i64 c.nf, Value.int .i64 c.nt, Value.slice p.ca c.consts.length p.cc, Value.slice p.ra c.rules.length p.rc, Value.slice p.ka c.costs.length p.kc, Value.slice p.xa c.credit.length p.xc, Value.slice p.la c.lims.length p.lc, Value.slice p.oa c.offs.length p.oc, Value.int .i64 c.guar, Value.map (some w2.heap.size), Value.slice none 0 0, Value.slice none 0 0, Value.slice none 0 0, Value.slice none 0 0, Value.slice none 0 0, Value.slice none 0 0, Value.slice none 0 0, Value.slice none 0 0, Value.slice none 0 0, Value.bool false] 146))) (below_new _ (Obj.map #[] 0))))
      have T3 := Lib.hid (one_alloc (o' := Obj.map #[] 0) (one_alloc (o' := Obj.cells #[Value.slice za t.zones.length zc, Value.slice aa t.airs.length ac, Value.slice fa t.fls.length fc, Value.int .i64 c.report, Value.int .i64 c.release, Value.int .i64 c.connect, Value.int .i64 c.sit, Value.int .i64 c.layover, Value.int .i64 c.nf, Value.int .i64 c.nt, Value.slice p.ca c.consts.length p.cc, Value.slice p.ra c.rules.length p.rc, Value.slice p.ka c.costs.length p.kc, Value.slice p.xa c.credit.length p.xc, Value.slice p.la c.lims.length p.lc, Value.slice p.oa c.offs.length p.oc, Value.int .i64 c.guar, Value.map (some w2.heap.size), Value.slice none 0 0, Value.slice none 0 0, Value.slice none 0 0, Value.slice none 0 0, Value.slice none 0 0, Value.slice none 0 0, Value.slice none 0 0, Value.slice none 0 0, Value.slice none 0 0, Value.bool false] 146) (one_alloc (o' := Obj.map #[] 0) T2.out)))
      have C3 := Lib.hid (one_alloc (o' := Obj.map #[] 0) (one_alloc (o' := Obj.cells #[Value.slice za t.zones.length zc, Value.slice aa t.airs.length ac, Value.slice fa t.fls.length fc, Value.int .i64 c.report, Value.int .i64 c.release, Value.int .i64 c.connect, Value.int .i64 c.sit, Value.int .i64 c.layover, Value.int .i64 c.nf, Value.int .i64 c.nt, Value.slice p.ca c.consts.length p.cc, Value.slice p.ra c.rules.length p.rc, Value.slice p.ka c.costs.length p.kc, Value.slice p.xa c.credit.length p.xc, Value.slice p.la c.lims.length p.lc, Value.slice p.oa c.offs.length p.oc, Value.int .i64 c.guar, Value.map (some w2.heap.size), Value.slice none 0 0, Value.slice none 0 0, Value.slice none 0 0, Value.slice none 0 0, Value.slice none 0 0, Value.slice none 0 0, Value.slice none 0 0, Value.slice none 0 0, Value.slice none 0 0, Value.bool false] 146) (one_alloc (o' := Obj.map #[] 0) C2.out)))
      have S3 := Lib.hid (one_alloc (o' := Obj.map #[] 0) (heap_new (w2.alloc (Obj.map #[] 0)) (Obj.cells #[Value.slice za t.zones.length zc, Value.slice aa t.airs.length ac, Value.slice fa t.fls.length fc, Value.int .i64 c.report, Value.int .i64 c.release, Value.int .i64 c.connect, Value.int .i64 c.sit, Value.int .i64 c.layover, Value.int .i64 c.nf, Value.int .i64 c.nt, Value.slice p.ca c.consts.length p.cc, Value.slice p.ra c.rules.length p.rc, Value.slice p.ka c.costs.length p.kc, Value.slice p.xa c.credit.length p.xc, Value.slice p.la c.lims.length p.lc, Value.slice p.oa c.offs.length p.oc, Value.int .i64 c.guar, Value.map (some w2.heap.size), Value.slice none 0 0, Value.slice none 0 0, Value.slice none 0 0, Value.slice none 0 0, Value.slice none 0 0, Value.slice none 0 0, Value.slice none 0 0, Value.slice none 0 0, Value.slice none 0 0, Value.bool false] 146)))
      have MZ := Lib.hid (((MapOf.made Tryz.prog w2 .string).alloc (Obj.cells #[Value.slice za t.zones.length zc, Value.slice aa t.airs.length ac, Value.slice fa t.fls.length fc, Value.int .i64 c.report, Value.int .i64 c.release, Value.int .i64 c.connect, Value.int .i64 c.sit, Value.int .i64 c.layover, Value.int .i64 c.nf, Value.int .i64 c.nt, Value.slice p.ca c.consts.length p.cc, Value.slice p.ra c.rules.length p.rc, Value.slice p.ka c.costs.length p.kc, Value.slice p.xa c.credit.length p.xc, Value.slice p.la c.lims.length p.lc, Value.slice p.oa c.offs.length p.oc, Value.int .i64 c.guar, Value.map (some w2.heap.size), Value.slice none 0 0, Value.slice none 0 0, Value.slice none 0 0, Value.slice none 0 0, Value.slice none 0 0, Value.slice none 0 0, Value.slice none 0 0, Value.slice none 0 0, Value.slice none 0 0, Value.bool false] 146)).alloc (Obj.map #[] 0))
      have MN := Lib.hid (MapOf.made Tryz.prog ((w2.alloc (Obj.map #[] 0)).alloc (Obj.cells #[Value.slice za t.zones.length zc, Value.slice aa t.airs.length ac, Value.slice fa t.fls.length fc, Value.int .i64 c.report, Value.int .i64 c.release, Value.int .i64 c.connect, Value.int .i64 c.sit, Value.int .i64 c.layover, Value.int .i64 c.nf, Value.int .i64 c.nt, Value.slice p.ca c.consts.length p.cc, Value.slice p.ra c.rules.length p.rc, Value.slice p.ka c.costs.length p.kc, Value.slice p.xa c.credit.length p.xc, Value.slice p.la c.lims.length p.lc, Value.slice p.oa c.offs.length p.oc, Value.int .i64 c.guar, Value.map (some w2.heap.size), Value.slice none 0 0, Value.slice none 0 0, Value.slice none 0 0, Value.slice none 0 0, Value.slice none 0 0, Value.slice none 0 0, Value.slice none 0 0, Value.slice none 0 0, Value.slice none 0 0, Value.bool false] 146)) .string)
      rw [alloc_size] at S3
      rw [alloc_size, alloc_size] at MN
      obtain ⟨zb, hzb⟩ : ∃ zb, zb = w2.heap.size := ⟨_, rfl⟩
      obtain ⟨sb, hsb⟩ : ∃ sb, sb = w2.heap.size + 1 := ⟨_, rfl⟩
      obtain ⟨nb, hnb⟩ : ∃ nb, nb = w2.heap.size + 1 + 1 := ⟨_, rfl⟩
      rw [← hnb] at MN
      rw [← hsb] at S3
      simp only [← hnb]
      simp only [← hsb]
      have hw2 := HB2.out.size
      have ht0 := HTB.out
      have hc0 := HCB.out
      have o1 : tb < zb := by omega
      have o2 : cb < zb := by omega
      have o3 : w.heap.size ≤ zb := by omega
      have o4 : zb < sb := by omega
      have o5 : sb < nb := by omega
      have hg2 : w2.alloc (Obj.map #[] 0) = w2.alloc (Obj.map #[] 0) := rfl
      generalize hW3 : ((w2.alloc (Obj.map #[] 0)).alloc (Obj.cells #[Value.slice za t.zones.length zc, Value.slice aa t.airs.length ac, Value.slice fa t.fls.length fc, Value.int .i64 c.report, Value.int .i64 c.release, Value.int .i64 c.connect, Value.int .i64 c.sit, Value.int .i64 c.layover, Value.int .i64 c.nf, Value.int .i64 c.nt, Value.slice p.ca c.consts.length p.cc, Value.slice p.ra c.rules.length p.rc, Value.slice p.ka c.costs.length p.kc, Value.slice p.xa c.credit.length p.xc, Value.slice p.la c.lims.length p.lc, Value.slice p.oa c.offs.length p.oc, Value.int .i64 c.guar, Value.map (some w2.heap.size), Value.slice none 0 0, Value.slice none 0 0, Value.slice none 0 0, Value.slice none 0 0, Value.slice none 0 0, Value.slice none 0 0, Value.slice none 0 0, Value.slice none 0 0, Value.slice none 0 0, Value.bool false] 146)).alloc (Obj.map #[] 0) = W3 at *
      simp only [← hzb] at *
      clear hW3 hg2 hzb hsb hnb ht0 hc0 hw2 c2_0 c2_1 c2_2 c2_3 c2_4 c2_5 c2_6 c2_7 c2_8 c2_9 c2_10 c2_11 c2_12 c2_13 t2_0 t2_1 t2_2 hcl htl T2 C2 HB2
      clear w2
      have t3_0 : W3.cell? ⟨tb, 0, none⟩ = some (.slice za t.zones.length zc) := cellW (j := 0) T3.out rfl
      have htl := lt_of_block T3.out
      have hzl := (valTT_len HV.out).1
      have hal := (valTT_len HV.out).2.1
      go_wp2_with fail
      clear t3_0 htl
      go_loopw [42] (fun i wr => ∃ (k : Nat) (M : List (Value × Value)), k ≤ t.zones.length ∧ i = .int .i64 k ∧ Hid (MapOf Tryz.prog wr nb .string M) ∧ Hid (ZMapOf w M (t.zones.take k)) ∧ Hid (W3.grownBy wr (some nb))) (fun i _ => t.zones.length - (intOf i).toNat)
      case atStart => exact ⟨0, [], Nat.zero_le _, rfl, MN, Lib.hid (ZMapOf.nil w), Lib.hid (grown_below _ (Below.refl _ _))⟩
      clear MN
      case round =>
        obtain ⟨k, M, hk, rfl, hM, hZM, hgr⟩ := hrel
        have HBr := Lib.hid (HB3.out.grown hgr.out HB3.out.size (fun j hj => by cases hj; omega))
        by_cases hlt : k < t.zones.length
        · obtain ⟨b, off, rfl, hb, hcs⟩ := zone_cells HZ.out (by omega)
          obtain ⟨sa, scap, c0, c1, c2, hn0, hn1, hsh⟩ := hcs k hlt
          have d0 := below_cell c0 hb HBr.out
          have d1 := below_cell c1 hb HBr.out
          have d2 := below_cell c2 hb HBr.out
          have hbr := Nat.lt_of_lt_of_le hb HBr.out.size
          obtain ⟨w4, P1, M4, g4⟩ := put_zone (hM.out.alloc (Obj.cells #[.string (zAt t.zones k).name, .int .i64 (zAt t.zones k).off, .slice sa (zAt t.zones k).sh.length scap] 85)) (zAt t.zones k).name (.agg #[.string (zAt t.zones k).name, .int .i64 (zAt t.zones k).off, .slice sa (zAt t.zones k).sh.length scap])
          have HM4 := Lib.hid M4
          have HZ4 := Lib.hid (show ZMapOf w (mput M (.string (zAt t.zones k).name) (.agg #[.string (zAt t.zones k).name, .int .i64 (zAt t.zones k).off, .slice sa (zAt t.zones k).sh.length scap])) (t.zones.take (k + 1)) by rw [take_z _ _ hlt]; exact hZM.out.put _ ⟨sa, scap, rfl, hsh, hn0, hn1⟩)
          have HG4 := Lib.hid (Lib.grownBy_trans (Lib.grownBy_trans hgr.out (grown_below (some nb) (below_new wr (Obj.cells #[.string (zAt t.zones k).name, .int .i64 (zAt t.zones k).off, .slice sa (zAt t.zones k).sh.length scap] 85)))) g4)
          clear M4 g4 hcs c0 c1 c2 hsh hM hZM hgr
          go_wp2_with fail
          go_roundw
          case rel => exact ⟨k + 1, _, by omega, by go_num, HM4, HZ4, HG4⟩
          case measure => simp [intOf]; omega
        · obtain rfl : k = t.zones.length := by omega
          rw [List.take_length] at hZM
          have T4 := Lib.hid ((hgr.out.block _ (lt_of_block T3.out) (by simp; omega)).trans T3.out)
          have C4 := Lib.hid ((hgr.out.block _ (lt_of_block C3.out) (by simp; omega)).trans C3.out)
          have S4 := Lib.hid ((hgr.out.block _ (lt_of_block S3.out) (by simp; omega)).trans S3.out)
          have MZ4 := Lib.hid (MZ.out.grown hgr.out (by simp; omega))
          clear T3 C3 S3 MZ HB3 hgr
          obtain ⟨W4, rfl⟩ : ∃ W4 : World, W4 = wr := ⟨_, rfl⟩
          have t4_1 : W4.cell? ⟨tb, 1, none⟩ = some (.slice aa t.airs.length ac) := cellW (j := 1) T4.out rfl
          have htl := lt_of_block T4.out
          go_wp2_with fail
          clear t4_1 htl
          go_loopw [54] (fun i wr => ∃ (k : Nat) (N : List (Value × Value)), k ≤ t.airs.length ∧ i = .int .i64 k ∧ Hid (MapOf Tryz.prog wr zb .string N) ∧ Hid (AMapOf w N t.zones (t.airs.take k)) ∧ Hid (W4.grownBy wr (some zb))) (fun i _ => t.airs.length - (intOf i).toNat)
          case atStart => exact ⟨0, [], Nat.zero_le _, rfl, MZ4, Lib.hid (AMapOf.nil w _), Lib.hid (grown_below _ (Below.refl _ _))⟩
          clear MZ4
          case round =>
            obtain ⟨k, N, hk, rfl, hN, hAM, hgr⟩ := hrel
            have HB5 := Lib.hid (HBr.out.grown hgr.out HBr.out.size (fun j hj => by cases hj; omega))
            by_cases hlt : k < t.airs.length
            · obtain ⟨b, off, rfl, hb, hcs⟩ := air_cells HA.out (by omega)
              obtain ⟨c0, c1, hn0, hn1⟩ := hcs k hlt
              have d0 := below_cell c0 hb HB5.out
              have d1 := below_cell c1 hb HB5.out
              have hbr := Nat.lt_of_lt_of_le hb HB5.out.size
              clear hcs c0 c1
              have G1 := Lib.grownBy_trans hgr.out (grown_below (some zb) (below_new wr (Obj.cells #[.string (aAt t.airs k).code, .string (aAt t.airs k).zone] 88)))
              have A1 := Lib.hid (heap_new wr (Obj.cells #[.string (aAt t.airs k).code, .string (aAt t.airs k).zone] 88))
              have N1 := Lib.hid (hN.out.alloc (Obj.cells #[.string (aAt t.airs k).code, .string (aAt t.airs k).zone] 88))
              have S5 := Lib.hid ((G1.block _ (lt_of_block S4.out) (by simp; omega)).trans S4.out)
              have M5 := Lib.hid (hM.out.grown G1 (by simp; omega))
              have HG1 := Lib.hid G1
              clear G1 hN hgr
              go_wp2_with fail
              generalize wr.alloc (Obj.cells #[.string (aAt t.airs k).code, .string (aAt t.airs k).zone] 88) = W5 at *
              have z1 : W5.drew.cell? ⟨sb, 17, none⟩ = some (.map (some zb)) := cellW S5.out rfl
              have z2 : W5.drew.cell? ⟨wr.heap.size, 0, none⟩ = some (.string (aAt t.airs k).code) := cellW A1.out rfl
              have z3 : W5.drew.cell? ⟨wr.heap.size, 1, none⟩ = some (.string (aAt t.airs k).zone) := cellW A1.out rfl
              have z1' : W5.cell? ⟨sb, 17, none⟩ = some (.map (some zb)) := cellW S5.out rfl
              have z2' : W5.cell? ⟨wr.heap.size, 0, none⟩ = some (.string (aAt t.airs k).code) := cellW A1.out rfl
              have z3' : W5.cell? ⟨wr.heap.size, 1, none⟩ = some (.string (aAt t.airs k).zone) := cellW A1.out rfl
              obtain ⟨v, L1, hv⟩ := look_name (w := W5.drew) (M5.out.below (Below.refl _ _).drew) hZM.out (aAt t.airs k).zone
              obtain ⟨w6, P1, N6, g6⟩ := put_zone (w := W5.drew) (N1.out.below (Below.refl _ _).drew) (aAt t.airs k).code v
              have HN6 := Lib.hid N6
              have HA6 := Lib.hid (show AMapOf w (mput N (.string (aAt t.airs k).code) v) t.zones (t.airs.take (k + 1)) by rw [take_a _ _ hlt]; exact hAM.out.put _ hv)
              have HG6 := Lib.hid (Lib.grownBy_trans (grownBy_drewn HG1.out) g6)
              clear N6 g6 hv hAM
              go_still_tail 10, (by kernel_rfl)
              change wpList _ _ _ _ _ W5.drew
              go_wp2_with fail
              go_roundw
              case rel => exact ⟨k + 1, _, by omega, by go_num, HN6, HA6, HG6⟩
              case measure => simp [intOf]; omega
            · obtain rfl : k = t.airs.length := by omega
              rw [List.take_length] at hAM
              have C5 := Lib.hid ((hgr.out.block _ (lt_of_block C4.out) (by simp; omega)).trans C4.out)
              have S5 := Lib.hid ((hgr.out.block _ (lt_of_block S4.out) (by simp; omega)).trans S4.out)
              have ZN5 := Lib.hid (AMapOf.zones hN.out hAM.out HB5.out)
              clear T4 C4 S4 HBr hgr hN hAM hM hZM
              obtain ⟨W5, rfl⟩ : ∃ W5 : World, W5 = wr := ⟨_, rfl⟩
              have c5_7 : W5.cell? ⟨cb, 7, none⟩ = some (.slice p.ca c.consts.length p.cc) := cellW (j := 7) C5.out rfl
              have hcl := lt_of_block C5.out
              go_wp2_with fail
              refine (newCompiler_any c.consts p.ca p.cc W5 w.heap.size HB5.out.size (HC.out.keep HB5.out).consts).mono ?_
              rintro e w6 ⟨kp, ib, vb, ps, rfl, hCp, ⟨hf1, hf2, hf3, hf4⟩, hb6⟩
              have C6 := Lib.hid ((hb6.block _ (lt_of_block C5.out)).trans C5.out)
              have S6 := Lib.hid ((hb6.block _ (lt_of_block S5.out)).trans S5.out)
              have ZN6 := Lib.hid (ZN5.out.below hb6)
              have HB6 := Lib.hid (Below.then HB5.out hb6)
              have CP6 := Lib.hid hCp
              clear hCp hb6 c5_7 hcl C5 S5 ZN5 HB5
              have R0 := Lib.hid (show ∀ k, rulesOf c k = [] from fun k => by simp [rulesOf, rulesL, E1.out])
              have K0 := Lib.hid (show ∀ k, costsOf c k = [] from fun k => by simp [costsOf, costsL, E2.out])
              have X0 := Lib.hid (show creditOf c = [] by simp [creditOf, E3.out])
              have hr0 : c.rules.length = 0 := by rw [E1.out]; rfl
              have hk0 : c.costs.length = 0 := by rw [E2.out]; rfl
              have hx0 : c.credit.length = 0 := by rw [E3.out]; rfl
              have c6_8 : w6.cell? ⟨cb, 8, none⟩ = some (.slice p.ra c.rules.length p.rc) := cellW (j := 8) C6.out rfl
              have c6_9 : w6.cell? ⟨cb, 9, none⟩ = some (.slice p.ka c.costs.length p.kc) := cellW (j := 9) C6.out rfl
              have c6_10 : w6.cell? ⟨cb, 10, none⟩ = some (.slice p.xa c.credit.length p.xc) := cellW (j := 10) C6.out rfl
              have s20 : w6.cell? ⟨sb, 20, none⟩ = some (.slice none 0 0) := cellW (j := 20) S6.out rfl
              have s24 : w6.cell? ⟨sb, 24, none⟩ = some (.slice none 0 0) := cellW (j := 24) S6.out rfl
              have hcl := lt_of_block C6.out
              have hsl := lt_of_block S6.out
              go_wp2_with fail
              go_loopw [75] (fun i wr => i = .int .i64 0 ∧ wr = w6) (fun _ _ => 0)
              case atStart => exact ⟨rfl, rfl⟩
              case round =>
                obtain ⟨rfl, rfl⟩ := hrel
                go_wp2_with fail
                go_loopw [107] (fun i wx => i = .int .i64 0 ∧ wx = wr) (fun _ _ => 0)
                case atStart => exact ⟨rfl, rfl⟩
                case round =>
                  obtain ⟨rfl, rfl⟩ := hrel
                  go_wp2_with fail
                  go_loopw [158] (fun i wx => i = .int .i64 0 ∧ wx = wr) (fun _ _ => 0)
                  case atStart => exact ⟨rfl, rfl⟩
                  case round =>
                    obtain ⟨rfl, rfl⟩ := hrel
                    go_wp2_with fail
                    go_loopw [182] (fun i wx => i = .int .i64 0 ∧ wx = wr) (fun _ _ => 0)
                    case atStart => exact ⟨rfl, rfl⟩
                    case round =>
                      obtain ⟨rfl, rfl⟩ := hrel
                      go_wp2_with fail
                      go_loopw [210] (fun i wx => i = .int .i64 0 ∧ wx = wr) (fun _ _ => 0)
                      case atStart => exact ⟨rfl, rfl⟩
                      case round =>
                        obtain ⟨rfl, rfl⟩ := hrel
                        go_wp2_with fail
                        go_ret2
                        refine ⟨.ok sb ⟨za, zc, aa, ac, fa, fc, p, zb, fun _ => none, fun _ => 0, fun _ => none, fun _ => 0, none, 0, false⟩ rfl ⟨?_, HV.out, HV2.out, HF.out.below HB6.out, ZN6.out, ?_, ?_, ?_⟩ (by omega) ?_, HB6.out⟩
                        · have hl1 : ∀ k, (rulesOf c k).length = 0 := fun k => by rw [R0.out]; rfl
                          have hl2 : ∀ k, (costsOf c k).length = 0 := fun k => by rw [K0.out]; rfl
                          have hl3 : (creditOf c).length = 0 := by rw [X0.out]; rfl
                          simp only [setVals, hl1, hl2, hl3]
                          exact S6.out
                        · intro k _; exact .inl (R0.out k)
                        · intro k _; rw [K0.out k]; exact ⟨0, 0, fun h => absurd rfl h, .nil _ _⟩
                        · rw [X0.out]; exact ⟨0, 0, fun h => absurd rfl h, .nil _ _⟩
                        · simp [nightsB, usesR, usesK, R0.out, K0.out]
end Go.Proofs.YtpgbckgjlgecpaaGreat
/- the timetable and the contract of the example, in plain terms and in memory -/
namespace Go.Proofs.YtpgbckgjlgecpaaGreat
open Go.RowKit Go.Sort
set_option linter.unusedVariables false
set_option linter.unusedSimpArgs false
set_option maxRecDepth 100000
theorem SlAt.of_block {A : Type} {r : RT A} {w : World} {b : Nat} {C : Array Value} {T : TypeId} {f : Nat × Nat} (hC : w.heap[b]? = some (.cells C T f)) (l : List A) (h : ∀ i (hi : i < l.length), ∃ cs, (∀ j (hj : j < cs.length), C[i * r.n + j]? = some cs[j]) ∧ r.rep w cs l[i]) : SlAt r w (some ⟨b, 0, none⟩) l := by
  refine .inr ⟨b, 0, rfl, lt_of_block hC, fun i hi => ?_⟩
  obtain ⟨cs, h1, h2⟩ := h i hi
  exact ⟨cs, fun j hj => by rw [Nat.zero_add]; exact cellW hC (h1 j hj), h2⟩
def exShO : List (Int × Int) := [(1441500, 120), (1444000, 60)]
def exShY : List (Int × Int) := [(1442900, -240)]
def exZones : List ZoneM := [⟨⟨#[117, 116, 99]⟩, 0, []⟩, ⟨⟨#[111, 115, 108, 111]⟩, 60, exShO⟩, ⟨⟨#[121, 111, 114, 107]⟩, -300, exShY⟩]
def exAirs : List AirM := [⟨⟨#[65, 65, 65]⟩, ⟨#[117, 116, 99]⟩⟩, ⟨⟨#[66, 66, 66]⟩, ⟨#[111, 115, 108, 111]⟩⟩, ⟨⟨#[67, 67, 67]⟩, ⟨#[121, 111, 114, 107]⟩⟩]
def exF1 : FlightM := ⟨⟨#[88, 49]⟩, ⟨#[65, 65, 65]⟩, ⟨#[66, 66, 66]⟩, 10560, 10620, ⟨#[98, 55, 51, 55]⟩, 0, 0, 0⟩
def exF2 : FlightM := ⟨⟨#[88, 50]⟩, ⟨#[66, 66, 66]⟩, ⟨#[65, 65, 65]⟩, 10665, 10740, ⟨#[98, 55, 51, 55]⟩, 0, 0, 0⟩
def exT : TTM := ⟨exZones, exAirs, [exF1, exF2]⟩
def exC : ConM := ⟨60, 30, 40, 1440, 2880, 0, 0, [], [], [], [], [], [], 0⟩
def exD : Duty := [(0, false), (1, false)]
def exP : ConP := ⟨none, 0, none, 0, none, 0, none, 0, none, 0, none, 0⟩
theorem exC_at (w : World) (B : Nat) : ConAt B w exC exP where
  consts := ⟨by simp [exC], .inl rfl⟩
  rules := ⟨by simp [exC], .inl rfl⟩
  costs := ⟨by simp [exC], .inl rfl⟩
  credit := by
    show ArgsAt B w none []
    exact ⟨0, 0, fun h => absurd rfl h, .nil _ _⟩
  creditN := by simp [exC]
  creditF := fun x hx => by simp [exC] at hx
  lims := ⟨by simp [exC], .inl rfl⟩
  offs := ⟨by simp [exC], .inl rfl⟩
theorem exT_ok : valTT exT = 0 := by decide +kernel
theorem exC_ok : valT exC = 0 := by decide +kernel
theorem exD_ok : dutyE exT exC exD = 0 := by decide +kernel
theorem sh_rep (w : World) (x : Int × Int) (h1 : (Lit.int .i64 x.1).wf = true) (h2 : (Lit.int .i64 x.2).wf = true) : shRT.rep w [.int .i64 x.1, .int .i64 x.2] x := ⟨[_], [_], rfl, ⟨rfl, h1⟩, rfl, h2⟩
structure ZonesB (w : World) (s1 s2 b : Nat) : Prop where
  q0 : w.heap[s1]? = some (.cells #[.int .i64 1441500, .int .i64 120, .int .i64 1444000, .int .i64 60] 161 (0, 0))
  q1 : w.heap[s2]? = some (.cells #[.int .i64 1442900, .int .i64 (-240)] 161 (0, 0))
  q2 : w.heap[b]? = some (.cells #[.string ⟨#[117, 116, 99]⟩, .int .i64 0, .slice none 0 0, .string ⟨#[111, 115, 108, 111]⟩, .int .i64 60, .slice (some ⟨s1, 0, none⟩) 2 2, .string ⟨#[121, 111, 114, 107]⟩, .int .i64 (-300), .slice (some ⟨s2, 0, none⟩) 1 1] 85 (0, 0))
def AirsB (w : World) (b : Nat) : Prop := w.heap[b]? = some (.cells #[.string ⟨#[65, 65, 65]⟩, .string ⟨#[117, 116, 99]⟩, .string ⟨#[66, 66, 66]⟩, .string ⟨#[111, 115, 108, 111]⟩, .string ⟨#[67, 67, 67]⟩, .string ⟨#[121, 111, 114, 107]⟩] 88 (0, 0))
theorem ZonesB.at {w : World} {s1 s2 b : Nat} (h : ZonesB w s1 s2 b) : SlAt zoneRT w (some ⟨b, 0, none⟩) exZones := by
  refine SlAt.of_block h.q2 exZones (fun i hi => ?_)
  rcases i with _ | _ | _ | i
  · exact ⟨[.string ⟨#[117, 116, 99]⟩, .int .i64 0, .slice none 0 0], fun j hj => by rcases j with _ | _ | _ | j <;> first | rfl | (simp at hj; omega), none, 0, rfl, Nat.le_of_ble_eq_true rfl, rfl, Nat.le_of_ble_eq_true rfl, .inl rfl⟩
  · refine ⟨[.string ⟨#[111, 115, 108, 111]⟩, .int .i64 60, .slice (some ⟨s1, 0, none⟩) 2 2], fun j hj => by rcases j with _ | _ | _ | j <;> first | rfl | (simp at hj; omega), some ⟨s1, 0, none⟩, 2, rfl, Nat.le_of_ble_eq_true rfl, rfl, Nat.le_of_ble_eq_true rfl, ?_⟩
    refine SlAt.of_block h.q0 exShO (fun i hi => ?_)
    rcases i with _ | _ | i
    · exact ⟨[.int .i64 1441500, .int .i64 120], fun j hj => by rcases j with _ | _ | j <;> first | rfl | (simp at hj; omega), sh_rep _ (1441500, 120) rfl rfl⟩
    · exact ⟨[.int .i64 1444000, .int .i64 60], fun j hj => by rcases j with _ | _ | j <;> first | rfl | (simp at hj; omega), sh_rep _ (1444000, 60) rfl rfl⟩
    · simp [exShO] at hi; omega
  · refine ⟨[.string ⟨#[121, 111, 114, 107]⟩, .int .i64 (-300), .slice (some ⟨s2, 0, none⟩) 1 1], fun j hj => by rcases j with _ | _ | _ | j <;> first | rfl | (simp at hj; omega), some ⟨s2, 0, none⟩, 1, rfl, Nat.le_of_ble_eq_true rfl, rfl, Nat.le_of_ble_eq_true rfl, ?_⟩
    refine SlAt.of_block h.q1 exShY (fun i hi => ?_)
    rcases i with _ | i
    · exact ⟨[.int .i64 1442900, .int .i64 (-240)], fun j hj => by rcases j with _ | _ | j <;> first | rfl | (simp at hj; omega), sh_rep _ (1442900, -240) rfl rfl⟩
    · simp [exShY] at hi
  · simp [exZones] at hi; omega
theorem AirsB.at {w : World} {b : Nat} (h : AirsB w b) : SlAt airRT w (some ⟨b, 0, none⟩) exAirs := by
  refine SlAt.of_block h exAirs (fun i hi => ?_)
  rcases i with _ | _ | _ | i
  · exact ⟨[.string ⟨#[65, 65, 65]⟩, .string ⟨#[117, 116, 99]⟩], fun j hj => by rcases j with _ | _ | j <;> first | rfl | (simp at hj; omega), rfl, Nat.le_of_ble_eq_true rfl, Nat.le_of_ble_eq_true rfl⟩
  · exact ⟨[.string ⟨#[66, 66, 66]⟩, .string ⟨#[111, 115, 108, 111]⟩], fun j hj => by rcases j with _ | _ | j <;> first | rfl | (simp at hj; omega), rfl, Nat.le_of_ble_eq_true rfl, Nat.le_of_ble_eq_true rfl⟩
  · exact ⟨[.string ⟨#[67, 67, 67]⟩, .string ⟨#[121, 111, 114, 107]⟩], fun j hj => by rcases j with _ | _ | j <;> first | rfl | (simp at hj; omega), rfl, Nat.le_of_ble_eq_true rfl, Nat.le_of_ble_eq_true rfl⟩
  · simp [exAirs] at hi; omega
set_option maxHeartbeats 400000 in
theorem zones_any (w : World) : Calls Tryz.prog 67 #[] w fun e w' => ∃ s1 s2 b, e = .returned (.slice (some ⟨b, 0, none⟩) 3 3) ∧ (w.heap.size ≤ s1 ∧ w.heap.size ≤ s2 ∧ w.heap.size ≤ b) ∧ ZonesB w' s1 s2 b ∧ Below w.heap.size w w' := by
  go_enter Tryz.func67, Tryz.ntmps67
  go_wp2_with fail
  go_ret
  have hb := Below.then (Below.then (below_new w (Obj.cells #[.int .i64 1441500, .int .i64 120, .int .i64 1444000, .int .i64 60] 161)) (below_new _ (Obj.cells #[.int .i64 1442900, .int .i64 (-240)] 161))) (below_new _ (Obj.cells #[.string ⟨#[117, 116, 99]⟩, .int .i64 0, .slice none 0 0, .string ⟨#[111, 115, 108, 111]⟩, .int .i64 60, .slice (some ⟨w.heap.size, 0, none⟩) 2 2, .string ⟨#[121, 111, 114, 107]⟩, .int .i64 (-300), .slice (some ⟨w.heap.size + 1, 0, none⟩) 1 1] 85))
  have q0 := one_alloc (o' := Obj.cells #[.string ⟨#[117, 116, 99]⟩, .int .i64 0, .slice none 0 0, .string ⟨#[111, 115, 108, 111]⟩, .int .i64 60, .slice (some ⟨w.heap.size, 0, none⟩) 2 2, .string ⟨#[121, 111, 114, 107]⟩, .int .i64 (-300), .slice (some ⟨w.heap.size + 1, 0, none⟩) 1 1] 85) (one_alloc (o' := Obj.cells #[.int .i64 1442900, .int .i64 (-240)] 161) (heap_new w (Obj.cells #[.int .i64 1441500, .int .i64 120, .int .i64 1444000, .int .i64 60] 161)))
  have q1 := one_alloc (o' := Obj.cells #[.string ⟨#[117, 116, 99]⟩, .int .i64 0, .slice none 0 0, .string ⟨#[111, 115, 108, 111]⟩, .int .i64 60, .slice (some ⟨w.heap.size, 0, none⟩) 2 2, .string ⟨#[121, 111, 114, 107]⟩, .int .i64 (-300), .slice (some ⟨w.heap.size + 1, 0, none⟩) 1 1] 85) (heap_new (w.alloc (Obj.cells #[.int .i64 1441500, .int .i64 120, .int .i64 1444000, .int .i64 60] 161)) (Obj.cells #[.int .i64 1442900, .int .i64 (-240)] 161))
  have q2 := heap_new ((w.alloc (Obj.cells #[.int .i64 1441500, .int .i64 120, .int .i64 1444000, .int .i64 60] 161)).alloc (Obj.cells #[.int .i64 1442900, .int .i64 (-240)] 161)) (Obj.cells #[.string ⟨#[117, 116, 99]⟩, .int .i64 0, .slice none 0 0, .string ⟨#[111, 115, 108, 111]⟩, .int .i64 60, .slice (some ⟨w.heap.size, 0, none⟩) 2 2, .string ⟨#[121, 111, 114, 107]⟩, .int .i64 (-300), .slice (some ⟨w.heap.size + 1, 0, none⟩) 1 1] 85)
  rw [alloc_size] at q1
  rw [alloc_size, alloc_size] at q2
  exact ⟨w.heap.size, w.heap.size + 1, w.heap.size + 1 + 1, rfl, by omega, ⟨q0, q1, q2⟩, hb⟩
set_option maxHeartbeats 400000 in
theorem airports_any (w : World) : Calls Tryz.prog 68 #[] w fun e w' => ∃ b, e = .returned (.slice (some ⟨b, 0, none⟩) 3 3) ∧ w.heap.size ≤ b ∧ AirsB w' b ∧ Below w.heap.size w w' := by
  go_enter Tryz.func68, Tryz.ntmps68
  go_wp2_with fail
  go_ret
  exact ⟨w.heap.size, rfl, Nat.le_refl _, heap_new w _, below_new _ _⟩
theorem blk_after {w w' : World} {o : Obj} {b : Nat} (hb : Below w.heap.size w w') (q : w.heap[b]? = some o) : w'.heap[b]? = some o := (hb.block b (lt_of_block q)).trans q
theorem ZonesB.keep {w w' : World} {s1 s2 b : Nat} (h : ZonesB w s1 s2 b) (hw : ∀ j o, j = s1 ∨ j = s2 ∨ j = b → w.heap[j]? = some o → w'.heap[j]? = some o) : ZonesB w' s1 s2 b := ⟨hw _ _ (.inl rfl) h.q0, hw _ _ (.inr (.inl rfl)) h.q1, hw _ _ (.inr (.inr rfl)) h.q2⟩
end Go.Proofs.YtpgbckgjlgecpaaGreat
/- the example of law 15, and its sanity check -/
namespace Go.Proofs.YtpgbckgjlgecpaaGreat
open Go.RowKit Go.Sort
set_option linter.unusedVariables false
set_option linter.unusedSimpArgs false
set_option maxRecDepth 100000
attribute [local go_sem ↓] Go.wp_at_zero Go.wp_at_succ
theorem exs {w : World} {b2 b3 : Nat} (q2 : w.heap[b2]? = some (.cells #[.string ⟨#[88, 49]⟩, .string ⟨#[65, 65, 65]⟩, .string ⟨#[66, 66, 66]⟩, .int .i64 10560, .int .i64 10620, .string ⟨#[98, 55, 51, 55]⟩, .int .i64 0, .int .i64 0, .int .i64 0] 107 (0, 0))) (q3 : w.heap[b3]? = some (.cells #[.string ⟨#[88, 50]⟩, .string ⟨#[66, 66, 66]⟩, .string ⟨#[65, 65, 65]⟩, .int .i64 10665, .int .i64 10740, .string ⟨#[98, 55, 51, 55]⟩, .int .i64 0, .int .i64 0, .int .i64 0] 107 (0, 0))) : w.cell? ⟨b2, 0, none⟩ = some (.string ⟨#[88, 49]⟩) ∧ w.cell? ⟨b2, 1, none⟩ = some (.string ⟨#[65, 65, 65]⟩) ∧ w.cell? ⟨b2, 2, none⟩ = some (.string ⟨#[66, 66, 66]⟩) ∧ w.cell? ⟨b2, 3, none⟩ = some (.int .i64 10560) ∧ w.cell? ⟨b2, 4, none⟩ = some (.int .i64 10620) ∧ w.cell? ⟨b2, 5, none⟩ = some (.string ⟨#[98, 55, 51, 55]⟩) ∧ w.cell? ⟨b2, 6, none⟩ = some (.int .i64 0) ∧ w.cell? ⟨b2, 7, none⟩ = some (.int .i64 0) ∧ w.cell? ⟨b2, 8, none⟩ = some (.int .i64 0) ∧ w.cell? ⟨b3, 0, none⟩ = some (.string ⟨#[88, 50]⟩) ∧ w.cell? ⟨b3, 1, none⟩ = some (.string ⟨#[66, 66, 66]⟩) ∧ w.cell? ⟨b3, 2, none⟩ = some (.string ⟨#[65, 65, 65]⟩) ∧ w.cell? ⟨b3, 3, none⟩ = some (.int .i64 10665) ∧ w.cell? ⟨b3, 4, none⟩ = some (.int .i64 10740) ∧ w.cell? ⟨b3, 5, none⟩ = some (.string ⟨#[98, 55, 51, 55]⟩) ∧ w.cell? ⟨b3, 6, none⟩ = some (.int .i64 0) ∧ w.cell? ⟨b3, 7, none⟩ = some (.int .i64 0) ∧ w.cell? ⟨b3, 8, none⟩ = some (.int .i64 0) :=
  ⟨cellW (j := 0) q2 rfl, cellW (j := 1) q2 rfl, cellW (j := 2) q2 rfl, cellW (j := 3) q2 rfl, cellW (j := 4) q2 rfl, cellW (j := 5) q2 rfl, cellW (j := 6) q2 rfl, cellW (j := 7) q2 rfl, cellW (j := 8) q2 rfl, cellW (j := 0) q3 rfl, cellW (j := 1) q3 rfl, cellW (j := 2) q3 rfl, cellW (j := 3) q3 rfl, cellW (j := 4) q3 rfl, cellW (j := 5) q3 rfl, cellW (j := 6) q3 rfl, cellW (j := 7) q3 rfl, cellW (j := 8) q3 rfl⟩
theorem set3_blk (w : World) {bs b : Nat} (h : b ≠ bs) (v0 v1 v2 : Value) : (((w.setCell ⟨bs, 0, none⟩ v0).setCell ⟨bs, 1, none⟩ v1).setCell ⟨bs, 2, none⟩ v2).heap[b]? = w.heap[b]? := by
  rw [Below.heap_setCell _ _ _ _ h, Below.heap_setCell _ _ _ _ h, Below.heap_setCell _ _ _ _ h]
theorem set14_blk (w : World) {bs b : Nat} (h : b ≠ bs) (v0 v1 v2 v3 v4 v5 v6 v7 v8 v9 v10 v11 v12 v13 : Value) : ((((((((((((((w.setCell ⟨bs, 0, none⟩ v0).setCell ⟨bs, 1, none⟩ v1).setCell ⟨bs, 2, none⟩ v2).setCell ⟨bs, 3, none⟩ v3).setCell ⟨bs, 4, none⟩ v4).setCell ⟨bs, 5, none⟩ v5).setCell ⟨bs, 6, none⟩ v6).setCell ⟨bs, 7, none⟩ v7).setCell ⟨bs, 8, none⟩ v8).setCell ⟨bs, 9, none⟩ v9).setCell ⟨bs, 10, none⟩ v10).setCell ⟨bs, 11, none⟩ v11).setCell ⟨bs, 12, none⟩ v12).setCell ⟨bs, 13, none⟩ v13).heap[b]? = w.heap[b]? := by
  rw [Below.heap_setCell _ _ _ _ h, Below.heap_setCell _ _ _ _ h, Below.heap_setCell _ _ _ _ h, Below.heap_setCell _ _ _ _ h, Below.heap_setCell _ _ _ _ h, Below.heap_setCell _ _ _ _ h, Below.heap_setCell _ _ _ _ h, Below.heap_setCell _ _ _ _ h, Below.heap_setCell _ _ _ _ h, Below.heap_setCell _ _ _ _ h, Below.heap_setCell _ _ _ _ h, Below.heap_setCell _ _ _ _ h, Below.heap_setCell _ _ _ _ h, Below.heap_setCell _ _ _ _ h]
theorem one_alloc_d {w : World} {nb : Nat} {o o' : Obj} (h : w.heap[nb]? = some o) : (w.alloc o').drew.heap[nb]? = some o := one_alloc h
theorem set3_own {w : World} {bs : Nat} {T : TypeId} (x0 x1 x2 v0 v1 v2 : Value) (q : w.heap[bs]? = some (.cells #[x0, x1, x2] T (0, 0))) : (((w.setCell ⟨bs, 0, none⟩ v0).setCell ⟨bs, 1, none⟩ v1).setCell ⟨bs, 2, none⟩ v2).heap[bs]? = some (.cells #[v0, v1, v2] T (0, 0)) := block_setCell (i := 2) (u := v2) (block_setCell (i := 1) (u := v1) (block_setCell (i := 0) (u := v0) q))
theorem set3_below {B : Nat} {w0 w : World} {bs : Nat} (h : B ≤ bs) (v0 v1 v2 : Value) (hb : Below B w0 w) : Below B w0 (((w.setCell ⟨bs, 0, none⟩ v0).setCell ⟨bs, 1, none⟩ v1).setCell ⟨bs, 2, none⟩ v2) := (((hb.setCell (p := ⟨bs, 0, none⟩) h v0).setCell (p := ⟨bs, 1, none⟩) h v1).setCell (p := ⟨bs, 2, none⟩) h v2)
theorem set14_own {w : World} {bs : Nat} {T : TypeId} (x0 x1 x2 x3 x4 x5 x6 x7 x8 x9 x10 x11 x12 x13 v0 v1 v2 v3 v4 v5 v6 v7 v8 v9 v10 v11 v12 v13 : Value) (q : w.heap[bs]? = some (.cells #[x0, x1, x2, x3, x4, x5, x6, x7, x8, x9, x10, x11, x12, x13] T (0, 0))) : ((((((((((((((w.setCell ⟨bs, 0, none⟩ v0).setCell ⟨bs, 1, none⟩ v1).setCell ⟨bs, 2, none⟩ v2).setCell ⟨bs, 3, none⟩ v3).setCell ⟨bs, 4, none⟩ v4).setCell ⟨bs, 5, none⟩ v5).setCell ⟨bs, 6, none⟩ v6).setCell ⟨bs, 7, none⟩ v7).setCell ⟨bs, 8, none⟩ v8).setCell ⟨bs, 9, none⟩ v9).setCell ⟨bs, 10, none⟩ v10).setCell ⟨bs, 11, none⟩ v11).setCell ⟨bs, 12, none⟩ v12).setCell ⟨bs, 13, none⟩ v13).heap[bs]? = some (.cells #[v0, v1, v2, v3, v4, v5, v6, v7, v8, v9, v10, v11, v12, v13] T (0, 0)) := by
  have h0 : (w.setCell ⟨bs, 0, none⟩ v0).heap[bs]? = some (.cells #[v0, x1, x2, x3, x4, x5, x6, x7, x8, x9, x10, x11, x12, x13] T (0, 0)) := block_setCell (i := 0) (u := v0) q
  have h1 : ((w.setCell ⟨bs, 0, none⟩ v0).setCell ⟨bs, 1, none⟩ v1).heap[bs]? = some (.cells #[v0, v1, x2, x3, x4, x5, x6, x7, x8, x9, x10, x11, x12, x13] T (0, 0)) := block_setCell (i := 1) (u := v1) h0
  have h2 : (((w.setCell ⟨bs, 0, none⟩ v0).setCell ⟨bs, 1, none⟩ v1).setCell ⟨bs, 2, none⟩ v2).heap[bs]? = some (.cells #[v0, v1, v2, x3, x4, x5, x6, x7, x8, x9, x10, x11, x12, x13] T (0, 0)) := block_setCell (i := 2) (u := v2) h1
  have h3 : ((((w.setCell ⟨bs, 0, none⟩ v0).setCell ⟨bs, 1, none⟩ v1).setCell ⟨bs, 2, none⟩ v2).setCell ⟨bs, 3, none⟩ v3).heap[bs]? = some (.cells #[v0, v1, v2, v3, x4, x5, x6, x7, x8, x9, x10, x11, x12, x13] T (0, 0)) := block_setCell (i := 3) (u := v3) h2
  have h4 : (((((w.setCell ⟨bs, 0, none⟩ v0).setCell ⟨bs, 1, none⟩ v1).setCell ⟨bs, 2, none⟩ v2).setCell ⟨bs, 3, none⟩ v3).setCell ⟨bs, 4, none⟩ v4).heap[bs]? = some (.cells #[v0, v1, v2, v3, v4, x5, x6, x7, x8, x9, x10, x11, x12, x13] T (0, 0)) := block_setCell (i := 4) (u := v4) h3
  have h5 : ((((((w.setCell ⟨bs, 0, none⟩ v0).setCell ⟨bs, 1, none⟩ v1).setCell ⟨bs, 2, none⟩ v2).setCell ⟨bs, 3, none⟩ v3).setCell ⟨bs, 4, none⟩ v4).setCell ⟨bs, 5, none⟩ v5).heap[bs]? = some (.cells #[v0, v1, v2, v3, v4, v5, x6, x7, x8, x9, x10, x11, x12, x13] T (0, 0)) := block_setCell (i := 5) (u := v5) h4
  have h6 : (((((((w.setCell ⟨bs, 0, none⟩ v0).setCell ⟨bs, 1, none⟩ v1).setCell ⟨bs, 2, none⟩ v2).setCell ⟨bs, 3, none⟩ v3).setCell ⟨bs, 4, none⟩ v4).setCell ⟨bs, 5, none⟩ v5).setCell ⟨bs, 6, none⟩ v6).heap[bs]? = some (.cells #[v0, v1, v2, v3, v4, v5, v6, x7, x8, x9, x10, x11, x12, x13] T (0, 0)) := block_setCell (i := 6) (u := v6) h5
  have h7 : ((((((((w.setCell ⟨bs, 0, none⟩ v0).setCell ⟨bs, 1, none⟩ v1).setCell ⟨bs, 2, none⟩ v2).setCell ⟨bs, 3, none⟩ v3).setCell ⟨bs, 4, none⟩ v4).setCell ⟨bs, 5, none⟩ v5).setCell ⟨bs, 6, none⟩ v6).setCell ⟨bs, 7, none⟩ v7).heap[bs]? = some (.cells #[v0, v1, v2, v3, v4, v5, v6, v7, x8, x9, x10, x11, x12, x13] T (0, 0)) := block_setCell (i := 7) (u := v7) h6
  have h8 : (((((((((w.setCell ⟨bs, 0, none⟩ v0).setCell ⟨bs, 1, none⟩ v1).setCell ⟨bs, 2, none⟩ v2).setCell ⟨bs, 3, none⟩ v3).setCell ⟨bs, 4, none⟩ v4).setCell ⟨bs, 5, none⟩ v5).setCell ⟨bs, 6, none⟩ v6).setCell ⟨bs, 7, none⟩ v7).setCell ⟨bs, 8, none⟩ v8).heap[bs]? = some (.cells #[v0, v1, v2, v3, v4, v5, v6, v7, v8, x9, x10, x11, x12, x13] T (0, 0)) := block_setCell (i := 8) (u := v8) h7
  have h9 : ((((((((((w.setCell ⟨bs, 0, none⟩ v0).setCell ⟨bs, 1, none⟩ v1).setCell ⟨bs, 2, none⟩ v2).setCell ⟨bs, 3, none⟩ v3).setCell ⟨bs, 4, none⟩ v4).setCell ⟨bs, 5, none⟩ v5).setCell ⟨bs, 6, none⟩ v6).setCell ⟨bs, 7, none⟩ v7).setCell ⟨bs, 8, none⟩ v8).setCell ⟨bs, 9, none⟩ v9).heap[bs]? = some (.cells #[v0, v1, v2, v3, v4, v5, v6, v7, v8, v9, x10, x11, x12, x13] T (0, 0)) := block_setCell (i := 9) (u := v9) h8
  have h10 : (((((((((((w.setCell ⟨bs, 0, none⟩ v0).setCell ⟨bs, 1, none⟩ v1).setCell ⟨bs, 2, none⟩ v2).setCell ⟨bs, 3, none⟩ v3).setCell ⟨bs, 4, none⟩ v4).setCell ⟨bs, 5, none⟩ v5).setCell ⟨bs, 6, none⟩ v6).setCell ⟨bs, 7, none⟩ v7).setCell ⟨bs, 8, none⟩ v8).setCell ⟨bs, 9, none⟩ v9).setCell ⟨bs, 10, none⟩ v10).heap[bs]? = some (.cells #[v0, v1, v2, v3, v4, v5, v6, v7, v8, v9, v10, x11, x12, x13] T (0, 0)) := block_setCell (i := 10) (u := v10) h9
  have h11 : ((((((((((((w.setCell ⟨bs, 0, none⟩ v0).setCell ⟨bs, 1, none⟩ v1).setCell ⟨bs, 2, none⟩ v2).setCell ⟨bs, 3, none⟩ v3).setCell ⟨bs, 4, none⟩ v4).setCell ⟨bs, 5, none⟩ v5).setCell ⟨bs, 6, none⟩ v6).setCell ⟨bs, 7, none⟩ v7).setCell ⟨bs, 8, none⟩ v8).setCell ⟨bs, 9, none⟩ v9).setCell ⟨bs, 10, none⟩ v10).setCell ⟨bs, 11, none⟩ v11).heap[bs]? = some (.cells #[v0, v1, v2, v3, v4, v5, v6, v7, v8, v9, v10, v11, x12, x13] T (0, 0)) := block_setCell (i := 11) (u := v11) h10
  have h12 : (((((((((((((w.setCell ⟨bs, 0, none⟩ v0).setCell ⟨bs, 1, none⟩ v1).setCell ⟨bs, 2, none⟩ v2).setCell ⟨bs, 3, none⟩ v3).setCell ⟨bs, 4, none⟩ v4).setCell ⟨bs, 5, none⟩ v5).setCell ⟨bs, 6, none⟩ v6).setCell ⟨bs, 7, none⟩ v7).setCell ⟨bs, 8, none⟩ v8).setCell ⟨bs, 9, none⟩ v9).setCell ⟨bs, 10, none⟩ v10).setCell ⟨bs, 11, none⟩ v11).setCell ⟨bs, 12, none⟩ v12).heap[bs]? = some (.cells #[v0, v1, v2, v3, v4, v5, v6, v7, v8, v9, v10, v11, v12, x13] T (0, 0)) := block_setCell (i := 12) (u := v12) h11
  have h13 : ((((((((((((((w.setCell ⟨bs, 0, none⟩ v0).setCell ⟨bs, 1, none⟩ v1).setCell ⟨bs, 2, none⟩ v2).setCell ⟨bs, 3, none⟩ v3).setCell ⟨bs, 4, none⟩ v4).setCell ⟨bs, 5, none⟩ v5).setCell ⟨bs, 6, none⟩ v6).setCell ⟨bs, 7, none⟩ v7).setCell ⟨bs, 8, none⟩ v8).setCell ⟨bs, 9, none⟩ v9).setCell ⟨bs, 10, none⟩ v10).setCell ⟨bs, 11, none⟩ v11).setCell ⟨bs, 12, none⟩ v12).setCell ⟨bs, 13, none⟩ v13).heap[bs]? = some (.cells #[v0, v1, v2, v3, v4, v5, v6, v7, v8, v9, v10, v11, v12, v13] T (0, 0)) := block_setCell (i := 13) (u := v13) h12
  exact h13
theorem set14_below {B : Nat} {w0 w : World} {bs : Nat} (h : B ≤ bs) (v0 v1 v2 v3 v4 v5 v6 v7 v8 v9 v10 v11 v12 v13 : Value) (hb : Below B w0 w) : Below B w0 ((((((((((((((w.setCell ⟨bs, 0, none⟩ v0).setCell ⟨bs, 1, none⟩ v1).setCell ⟨bs, 2, none⟩ v2).setCell ⟨bs, 3, none⟩ v3).setCell ⟨bs, 4, none⟩ v4).setCell ⟨bs, 5, none⟩ v5).setCell ⟨bs, 6, none⟩ v6).setCell ⟨bs, 7, none⟩ v7).setCell ⟨bs, 8, none⟩ v8).setCell ⟨bs, 9, none⟩ v9).setCell ⟨bs, 10, none⟩ v10).setCell ⟨bs, 11, none⟩ v11).setCell ⟨bs, 12, none⟩ v12).setCell ⟨bs, 13, none⟩ v13) := ((((((((((((((hb.setCell (p := ⟨bs, 0, none⟩) h v0).setCell (p := ⟨bs, 1, none⟩) h v1).setCell (p := ⟨bs, 2, none⟩) h v2).setCell (p := ⟨bs, 3, none⟩) h v3).setCell (p := ⟨bs, 4, none⟩) h v4).setCell (p := ⟨bs, 5, none⟩) h v5).setCell (p := ⟨bs, 6, none⟩) h v6).setCell (p := ⟨bs, 7, none⟩) h v7).setCell (p := ⟨bs, 8, none⟩) h v8).setCell (p := ⟨bs, 9, none⟩) h v9).setCell (p := ⟨bs, 10, none⟩) h v10).setCell (p := ⟨bs, 11, none⟩) h v11).setCell (p := ⟨bs, 12, none⟩) h v12).setCell (p := ⟨bs, 13, none⟩) h v13)
def ExPost (w : World) (e : Ending) (w' : World) : Prop := ∃ za aa fa : Option Addr, e = .returned (.tuple #[.agg #[.slice za 3 3, .slice aa 3 3, .slice fa 2 2], .agg #[.int .i64 60, .int .i64 30, .int .i64 40, .int .i64 1440, .int .i64 2880, .int .i64 0, .int .i64 0, .slice none 0 0, .slice none 0 0, .slice none 0 0, .slice none 0 0, .slice none 0 0, .slice none 0 0, .int .i64 0]]) ∧ TCAt w' exT exC za aa fa exP ∧ Below w.heap.size w w'
theorem ex_g {w6 G : World} {b0 b1 : Nat} {z a f : Value} (hG : G = (((((((((((((((((w6.setCell ⟨b0, 0, none⟩ (z)).setCell ⟨b0, 1, none⟩ (a)).setCell ⟨b0, 2, none⟩ (f)).setCell ⟨b1, 0, none⟩ (.int .i64 60)).setCell ⟨b1, 1, none⟩ (.int .i64 30)).setCell ⟨b1, 2, none⟩ (.int .i64 40)).setCell ⟨b1, 3, none⟩ (.int .i64 1440)).setCell ⟨b1, 4, none⟩ (.int .i64 2880)).setCell ⟨b1, 5, none⟩ (.int .i64 0)).setCell ⟨b1, 6, none⟩ (.int .i64 0)).setCell ⟨b1, 7, none⟩ (.slice none 0 0)).setCell ⟨b1, 8, none⟩ (.slice none 0 0)).setCell ⟨b1, 9, none⟩ (.slice none 0 0)).setCell ⟨b1, 10, none⟩ (.slice none 0 0)).setCell ⟨b1, 11, none⟩ (.slice none 0 0)).setCell ⟨b1, 12, none⟩ (.slice none 0 0)).setCell ⟨b1, 13, none⟩ (.int .i64 0))) (h01 : b0 ≠ b1) (r0 : w6.heap[b0]? = some (.cells #[.slice none 0 0, .slice none 0 0, .slice none 0 0] 26 (0, 0))) (r1 : w6.heap[b1]? = some (.cells #[.int .i64 0, .int .i64 0, .int .i64 0, .int .i64 0, .int .i64 0, .int .i64 0, .int .i64 0, .slice none 0 0, .slice none 0 0, .slice none 0 0, .slice none 0 0, .slice none 0 0, .slice none 0 0, .int .i64 0] 34 (0, 0))) : (∀ j o, j ≠ b0 → j ≠ b1 → w6.heap[j]? = some o → G.heap[j]? = some o) ∧ G.heap[b0]? = some (.cells #[z, a, f] 26 (0, 0)) ∧ G.heap[b1]? = some (.cells #[.int .i64 60, .int .i64 30, .int .i64 40, .int .i64 1440, .int .i64 2880, .int .i64 0, .int .i64 0, .slice none 0 0, .slice none 0 0, .slice none 0 0, .slice none 0 0, .slice none 0 0, .slice none 0 0, .int .i64 0] 34 (0, 0)) ∧ G.heap.size = w6.heap.size ∧ ∀ (B : Nat) (w0 : World), Below B w0 w6 → B ≤ b0 → B ≤ b1 → Below B w0 G := by
  subst hG
  refine ⟨fun j o h0 h1 h => (set14_blk _ h1 (.int .i64 60) (.int .i64 30) (.int .i64 40) (.int .i64 1440) (.int .i64 2880) (.int .i64 0) (.int .i64 0) (.slice none 0 0) (.slice none 0 0) (.slice none 0 0) (.slice none 0 0) (.slice none 0 0) (.slice none 0 0) (.int .i64 0)).trans ((set3_blk _ h0 z a f).trans h), (set14_blk _ h01 (.int .i64 60) (.int .i64 30) (.int .i64 40) (.int .i64 1440) (.int .i64 2880) (.int .i64 0) (.int .i64 0) (.slice none 0 0) (.slice none 0 0) (.slice none 0 0) (.slice none 0 0) (.slice none 0 0) (.slice none 0 0) (.int .i64 0)).trans (set3_own (.slice none 0 0) (.slice none 0 0) (.slice none 0 0) z a f r0), set14_own (.int .i64 0) (.int .i64 0) (.int .i64 0) (.int .i64 0) (.int .i64 0) (.int .i64 0) (.int .i64 0) (.slice none 0 0) (.slice none 0 0) (.slice none 0 0) (.slice none 0 0) (.slice none 0 0) (.slice none 0 0) (.int .i64 0) (.int .i64 60) (.int .i64 30) (.int .i64 40) (.int .i64 1440) (.int .i64 2880) (.int .i64 0) (.int .i64 0) (.slice none 0 0) (.slice none 0 0) (.slice none 0 0) (.slice none 0 0) (.slice none 0 0) (.slice none 0 0) (.int .i64 0) ((set3_blk _ (Ne.symm h01) z a f).trans r1), ?_, fun B w0 h h0 h1 => set14_below h1 (.int .i64 60) (.int .i64 30) (.int .i64 40) (.int .i64 1440) (.int .i64 2880) (.int .i64 0) (.int .i64 0) (.slice none 0 0) (.slice none 0 0) (.slice none 0 0) (.slice none 0 0) (.slice none 0 0) (.slice none 0 0) (.int .i64 0) (set3_below h0 z a f h)⟩
  simp only [World.setCell, Array.size_modify]
theorem fls_at {w : World} {b : Nat} (h : w.heap[b]? = some (.cells #[.string ⟨#[88, 49]⟩, .string ⟨#[65, 65, 65]⟩, .string ⟨#[66, 66, 66]⟩, .int .i64 10560, .int .i64 10620, .string ⟨#[98, 55, 51, 55]⟩, .int .i64 0, .int .i64 0, .int .i64 0, .string ⟨#[88, 50]⟩, .string ⟨#[66, 66, 66]⟩, .string ⟨#[65, 65, 65]⟩, .int .i64 10665, .int .i64 10740, .string ⟨#[98, 55, 51, 55]⟩, .int .i64 0, .int .i64 0, .int .i64 0] 107 (0, 0))) : SlAt flightRT w (some ⟨b, 0, none⟩) [exF1, exF2] := by
  refine SlAt.of_block h _ (fun i hi => ?_)
  rcases i with _ | _ | i
  · exact ⟨[.string ⟨#[88, 49]⟩, .string ⟨#[65, 65, 65]⟩, .string ⟨#[66, 66, 66]⟩, .int .i64 10560, .int .i64 10620, .string ⟨#[98, 55, 51, 55]⟩, .int .i64 0, .int .i64 0, .int .i64 0], fun j hj => by rcases j with _ | _ | _ | _ | _ | _ | _ | _ | _ | j <;> first | rfl | (simp at hj; omega), rfl, ⟨Nat.le_of_ble_eq_true rfl, Nat.le_of_ble_eq_true rfl, Nat.le_of_ble_eq_true rfl, Nat.le_of_ble_eq_true rfl⟩, rfl, rfl⟩
  · exact ⟨[.string ⟨#[88, 50]⟩, .string ⟨#[66, 66, 66]⟩, .string ⟨#[65, 65, 65]⟩, .int .i64 10665, .int .i64 10740, .string ⟨#[98, 55, 51, 55]⟩, .int .i64 0, .int .i64 0, .int .i64 0], fun j hj => by rcases j with _ | _ | _ | _ | _ | _ | _ | _ | _ | j <;> first | rfl | (simp at hj; omega), rfl, ⟨Nat.le_of_ble_eq_true rfl, Nat.le_of_ble_eq_true rfl, Nat.le_of_ble_eq_true rfl, Nat.le_of_ble_eq_true rfl⟩, rfl, rfl⟩
  · simp at hi; omega
theorem ex_done {w F : World} {s1 s2 zb ab fb : Nat} (hB : Below w.heap.size w F) (hz : ZonesB F s1 s2 zb) (ha : AirsB F ab) (hf : F.heap[fb]? = some (.cells #[.string ⟨#[88, 49]⟩, .string ⟨#[65, 65, 65]⟩, .string ⟨#[66, 66, 66]⟩, .int .i64 10560, .int .i64 10620, .string ⟨#[98, 55, 51, 55]⟩, .int .i64 0, .int .i64 0, .int .i64 0, .string ⟨#[88, 50]⟩, .string ⟨#[66, 66, 66]⟩, .string ⟨#[65, 65, 65]⟩, .int .i64 10665, .int .i64 10740, .string ⟨#[98, 55, 51, 55]⟩, .int .i64 0, .int .i64 0, .int .i64 0] 107 (0, 0))) : ExPost w (.returned (.tuple #[.agg #[.slice (some ⟨zb, 0, none⟩) 3 3, .slice (some ⟨ab, 0, none⟩) 3 3, .slice (some ⟨fb, 0, none⟩) 2 2], .agg #[.int .i64 60, .int .i64 30, .int .i64 40, .int .i64 1440, .int .i64 2880, .int .i64 0, .int .i64 0, .slice none 0 0, .slice none 0 0, .slice none 0 0, .slice none 0 0, .slice none 0 0, .slice none 0 0, .int .i64 0]])) F :=
  ⟨_, _, _, rfl, ⟨hz.at, ha.at, fls_at hf, exC_at _ _⟩, hB⟩
set_option maxHeartbeats 3200000 in
theorem example_any (w : World) : Calls Tryz.prog 49 #[] w (ExPost w) := by
  go_enter Tryz.func49, Tryz.ntmps49
  go_upto_region 3 with fail
  obtain ⟨W, hW⟩ : ∃ W : World, W = (((w.alloc (Obj.cells #[.slice none 0 0, .slice none 0 0, .slice none 0 0] 26)).alloc (Obj.cells #[.int .i64 0, .int .i64 0, .int .i64 0, .int .i64 0, .int .i64 0, .int .i64 0, .int .i64 0, .slice none 0 0, .slice none 0 0, .slice none 0 0, .slice none 0 0, .slice none 0 0, .slice none 0 0, .int .i64 0] 34)).alloc (Obj.cells #[.string ⟨#[88, 49]⟩, .string ⟨#[65, 65, 65]⟩, .string ⟨#[66, 66, 66]⟩, .int .i64 10560, .int .i64 10620, .string ⟨#[98, 55, 51, 55]⟩, .int .i64 0, .int .i64 0, .int .i64 0] 107)).alloc (Obj.cells #[.string ⟨#[88, 50]⟩, .string ⟨#[66, 66, 66]⟩, .string ⟨#[65, 65, 65]⟩, .int .i64 10665, .int .i64 10740, .string ⟨#[98, 55, 51, 55]⟩, .int .i64 0, .int .i64 0, .int .i64 0] 107) := ⟨_, rfl⟩
  rw [← hW]
  have HB0 := Lib.hid (show Below w.heap.size w W by rw [hW]; exact Below.then (Below.then (Below.then (below_new _ _) (below_new _ _)) (below_new _ _)) (below_new _ _))
  obtain ⟨b0, hb0⟩ : ∃ b0, b0 = w.heap.size := ⟨_, rfl⟩
  obtain ⟨b1, hb1⟩ : ∃ b1, b1 = w.heap.size + 1 := ⟨_, rfl⟩
  obtain ⟨b2, hb2⟩ : ∃ b2, b2 = w.heap.size + 1 + 1 := ⟨_, rfl⟩
  obtain ⟨b3, hb3⟩ : ∃ b3, b3 = w.heap.size + 1 + 1 + 1 := ⟨_, rfl⟩
  have q0 : W.heap[b0]? = some (.cells #[.slice none 0 0, .slice none 0 0, .slice none 0 0] 26 (0, 0)) := by rw [hW, hb0]; exact one_alloc (one_alloc (one_alloc (heap_new _ _)))
  have q1 : W.heap[b1]? = some (.cells #[.int .i64 0, .int .i64 0, .int .i64 0, .int .i64 0, .int .i64 0, .int .i64 0, .int .i64 0, .slice none 0 0, .slice none 0 0, .slice none 0 0, .slice none 0 0, .slice none 0 0, .slice none 0 0, .int .i64 0] 34 (0, 0)) := by rw [hW, hb1, ← alloc_size w (Obj.cells #[.slice none 0 0, .slice none 0 0, .slice none 0 0] 26)]; exact one_alloc (one_alloc (heap_new _ _))
  have q2 : W.heap[b2]? = some (.cells #[.string ⟨#[88, 49]⟩, .string ⟨#[65, 65, 65]⟩, .string ⟨#[66, 66, 66]⟩, .int .i64 10560, .int .i64 10620, .string ⟨#[98, 55, 51, 55]⟩, .int .i64 0, .int .i64 0, .int .i64 0] 107 (0, 0)) := by rw [hW, hb2, ← alloc_size w (Obj.cells #[.slice none 0 0, .slice none 0 0, .slice none 0 0] 26), ← alloc_size _ (Obj.cells #[.int .i64 0, .int .i64 0, .int .i64 0, .int .i64 0, .int .i64 0, .int .i64 0, .int .i64 0, .slice none 0 0, .slice none 0 0, .slice none 0 0, .slice none 0 0, .slice none 0 0, .slice none 0 0, .int .i64 0] 34)]; exact one_alloc (heap_new _ _)
  have q3 : W.heap[b3]? = some (.cells #[.string ⟨#[88, 50]⟩, .string ⟨#[66, 66, 66]⟩, .string ⟨#[65, 65, 65]⟩, .int .i64 10665, .int .i64 10740, .string ⟨#[98, 55, 51, 55]⟩, .int .i64 0, .int .i64 0, .int .i64 0] 107 (0, 0)) := by rw [hW, hb3, ← alloc_size w (Obj.cells #[.slice none 0 0, .slice none 0 0, .slice none 0 0] 26), ← alloc_size _ (Obj.cells #[.int .i64 0, .int .i64 0, .int .i64 0, .int .i64 0, .int .i64 0, .int .i64 0, .int .i64 0, .slice none 0 0, .slice none 0 0, .slice none 0 0, .slice none 0 0, .slice none 0 0, .slice none 0 0, .int .i64 0] 34), ← alloc_size _ (Obj.cells #[.string ⟨#[88, 49]⟩, .string ⟨#[65, 65, 65]⟩, .string ⟨#[66, 66, 66]⟩, .int .i64 10560, .int .i64 10620, .string ⟨#[98, 55, 51, 55]⟩, .int .i64 0, .int .i64 0, .int .i64 0] 107)]; exact heap_new _ _
  simp only [← hb3]
  simp only [← hb2]
  simp only [← hb1]
  simp only [← hb0]
  have h20 : b2 ≠ b0 := by omega
  have h21 : b2 ≠ b1 := by omega
  have h30 : b3 ≠ b0 := by omega
  have h31 : b3 ≠ b1 := by omega
  have h01 : b0 ≠ b1 := by omega
  have hwb : w.heap.size ≤ b0 ∧ w.heap.size ≤ b1 := by omega
  clear hW hb1 hb2 hb3 hb0
  have q2d : W.drew.heap[b2]? = some (.cells #[.string ⟨#[88, 49]⟩, .string ⟨#[65, 65, 65]⟩, .string ⟨#[66, 66, 66]⟩, .int .i64 10560, .int .i64 10620, .string ⟨#[98, 55, 51, 55]⟩, .int .i64 0, .int .i64 0, .int .i64 0] 107 (0, 0)) := q2
  have q3d : W.drew.heap[b3]? = some (.cells #[.string ⟨#[88, 50]⟩, .string ⟨#[66, 66, 66]⟩, .string ⟨#[65, 65, 65]⟩, .int .i64 10665, .int .i64 10740, .string ⟨#[98, 55, 51, 55]⟩, .int .i64 0, .int .i64 0, .int .i64 0] 107 (0, 0)) := q3
  go_region_held3 (fun w' => w'.cell? ⟨b2, 0, none⟩ = some (.string ⟨#[88, 49]⟩) ∧ w'.cell? ⟨b2, 1, none⟩ = some (.string ⟨#[65, 65, 65]⟩) ∧ w'.cell? ⟨b2, 2, none⟩ = some (.string ⟨#[66, 66, 66]⟩) ∧ w'.cell? ⟨b2, 3, none⟩ = some (.int .i64 10560) ∧ w'.cell? ⟨b2, 4, none⟩ = some (.int .i64 10620) ∧ w'.cell? ⟨b2, 5, none⟩ = some (.string ⟨#[98, 55, 51, 55]⟩) ∧ w'.cell? ⟨b2, 6, none⟩ = some (.int .i64 0) ∧ w'.cell? ⟨b2, 7, none⟩ = some (.int .i64 0) ∧ w'.cell? ⟨b2, 8, none⟩ = some (.int .i64 0) ∧ w'.cell? ⟨b3, 0, none⟩ = some (.string ⟨#[88, 50]⟩) ∧ w'.cell? ⟨b3, 1, none⟩ = some (.string ⟨#[66, 66, 66]⟩) ∧ w'.cell? ⟨b3, 2, none⟩ = some (.string ⟨#[65, 65, 65]⟩) ∧ w'.cell? ⟨b3, 3, none⟩ = some (.int .i64 10665) ∧ w'.cell? ⟨b3, 4, none⟩ = some (.int .i64 10740) ∧ w'.cell? ⟨b3, 5, none⟩ = some (.string ⟨#[98, 55, 51, 55]⟩) ∧ w'.cell? ⟨b3, 6, none⟩ = some (.int .i64 0) ∧ w'.cell? ⟨b3, 7, none⟩ = some (.int .i64 0) ∧ w'.cell? ⟨b3, 8, none⟩ = some (.int .i64 0))
    (with_reducible (first | exact exs q2d q3d | exact exs (one_alloc_d q2) (one_alloc_d q3) | exact exs p2 p3 | exact exs r2 r3 | exact exs (one_alloc q2d) (one_alloc q3d) | exact exs (one_alloc p2) (one_alloc p3) | exact exs (one_alloc r2) (one_alloc r3) | exact exs ((set3_blk _ h20 _ _ _).trans r2) ((set3_blk _ h30 _ _ _).trans r3) | exact exs (one_alloc ((set3_blk _ h20 _ _ _).trans r2)) (one_alloc ((set3_blk _ h30 _ _ _).trans r3)) | exact exs ((set14_blk _ h21 _ _ _ _ _ _ _ _ _ _ _ _ _ _).trans ((set3_blk _ h20 _ _ _).trans r2)) ((set14_blk _ h31 _ _ _ _ _ _ _ _ _ _ _ _ _ _).trans ((set3_blk _ h30 _ _ _).trans r3)) | exact exs (one_alloc ((set14_blk _ h21 _ _ _ _ _ _ _ _ _ _ _ _ _ _).trans ((set3_blk _ h20 _ _ _).trans r2))) (one_alloc ((set14_blk _ h31 _ _ _ _ _ _ _ _ _ _ _ _ _ _).trans ((set3_blk _ h30 _ _ _).trans r3))) | fail))
    (first | (go_at_call 67; refine (zones_any _).mono ?_; rintro e w5 ⟨s1, s2, zb, rfl, hzb, hz, hb5⟩; have p0 : w5.heap[b0]? = some (.cells #[.slice none 0 0, .slice none 0 0, .slice none 0 0] 26 (0, 0)) := (by first | exact blk_after hb5 q0 | exact blk_after hb5 (one_alloc q0)); have p1 : w5.heap[b1]? = some (.cells #[.int .i64 0, .int .i64 0, .int .i64 0, .int .i64 0, .int .i64 0, .int .i64 0, .int .i64 0, .slice none 0 0, .slice none 0 0, .slice none 0 0, .slice none 0 0, .slice none 0 0, .slice none 0 0, .int .i64 0] 34 (0, 0)) := (by first | exact blk_after hb5 q1 | exact blk_after hb5 (one_alloc q1)); have p2 : w5.heap[b2]? = some (.cells #[.string ⟨#[88, 49]⟩, .string ⟨#[65, 65, 65]⟩, .string ⟨#[66, 66, 66]⟩, .int .i64 10560, .int .i64 10620, .string ⟨#[98, 55, 51, 55]⟩, .int .i64 0, .int .i64 0, .int .i64 0] 107 (0, 0)) := (by first | exact blk_after hb5 q2 | exact blk_after hb5 (one_alloc q2)); have p3 : w5.heap[b3]? = some (.cells #[.string ⟨#[88, 50]⟩, .string ⟨#[66, 66, 66]⟩, .string ⟨#[65, 65, 65]⟩, .int .i64 10665, .int .i64 10740, .string ⟨#[98, 55, 51, 55]⟩, .int .i64 0, .int .i64 0, .int .i64 0] 107 (0, 0)) := (by first | exact blk_after hb5 q3 | exact blk_after hb5 (one_alloc q3))) | (go_at_call 68; refine (airports_any _).mono ?_; rintro e w6 ⟨ab, rfl, hab, ha, hb6⟩; have r0 : w6.heap[b0]? = some (.cells #[.slice none 0 0, .slice none 0 0, .slice none 0 0] 26 (0, 0)) := (by first | exact blk_after hb6 p0 | exact blk_after hb6 (one_alloc p0)); have r1 : w6.heap[b1]? = some (.cells #[.int .i64 0, .int .i64 0, .int .i64 0, .int .i64 0, .int .i64 0, .int .i64 0, .int .i64 0, .slice none 0 0, .slice none 0 0, .slice none 0 0, .slice none 0 0, .slice none 0 0, .slice none 0 0, .int .i64 0] 34 (0, 0)) := (by first | exact blk_after hb6 p1 | exact blk_after hb6 (one_alloc p1)); have r2 : w6.heap[b2]? = some (.cells #[.string ⟨#[88, 49]⟩, .string ⟨#[65, 65, 65]⟩, .string ⟨#[66, 66, 66]⟩, .int .i64 10560, .int .i64 10620, .string ⟨#[98, 55, 51, 55]⟩, .int .i64 0, .int .i64 0, .int .i64 0] 107 (0, 0)) := (by first | exact blk_after hb6 p2 | exact blk_after hb6 (one_alloc p2)); have r3 : w6.heap[b3]? = some (.cells #[.string ⟨#[88, 50]⟩, .string ⟨#[66, 66, 66]⟩, .string ⟨#[65, 65, 65]⟩, .int .i64 10665, .int .i64 10740, .string ⟨#[98, 55, 51, 55]⟩, .int .i64 0, .int .i64 0, .int .i64 0] 107 (0, 0)) := (by first | exact blk_after hb6 p3 | exact blk_after hb6 (one_alloc p3)); have y00 : w6.cell? ⟨b0, 0, none⟩ = some (.slice none 0 0) := cellW (j := 0) r0 rfl; have y01 : w6.cell? ⟨b0, 1, none⟩ = some (.slice none 0 0) := cellW (j := 1) r0 rfl; have y02 : w6.cell? ⟨b0, 2, none⟩ = some (.slice none 0 0) := cellW (j := 2) r0 rfl; have y10 : w6.cell? ⟨b1, 0, none⟩ = some (.int .i64 0) := cellW (j := 0) r1 rfl; have y11 : w6.cell? ⟨b1, 1, none⟩ = some (.int .i64 0) := cellW (j := 1) r1 rfl; have y12 : w6.cell? ⟨b1, 2, none⟩ = some (.int .i64 0) := cellW (j := 2) r1 rfl; have y13 : w6.cell? ⟨b1, 3, none⟩ = some (.int .i64 0) := cellW (j := 3) r1 rfl; have y14 : w6.cell? ⟨b1, 4, none⟩ = some (.int .i64 0) := cellW (j := 4) r1 rfl; have y15 : w6.cell? ⟨b1, 5, none⟩ = some (.int .i64 0) := cellW (j := 5) r1 rfl; have y16 : w6.cell? ⟨b1, 6, none⟩ = some (.int .i64 0) := cellW (j := 6) r1 rfl; have y17 : w6.cell? ⟨b1, 7, none⟩ = some (.slice none 0 0) := cellW (j := 7) r1 rfl; have y18 : w6.cell? ⟨b1, 8, none⟩ = some (.slice none 0 0) := cellW (j := 8) r1 rfl; have y19 : w6.cell? ⟨b1, 9, none⟩ = some (.slice none 0 0) := cellW (j := 9) r1 rfl; have y110 : w6.cell? ⟨b1, 10, none⟩ = some (.slice none 0 0) := cellW (j := 10) r1 rfl; have y111 : w6.cell? ⟨b1, 11, none⟩ = some (.slice none 0 0) := cellW (j := 11) r1 rfl; have y112 : w6.cell? ⟨b1, 12, none⟩ = some (.slice none 0 0) := cellW (j := 12) r1 rfl; have y113 : w6.cell? ⟨b1, 13, none⟩ = some (.int .i64 0) := cellW (j := 13) r1 rfl; have z0 : ∀ j, w6.frozen? ⟨b0, j, none⟩ = false := fun j => freeW r0; have z1 : ∀ j, w6.frozen? ⟨b1, j, none⟩ = false := fun j => freeW r1; have l0 := lt_of_block r0; have l1 := lt_of_block r1))
  · have HW5 := (Below.then ((Below.refl _ W).drew) hb5)
    have HW6 := Below.then HW5 hb6
    have L0 := lt_of_block q0
    have L1 := lt_of_block q1
    have hs5 := HW5.size
    have hs6 := HW6.size
    have hz6 : ZonesB w6 s1 s2 zb := hz.keep (fun j o _ h => blk_after hb6 h)
    have zl : W.heap.size ≤ s1 ∧ W.heap.size ≤ s2 ∧ W.heap.size ≤ zb := hzb
    have zn : ∀ j, j = s1 ∨ j = s2 ∨ j = zb → j ≠ b0 ∧ j ≠ b1 := fun j hj => by omega
    have al : W.heap.size ≤ ab := Nat.le_trans hs5 hab
    go_wp2_with fail
    obtain ⟨G6, hG6⟩ : ∃ G6 : World, G6 = (((((((((((((((((w6.setCell ⟨b0, 0, none⟩ (.slice (some ⟨zb, 0, none⟩) 3 3)).setCell ⟨b0, 1, none⟩ (.slice (some ⟨ab, 0, none⟩) 3 3)).setCell ⟨b0, 2, none⟩ (.slice (some ⟨w6.heap.size, 0, none⟩) 2 2)).setCell ⟨b1, 0, none⟩ (.int .i64 60)).setCell ⟨b1, 1, none⟩ (.int .i64 30)).setCell ⟨b1, 2, none⟩ (.int .i64 40)).setCell ⟨b1, 3, none⟩ (.int .i64 1440)).setCell ⟨b1, 4, none⟩ (.int .i64 2880)).setCell ⟨b1, 5, none⟩ (.int .i64 0)).setCell ⟨b1, 6, none⟩ (.int .i64 0)).setCell ⟨b1, 7, none⟩ (.slice none 0 0)).setCell ⟨b1, 8, none⟩ (.slice none 0 0)).setCell ⟨b1, 9, none⟩ (.slice none 0 0)).setCell ⟨b1, 10, none⟩ (.slice none 0 0)).setCell ⟨b1, 11, none⟩ (.slice none 0 0)).setCell ⟨b1, 12, none⟩ (.slice none 0 0)).setCell ⟨b1, 13, none⟩ (.int .i64 0)) := ⟨_, rfl⟩
    rw [← hG6]
    obtain ⟨K, Q0, Q1, hsz, hBel⟩ := ex_g hG6 h01 r0 r1
    have hBF := hBel _ _ (Below.then HB0.out HW6) hwb.1 hwb.2
    have hzF : ZonesB G6 s1 s2 zb := hz6.keep (fun j o hj h => K j o (zn j hj).1 (zn j hj).2 h)
    have haF : AirsB G6 ab := K _ _ (by omega) (by omega) ha
    have hfF : (G6.alloc (Obj.cells #[.string ⟨#[88, 49]⟩, .string ⟨#[65, 65, 65]⟩, .string ⟨#[66, 66, 66]⟩, .int .i64 10560, .int .i64 10620, .string ⟨#[98, 55, 51, 55]⟩, .int .i64 0, .int .i64 0, .int .i64 0, .string ⟨#[88, 50]⟩, .string ⟨#[66, 66, 66]⟩, .string ⟨#[65, 65, 65]⟩, .int .i64 10665, .int .i64 10740, .string ⟨#[98, 55, 51, 55]⟩, .int .i64 0, .int .i64 0, .int .i64 0] 107)).heap[w6.heap.size]? = some (.cells #[.string ⟨#[88, 49]⟩, .string ⟨#[65, 65, 65]⟩, .string ⟨#[66, 66, 66]⟩, .int .i64 10560, .int .i64 10620, .string ⟨#[98, 55, 51, 55]⟩, .int .i64 0, .int .i64 0, .int .i64 0, .string ⟨#[88, 50]⟩, .string ⟨#[66, 66, 66]⟩, .string ⟨#[65, 65, 65]⟩, .int .i64 10665, .int .i64 10740, .string ⟨#[98, 55, 51, 55]⟩, .int .i64 0, .int .i64 0, .int .i64 0] 107 (0, 0)) := by rw [← hsz]; exact heap_new _ _
    have hzF2 : ZonesB (G6.alloc (Obj.cells #[.string ⟨#[88, 49]⟩, .string ⟨#[65, 65, 65]⟩, .string ⟨#[66, 66, 66]⟩, .int .i64 10560, .int .i64 10620, .string ⟨#[98, 55, 51, 55]⟩, .int .i64 0, .int .i64 0, .int .i64 0, .string ⟨#[88, 50]⟩, .string ⟨#[66, 66, 66]⟩, .string ⟨#[65, 65, 65]⟩, .int .i64 10665, .int .i64 10740, .string ⟨#[98, 55, 51, 55]⟩, .int .i64 0, .int .i64 0, .int .i64 0] 107)) s1 s2 zb := hzF.keep (fun j o _ h => one_alloc h)
    have haF2 : AirsB (G6.alloc (Obj.cells #[.string ⟨#[88, 49]⟩, .string ⟨#[65, 65, 65]⟩, .string ⟨#[66, 66, 66]⟩, .int .i64 10560, .int .i64 10620, .string ⟨#[98, 55, 51, 55]⟩, .int .i64 0, .int .i64 0, .int .i64 0, .string ⟨#[88, 50]⟩, .string ⟨#[66, 66, 66]⟩, .string ⟨#[65, 65, 65]⟩, .int .i64 10665, .int .i64 10740, .string ⟨#[98, 55, 51, 55]⟩, .int .i64 0, .int .i64 0, .int .i64 0] 107)) ab := one_alloc haF
    have Q02 : (G6.alloc (Obj.cells #[.string ⟨#[88, 49]⟩, .string ⟨#[65, 65, 65]⟩, .string ⟨#[66, 66, 66]⟩, .int .i64 10560, .int .i64 10620, .string ⟨#[98, 55, 51, 55]⟩, .int .i64 0, .int .i64 0, .int .i64 0, .string ⟨#[88, 50]⟩, .string ⟨#[66, 66, 66]⟩, .string ⟨#[65, 65, 65]⟩, .int .i64 10665, .int .i64 10740, .string ⟨#[98, 55, 51, 55]⟩, .int .i64 0, .int .i64 0, .int .i64 0] 107)).heap[b0]? = some (.cells #[.slice (some ⟨zb, 0, none⟩) 3 3, .slice (some ⟨ab, 0, none⟩) 3 3, .slice (some ⟨w6.heap.size, 0, none⟩) 2 2] 26 (0, 0)) := one_alloc Q0
    have Q12 : (G6.alloc (Obj.cells #[.string ⟨#[88, 49]⟩, .string ⟨#[65, 65, 65]⟩, .string ⟨#[66, 66, 66]⟩, .int .i64 10560, .int .i64 10620, .string ⟨#[98, 55, 51, 55]⟩, .int .i64 0, .int .i64 0, .int .i64 0, .string ⟨#[88, 50]⟩, .string ⟨#[66, 66, 66]⟩, .string ⟨#[65, 65, 65]⟩, .int .i64 10665, .int .i64 10740, .string ⟨#[98, 55, 51, 55]⟩, .int .i64 0, .int .i64 0, .int .i64 0] 107)).heap[b1]? = some (.cells #[.int .i64 60, .int .i64 30, .int .i64 40, .int .i64 1440, .int .i64 2880, .int .i64 0, .int .i64 0, .slice none 0 0, .slice none 0 0, .slice none 0 0, .slice none 0 0, .slice none 0 0, .slice none 0 0, .int .i64 0] 34 (0, 0)) := one_alloc Q1
    have DONE := Lib.hid (ex_done (Below.then hBF (below_new _ _)) hzF2 haF2 hfF)
    have HQ0 := Lib.hid Q02
    have HQ1 := Lib.hid Q12
    clear hG6
    clear Q0 Q1 Q02 Q12 hfF hzF2 haF2 hzF haF hBF K hBel hsz
    generalize (G6.alloc (Obj.cells #[.string ⟨#[88, 49]⟩, .string ⟨#[65, 65, 65]⟩, .string ⟨#[66, 66, 66]⟩, .int .i64 10560, .int .i64 10620, .string ⟨#[98, 55, 51, 55]⟩, .int .i64 0, .int .i64 0, .int .i64 0, .string ⟨#[88, 50]⟩, .string ⟨#[66, 66, 66]⟩, .string ⟨#[65, 65, 65]⟩, .int .i64 10665, .int .i64 10740, .string ⟨#[98, 55, 51, 55]⟩, .int .i64 0, .int .i64 0, .int .i64 0] 107)) = F at *
    have f00 : F.cell? ⟨b0, 0, none⟩ = some (.slice (some ⟨zb, 0, none⟩) 3 3) := cellW (j := 0) HQ0.out rfl
    have f01 : F.cell? ⟨b0, 1, none⟩ = some (.slice (some ⟨ab, 0, none⟩) 3 3) := cellW (j := 1) HQ0.out rfl
    have f02 : F.cell? ⟨b0, 2, none⟩ = some (.slice (some ⟨w6.heap.size, 0, none⟩) 2 2) := cellW (j := 2) HQ0.out rfl
    have f10 : F.cell? ⟨b1, 0, none⟩ = some (.int .i64 60) := cellW (j := 0) HQ1.out rfl
    have f11 : F.cell? ⟨b1, 1, none⟩ = some (.int .i64 30) := cellW (j := 1) HQ1.out rfl
    have f12 : F.cell? ⟨b1, 2, none⟩ = some (.int .i64 40) := cellW (j := 2) HQ1.out rfl
    have f13 : F.cell? ⟨b1, 3, none⟩ = some (.int .i64 1440) := cellW (j := 3) HQ1.out rfl
    have f14 : F.cell? ⟨b1, 4, none⟩ = some (.int .i64 2880) := cellW (j := 4) HQ1.out rfl
    have f15 : F.cell? ⟨b1, 5, none⟩ = some (.int .i64 0) := cellW (j := 5) HQ1.out rfl
    have f16 : F.cell? ⟨b1, 6, none⟩ = some (.int .i64 0) := cellW (j := 6) HQ1.out rfl
    have f17 : F.cell? ⟨b1, 7, none⟩ = some (.slice none 0 0) := cellW (j := 7) HQ1.out rfl
    have f18 : F.cell? ⟨b1, 8, none⟩ = some (.slice none 0 0) := cellW (j := 8) HQ1.out rfl
    have f19 : F.cell? ⟨b1, 9, none⟩ = some (.slice none 0 0) := cellW (j := 9) HQ1.out rfl
    have f110 : F.cell? ⟨b1, 10, none⟩ = some (.slice none 0 0) := cellW (j := 10) HQ1.out rfl
    have f111 : F.cell? ⟨b1, 11, none⟩ = some (.slice none 0 0) := cellW (j := 11) HQ1.out rfl
    have f112 : F.cell? ⟨b1, 12, none⟩ = some (.slice none 0 0) := cellW (j := 12) HQ1.out rfl
    have f113 : F.cell? ⟨b1, 13, none⟩ = some (.int .i64 0) := cellW (j := 13) HQ1.out rfl
    exact bodyPost_ret (v := .tuple #[.agg #[.slice (some ⟨zb, 0, none⟩) 3 3, .slice (some ⟨ab, 0, none⟩) 3 3, .slice (some ⟨w6.heap.size, 0, none⟩) 2 2], .agg #[.int .i64 60, .int .i64 30, .int .i64 40, .int .i64 1440, .int .i64 2880, .int .i64 0, .int .i64 0, .slice none 0 0, .slice none 0 0, .slice none 0 0, .slice none 0 0, .slice none 0 0, .slice none 0 0, .int .i64 0]]) (by simp [results, Tryz.results49, go_sem, f00, f01, f02, f10, f11, f12, f13, f14, f15, f16, f17, f18, f19, f110, f111, f112, f113]) rfl DONE.out
  · have HW5 := (Below.then ((Below.refl _ W).drew) hb5)
    have HW6 := Below.then HW5 (Below.then (below_new w5 _) hb6)
    have L0 := lt_of_block q0
    have L1 := lt_of_block q1
    have hs5 := HW5.size
    have hs6 := HW6.size
    have hz6 : ZonesB w6 s1 s2 zb := hz.keep (fun j o _ h => blk_after (Below.then (below_new w5 _) hb6) h)
    have zl : W.heap.size ≤ s1 ∧ W.heap.size ≤ s2 ∧ W.heap.size ≤ zb := hzb
    have zn : ∀ j, j = s1 ∨ j = s2 ∨ j = zb → j ≠ b0 ∧ j ≠ b1 := fun j hj => by omega
    have al : W.heap.size ≤ ab := (by have hh := hab; simp at hh; omega)
    go_wp2_with fail
    obtain ⟨G6, hG6⟩ : ∃ G6 : World, G6 = (((((((((((((((((w6.setCell ⟨b0, 0, none⟩ (.slice (some ⟨zb, 0, none⟩) 3 3)).setCell ⟨b0, 1, none⟩ (.slice (some ⟨ab, 0, none⟩) 3 3)).setCell ⟨b0, 2, none⟩ (.slice (some ⟨w5.heap.size, 0, none⟩) 2 2)).setCell ⟨b1, 0, none⟩ (.int .i64 60)).setCell ⟨b1, 1, none⟩ (.int .i64 30)).setCell ⟨b1, 2, none⟩ (.int .i64 40)).setCell ⟨b1, 3, none⟩ (.int .i64 1440)).setCell ⟨b1, 4, none⟩ (.int .i64 2880)).setCell ⟨b1, 5, none⟩ (.int .i64 0)).setCell ⟨b1, 6, none⟩ (.int .i64 0)).setCell ⟨b1, 7, none⟩ (.slice none 0 0)).setCell ⟨b1, 8, none⟩ (.slice none 0 0)).setCell ⟨b1, 9, none⟩ (.slice none 0 0)).setCell ⟨b1, 10, none⟩ (.slice none 0 0)).setCell ⟨b1, 11, none⟩ (.slice none 0 0)).setCell ⟨b1, 12, none⟩ (.slice none 0 0)).setCell ⟨b1, 13, none⟩ (.int .i64 0)) := ⟨_, rfl⟩
    rw [← hG6]
    obtain ⟨K, Q0, Q1, hsz, hBel⟩ := ex_g hG6 h01 r0 r1
    have hBF := hBel _ _ (Below.then HB0.out HW6) hwb.1 hwb.2
    have hzF : ZonesB G6 s1 s2 zb := hz6.keep (fun j o hj h => K j o (zn j hj).1 (zn j hj).2 h)
    have haF : AirsB G6 ab := K _ _ (by omega) (by omega) ha
    have hf6 : w6.heap[w5.heap.size]? = some (.cells #[.string ⟨#[88, 49]⟩, .string ⟨#[65, 65, 65]⟩, .string ⟨#[66, 66, 66]⟩, .int .i64 10560, .int .i64 10620, .string ⟨#[98, 55, 51, 55]⟩, .int .i64 0, .int .i64 0, .int .i64 0, .string ⟨#[88, 50]⟩, .string ⟨#[66, 66, 66]⟩, .string ⟨#[65, 65, 65]⟩, .int .i64 10665, .int .i64 10740, .string ⟨#[98, 55, 51, 55]⟩, .int .i64 0, .int .i64 0, .int .i64 0] 107 (0, 0)) := (blk_after hb6 (heap_new w5 _))
    have hfF : G6.heap[w5.heap.size]? = some (.cells #[.string ⟨#[88, 49]⟩, .string ⟨#[65, 65, 65]⟩, .string ⟨#[66, 66, 66]⟩, .int .i64 10560, .int .i64 10620, .string ⟨#[98, 55, 51, 55]⟩, .int .i64 0, .int .i64 0, .int .i64 0, .string ⟨#[88, 50]⟩, .string ⟨#[66, 66, 66]⟩, .string ⟨#[65, 65, 65]⟩, .int .i64 10665, .int .i64 10740, .string ⟨#[98, 55, 51, 55]⟩, .int .i64 0, .int .i64 0, .int .i64 0] 107 (0, 0)) := K _ _ (by omega) (by omega) hf6
    have DONE := Lib.hid (ex_done hBF hzF haF hfF)
    have HQ0 := Lib.hid Q0
    have HQ1 := Lib.hid Q1
    clear hG6
    have f00 : G6.cell? ⟨b0, 0, none⟩ = some (.slice (some ⟨zb, 0, none⟩) 3 3) := cellW (j := 0) HQ0.out rfl
    have f01 : G6.cell? ⟨b0, 1, none⟩ = some (.slice (some ⟨ab, 0, none⟩) 3 3) := cellW (j := 1) HQ0.out rfl
    have f02 : G6.cell? ⟨b0, 2, none⟩ = some (.slice (some ⟨w5.heap.size, 0, none⟩) 2 2) := cellW (j := 2) HQ0.out rfl
    have f10 : G6.cell? ⟨b1, 0, none⟩ = some (.int .i64 60) := cellW (j := 0) HQ1.out rfl
    have f11 : G6.cell? ⟨b1, 1, none⟩ = some (.int .i64 30) := cellW (j := 1) HQ1.out rfl
    have f12 : G6.cell? ⟨b1, 2, none⟩ = some (.int .i64 40) := cellW (j := 2) HQ1.out rfl
    have f13 : G6.cell? ⟨b1, 3, none⟩ = some (.int .i64 1440) := cellW (j := 3) HQ1.out rfl
    have f14 : G6.cell? ⟨b1, 4, none⟩ = some (.int .i64 2880) := cellW (j := 4) HQ1.out rfl
    have f15 : G6.cell? ⟨b1, 5, none⟩ = some (.int .i64 0) := cellW (j := 5) HQ1.out rfl
    have f16 : G6.cell? ⟨b1, 6, none⟩ = some (.int .i64 0) := cellW (j := 6) HQ1.out rfl
    have f17 : G6.cell? ⟨b1, 7, none⟩ = some (.slice none 0 0) := cellW (j := 7) HQ1.out rfl
    have f18 : G6.cell? ⟨b1, 8, none⟩ = some (.slice none 0 0) := cellW (j := 8) HQ1.out rfl
    have f19 : G6.cell? ⟨b1, 9, none⟩ = some (.slice none 0 0) := cellW (j := 9) HQ1.out rfl
    have f110 : G6.cell? ⟨b1, 10, none⟩ = some (.slice none 0 0) := cellW (j := 10) HQ1.out rfl
    have f111 : G6.cell? ⟨b1, 11, none⟩ = some (.slice none 0 0) := cellW (j := 11) HQ1.out rfl
    have f112 : G6.cell? ⟨b1, 12, none⟩ = some (.slice none 0 0) := cellW (j := 12) HQ1.out rfl
    have f113 : G6.cell? ⟨b1, 13, none⟩ = some (.int .i64 0) := cellW (j := 13) HQ1.out rfl
    exact bodyPost_ret (v := .tuple #[.agg #[.slice (some ⟨zb, 0, none⟩) 3 3, .slice (some ⟨ab, 0, none⟩) 3 3, .slice (some ⟨w5.heap.size, 0, none⟩) 2 2], .agg #[.int .i64 60, .int .i64 30, .int .i64 40, .int .i64 1440, .int .i64 2880, .int .i64 0, .int .i64 0, .slice none 0 0, .slice none 0 0, .slice none 0 0, .slice none 0 0, .slice none 0 0, .slice none 0 0, .int .i64 0]]) (by simp [results, Tryz.results49, go_sem, f00, f01, f02, f10, f11, f12, f13, f14, f15, f16, f17, f18, f19, f110, f111, f112, f113]) rfl DONE.out
  · have HW5 := (Below.then ((below_new W _).drew) hb5)
    have HW6 := Below.then HW5 hb6
    have L0 := lt_of_block q0
    have L1 := lt_of_block q1
    have hs5 := HW5.size
    have hs6 := HW6.size
    have hz6 : ZonesB w6 s1 s2 zb := hz.keep (fun j o _ h => blk_after hb6 h)
    have zl : W.heap.size ≤ s1 ∧ W.heap.size ≤ s2 ∧ W.heap.size ≤ zb := (by have hh := hzb; simp at hh; omega)
    have zn : ∀ j, j = s1 ∨ j = s2 ∨ j = zb → j ≠ b0 ∧ j ≠ b1 := fun j hj => by omega
    have al : W.heap.size ≤ ab := Nat.le_trans hs5 hab
    go_wp2_with fail
    obtain ⟨G6, hG6⟩ : ∃ G6 : World, G6 = (((((((((((((((((w6.setCell ⟨b0, 0, none⟩ (.slice (some ⟨zb, 0, none⟩) 3 3)).setCell ⟨b0, 1, none⟩ (.slice (some ⟨ab, 0, none⟩) 3 3)).setCell ⟨b0, 2, none⟩ (.slice (some ⟨W.heap.size, 0, none⟩) 2 2)).setCell ⟨b1, 0, none⟩ (.int .i64 60)).setCell ⟨b1, 1, none⟩ (.int .i64 30)).setCell ⟨b1, 2, none⟩ (.int .i64 40)).setCell ⟨b1, 3, none⟩ (.int .i64 1440)).setCell ⟨b1, 4, none⟩ (.int .i64 2880)).setCell ⟨b1, 5, none⟩ (.int .i64 0)).setCell ⟨b1, 6, none⟩ (.int .i64 0)).setCell ⟨b1, 7, none⟩ (.slice none 0 0)).setCell ⟨b1, 8, none⟩ (.slice none 0 0)).setCell ⟨b1, 9, none⟩ (.slice none 0 0)).setCell ⟨b1, 10, none⟩ (.slice none 0 0)).setCell ⟨b1, 11, none⟩ (.slice none 0 0)).setCell ⟨b1, 12, none⟩ (.slice none 0 0)).setCell ⟨b1, 13, none⟩ (.int .i64 0)) := ⟨_, rfl⟩
    rw [← hG6]
    obtain ⟨K, Q0, Q1, hsz, hBel⟩ := ex_g hG6 h01 r0 r1
    have hBF := hBel _ _ (Below.then HB0.out HW6) hwb.1 hwb.2
    have hzF : ZonesB G6 s1 s2 zb := hz6.keep (fun j o hj h => K j o (zn j hj).1 (zn j hj).2 h)
    have haF : AirsB G6 ab := K _ _ (by omega) (by omega) ha
    have hf6 : w6.heap[W.heap.size]? = some (.cells #[.string ⟨#[88, 49]⟩, .string ⟨#[65, 65, 65]⟩, .string ⟨#[66, 66, 66]⟩, .int .i64 10560, .int .i64 10620, .string ⟨#[98, 55, 51, 55]⟩, .int .i64 0, .int .i64 0, .int .i64 0, .string ⟨#[88, 50]⟩, .string ⟨#[66, 66, 66]⟩, .string ⟨#[65, 65, 65]⟩, .int .i64 10665, .int .i64 10740, .string ⟨#[98, 55, 51, 55]⟩, .int .i64 0, .int .i64 0, .int .i64 0] 107 (0, 0)) := (blk_after hb6 (blk_after hb5 (show (W.alloc (Obj.cells #[.string ⟨#[88, 49]⟩, .string ⟨#[65, 65, 65]⟩, .string ⟨#[66, 66, 66]⟩, .int .i64 10560, .int .i64 10620, .string ⟨#[98, 55, 51, 55]⟩, .int .i64 0, .int .i64 0, .int .i64 0, .string ⟨#[88, 50]⟩, .string ⟨#[66, 66, 66]⟩, .string ⟨#[65, 65, 65]⟩, .int .i64 10665, .int .i64 10740, .string ⟨#[98, 55, 51, 55]⟩, .int .i64 0, .int .i64 0, .int .i64 0] 107)).drew.heap[W.heap.size]? = some (Obj.cells #[.string ⟨#[88, 49]⟩, .string ⟨#[65, 65, 65]⟩, .string ⟨#[66, 66, 66]⟩, .int .i64 10560, .int .i64 10620, .string ⟨#[98, 55, 51, 55]⟩, .int .i64 0, .int .i64 0, .int .i64 0, .string ⟨#[88, 50]⟩, .string ⟨#[66, 66, 66]⟩, .string ⟨#[65, 65, 65]⟩, .int .i64 10665, .int .i64 10740, .string ⟨#[98, 55, 51, 55]⟩, .int .i64 0, .int .i64 0, .int .i64 0] 107) from heap_new W _)))
    have hfF : G6.heap[W.heap.size]? = some (.cells #[.string ⟨#[88, 49]⟩, .string ⟨#[65, 65, 65]⟩, .string ⟨#[66, 66, 66]⟩, .int .i64 10560, .int .i64 10620, .string ⟨#[98, 55, 51, 55]⟩, .int .i64 0, .int .i64 0, .int .i64 0, .string ⟨#[88, 50]⟩, .string ⟨#[66, 66, 66]⟩, .string ⟨#[65, 65, 65]⟩, .int .i64 10665, .int .i64 10740, .string ⟨#[98, 55, 51, 55]⟩, .int .i64 0, .int .i64 0, .int .i64 0] 107 (0, 0)) := K _ _ (by omega) (by omega) hf6
    have DONE := Lib.hid (ex_done hBF hzF haF hfF)
    have HQ0 := Lib.hid Q0
    have HQ1 := Lib.hid Q1
    clear hG6
    have f00 : G6.cell? ⟨b0, 0, none⟩ = some (.slice (some ⟨zb, 0, none⟩) 3 3) := cellW (j := 0) HQ0.out rfl
    have f01 : G6.cell? ⟨b0, 1, none⟩ = some (.slice (some ⟨ab, 0, none⟩) 3 3) := cellW (j := 1) HQ0.out rfl
    have f02 : G6.cell? ⟨b0, 2, none⟩ = some (.slice (some ⟨W.heap.size, 0, none⟩) 2 2) := cellW (j := 2) HQ0.out rfl
    have f10 : G6.cell? ⟨b1, 0, none⟩ = some (.int .i64 60) := cellW (j := 0) HQ1.out rfl
    have f11 : G6.cell? ⟨b1, 1, none⟩ = some (.int .i64 30) := cellW (j := 1) HQ1.out rfl
    have f12 : G6.cell? ⟨b1, 2, none⟩ = some (.int .i64 40) := cellW (j := 2) HQ1.out rfl
    have f13 : G6.cell? ⟨b1, 3, none⟩ = some (.int .i64 1440) := cellW (j := 3) HQ1.out rfl
    have f14 : G6.cell? ⟨b1, 4, none⟩ = some (.int .i64 2880) := cellW (j := 4) HQ1.out rfl
    have f15 : G6.cell? ⟨b1, 5, none⟩ = some (.int .i64 0) := cellW (j := 5) HQ1.out rfl
    have f16 : G6.cell? ⟨b1, 6, none⟩ = some (.int .i64 0) := cellW (j := 6) HQ1.out rfl
    have f17 : G6.cell? ⟨b1, 7, none⟩ = some (.slice none 0 0) := cellW (j := 7) HQ1.out rfl
    have f18 : G6.cell? ⟨b1, 8, none⟩ = some (.slice none 0 0) := cellW (j := 8) HQ1.out rfl
    have f19 : G6.cell? ⟨b1, 9, none⟩ = some (.slice none 0 0) := cellW (j := 9) HQ1.out rfl
    have f110 : G6.cell? ⟨b1, 10, none⟩ = some (.slice none 0 0) := cellW (j := 10) HQ1.out rfl
    have f111 : G6.cell? ⟨b1, 11, none⟩ = some (.slice none 0 0) := cellW (j := 11) HQ1.out rfl
    have f112 : G6.cell? ⟨b1, 12, none⟩ = some (.slice none 0 0) := cellW (j := 12) HQ1.out rfl
    have f113 : G6.cell? ⟨b1, 13, none⟩ = some (.int .i64 0) := cellW (j := 13) HQ1.out rfl
    exact bodyPost_ret (v := .tuple #[.agg #[.slice (some ⟨zb, 0, none⟩) 3 3, .slice (some ⟨ab, 0, none⟩) 3 3, .slice (some ⟨W.heap.size, 0, none⟩) 2 2], .agg #[.int .i64 60, .int .i64 30, .int .i64 40, .int .i64 1440, .int .i64 2880, .int .i64 0, .int .i64 0, .slice none 0 0, .slice none 0 0, .slice none 0 0, .slice none 0 0, .slice none 0 0, .slice none 0 0, .int .i64 0]]) (by simp [results, Tryz.results49, go_sem, f00, f01, f02, f10, f11, f12, f13, f14, f15, f16, f17, f18, f19, f110, f111, f112, f113]) rfl DONE.out
end Go.Proofs.YtpgbckgjlgecpaaGreat
/- the sanity check of law 15 -/
namespace Go.Proofs.YtpgbckgjlgecpaaGreat
open Go.RowKit Go.Sort
set_option linter.unusedVariables false
set_option linter.unusedSimpArgs false
set_option maxRecDepth 100000
theorem exV : dvals exT exC exD = [2, 0, 1, 135, 270, 0, 45, 45, 0, 420, 690] := by decide +kernel
theorem exE : dErr exT exC exD = 0 := by rw [dErr_d exT_ok exC_ok]; exact exD_ok
def exL : List (ByteArray × Int) := (attrNames 1).zip (dvals exT exC exD)
theorem exL_block : atF exL ⟨#[98, 108, 111, 99, 107]⟩ = (135, 0) := by rw [exL, exV]; decide +kernel
theorem exL_span : atF exL ⟨#[115, 112, 97, 110]⟩ = (270, 0) := by rw [exL, exV]; decide +kernel
theorem exL_len : exL.length = 11 := by rw [exL, exV]; rfl
theorem atCells_zip (N : List ByteArray) (q : List Int) (h : q.length = N.length) : ∀ k, k ≤ q.length → ∀ i, i < k → (atCells N q k)[i * 2]? = some (.string (arAt (N.zip q) i).1) ∧ (atCells N q k)[i * 2 + 1]? = some (.int .i64 (arAt (N.zip q) i).2)
  | 0, _, i, hi => absurd hi (Nat.not_lt_zero _)
  | k + 1, hk, i, hi => by
    have hlen : ∀ m, (atCells N q m).length = m * 2 := fun m => by
      induction m with
      | zero => rfl
      | succ m ih => rw [atCells, List.length_append, ih]; simp; omega
    rw [atCells]
    by_cases e : i = k
    · subst e
      have hz : arAt (N.zip q) i = (sAt N i, iAt q i) := by
        have h1 : i < N.length := by omega
        have h2 : i < q.length := by omega
        have hN : N[i]? = some N[i] := List.getElem?_eq_getElem h1
        have hq2 : q[i]? = some q[i] := List.getElem?_eq_getElem h2
        have hz2 : (N.zip q)[i]? = some (N[i], q[i]) := List.getElem?_zip_eq_some.2 ⟨hN, hq2⟩
        unfold arAt sAt iAt
        rw [List.getD_eq_getElem?_getD, List.getD_eq_getElem?_getD, List.getD_eq_getElem?_getD, hz2, hN, hq2]
        rfl
      rw [hz]
      constructor
      · rw [List.getElem?_append_right (by rw [hlen]; omega), hlen, Nat.sub_self]; rfl
      · rw [List.getElem?_append_right (by rw [hlen]; omega), hlen, Nat.add_sub_cancel_left]; rfl
    · have := atCells_zip N q h k (by omega) i (by omega)
      rw [List.getElem?_append_left (by rw [hlen]; omega), List.getElem?_append_left (by rw [hlen]; omega)]
      exact this
theorem AttrRow.at {w : World} {b : Nat} {N : List ByteArray} {q : List Int} (h : AttrRow w b N q) (hq : q.length = N.length) : AttrAt w (some ⟨b, 0, none⟩) (N.zip q) := by
  obtain ⟨C, hC, ht⟩ := h
  refine .inr ⟨b, 0, rfl, lt_of_block hC, fun i hi => ?_⟩
  have hi' : i < q.length := by rw [List.length_zip] at hi; omega
  have hz := atCells_zip N q hq q.length (Nat.le_refl _) i hi'
  rw [← ht, List.getElem?_take_of_lt (by omega), List.getElem?_take_of_lt (by omega), Array.getElem?_toList, Array.getElem?_toList] at hz
  rw [Nat.zero_add]
  exact ⟨cellW hC hz.1, cellW hC hz.2⟩
theorem exDuty {w : World} {b : Nat} (h : w.heap[b]? = some (.cells #[.int .i64 0, .bool false, .int .i64 1, .bool false] 46 (0, 0))) : SlAt taskRT w (some ⟨b, 0, none⟩) exD := by
  refine SlAt.of_block h exD (fun i hi => ?_)
  rcases i with _ | _ | i
  · exact ⟨[.int .i64 0, .bool false], fun j hj => by rcases j with _ | _ | j <;> first | rfl | (simp at hj; omega), [_], [_], rfl, ⟨rfl, rfl⟩, rfl⟩
  · exact ⟨[.int .i64 1, .bool false], fun j hj => by rcases j with _ | _ | j <;> first | rfl | (simp at hj; omega), [_], [_], rfl, ⟨rfl, rfl⟩, rfl⟩
  · simp [exD] at hi; omega
set_option maxHeartbeats 1600000 in
theorem awake_any (w : World) : Calls Tryz.prog 13 #[] w fun e w' => e = .returned (.bool true) ∧ Below w.heap.size w w' := by
  go_enter Tryz.func13, Tryz.ntmps13
  go_wp2_with fail
  refine (example_any w).mono ?_
  rintro e w1 ⟨za, aa, fa, rfl, hT, hb1⟩
  have HT := Lib.hid hT
  have HB1 := Lib.hid hb1
  clear hT hb1
  go_wp2_with fail
  have HB2 := Lib.hid (Below.then (below_new w1 (Obj.cells #[.slice za 3 3, .slice aa 3 3, .slice fa 2 2] 26)) (Below.then (below_new _ (Obj.cells #[.int .i64 60, .int .i64 30, .int .i64 40, .int .i64 1440, .int .i64 2880, .int .i64 0, .int .i64 0, .slice none 0 0, .slice none 0 0, .slice none 0 0, .slice none 0 0, .slice none 0 0, .slice none 0 0, .int .i64 0] 34)) (below_new _ (Obj.cells #[.int .i64 0, .bool false, .int .i64 1, .bool false] 46))))
  have HD := Lib.hid (exDuty (heap_new ((w1.alloc (Obj.cells #[.slice za 3 3, .slice aa 3 3, .slice fa 2 2] 26)).alloc (Obj.cells #[.int .i64 60, .int .i64 30, .int .i64 40, .int .i64 1440, .int .i64 2880, .int .i64 0, .int .i64 0, .slice none 0 0, .slice none 0 0, .slice none 0 0, .slice none 0 0, .slice none 0 0, .slice none 0 0, .int .i64 0] 34)) (Obj.cells #[.int .i64 0, .bool false, .int .i64 1, .bool false] 46)))
  rw [alloc_size, alloc_size] at HD
  obtain ⟨db, hdb⟩ : ∃ db, db = w1.heap.size + 1 + 1 := ⟨_, rfl⟩
  rw [← hdb] at HD
  simp only [← hdb]
  generalize ((w1.alloc (Obj.cells #[.slice za 3 3, .slice aa 3 3, .slice fa 2 2] 26)).alloc (Obj.cells #[.int .i64 60, .int .i64 30, .int .i64 40, .int .i64 1440, .int .i64 2880, .int .i64 0, .int .i64 0, .slice none 0 0, .slice none 0 0, .slice none 0 0, .slice none 0 0, .slice none 0 0, .slice none 0 0, .int .i64 0] 34)).alloc (Obj.cells #[.int .i64 0, .bool false, .int .i64 1, .bool false] 46) = W2 at *
  refine (dutyAttributes_any exT exC za 3 aa 3 fa 2 exP (new_nil exT za aa fa 3 3 2 exC exP rfl rfl rfl) W2 (HT.out.below HB2.out) exD (some ⟨db, 0, none⟩) 2 (by decide) HD.out).mono ?_
  rintro e w3 ⟨hres, hb3⟩
  have HB3 := Lib.hid (Below.then (Below.then HB1.out HB2.out) hb3)
  clear hb3
  rcases hres with ⟨h, _⟩ | ⟨b, _, rfl, hq, hr⟩
  · exact absurd exE h
  have HA := Lib.hid (hr.at hq)
  have hl : (dvals exT exC exD).length = 11 := rfl
  rw [hl]
  clear hr hq hl HB2 HD HT HB1 hdb
  go_wp2_with fail
  have AB := Lib.hid (attribute_any exL ⟨#[98, 108, 111, 99, 107]⟩ (some ⟨b, 0, none⟩) 11 w3 HA.out (by rw [exL_len]; omega))
  rw [exL_len, exL_block] at AB
  refine (AB.out).mono ?_
  rintro e w4 ⟨rfl, hb4⟩
  have HB4 := Lib.hid (Below.then HB3.out hb4)
  have HA4 := Lib.hid (HA.out.below hb4)
  clear hb4 AB HA HB3
  go_wp2_with fail
  have AB := Lib.hid (attribute_any exL ⟨#[115, 112, 97, 110]⟩ (some ⟨b, 0, none⟩) 11 w4 HA4.out (by rw [exL_len]; omega))
  rw [exL_len, exL_span] at AB
  refine (AB.out).mono ?_
  rintro e w5 ⟨rfl, hb5⟩
  have HB5 := Lib.hid (Below.then HB4.out hb5)
  clear hb5 AB HA4 HB4
  go_wp2_with fail
  go_ret
  exact ⟨rfl, HB5.out⟩
end Go.Proofs.YtpgbckgjlgecpaaGreat
