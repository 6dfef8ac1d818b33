/- merged texts: St12 St13 Me1 -/
import Derived.Deep.RegionHeld3
import Derived.Deep.DeepCutAuto
import Derived.Test.YtpgbckgjlgecpaaGreatG5
import Derived.Test.YtpgbckgjlgecpaaGreatG6
import Derived.Test.YtpgbckgjlgecpaaGreatGA
/- contract of the setting: FillEnds -/
namespace Go.Proofs.YtpgbckgjlgecpaaGreat
open Go.RowKit Go.Sort
set_option linter.unusedVariables false
set_option linter.unusedSimpArgs false
set_option maxRecDepth 100000
/-- the values of FillEnds -/
def spanI (t : TTM) (c : ConM) (i j : Nat) : Int := (fAt t.fls j).arr + c.release - ((fAt t.fls i).dep - c.report)
def nightI (t : TTM) (c : ConM) (i j : Nat) : Int := (bandMinZ (zoneT t (fAt t.fls i).frm).name.data.toList (zoneT t (fAt t.fls i).frm).off (zoneT t (fAt t.fls i).frm).sh ((fAt t.fls i).dep - c.report) ((fAt t.fls j).arr + c.release) c.nf c.nt).1
def offFrI (t : TTM) (c : ConM) (i : Nat) : Int := (offAtZ (zoneT t (fAt t.fls i).frm).name.data.toList (zoneT t (fAt t.fls i).frm).off (zoneT t (fAt t.fls i).frm).sh ((fAt t.fls i).dep - c.report)).1
def offToI (t : TTM) (c : ConM) (j : Nat) : Int := (offAtZ (zoneT t (fAt t.fls j).to).name.data.toList (zoneT t (fAt t.fls j).to).off (zoneT t (fAt t.fls j).to).sh ((fAt t.fls j).arr + c.release)).1
def shiftI (t : TTM) (c : ConM) (i j : Nat) : Int := mx (offFrI t c i - offToI t c j) (offToI t c j - offFrI t c i)
def startI (t : TTM) (c : ConM) (i : Nat) : Int := (locTimeZ (zoneT t (fAt t.fls i).frm).name.data.toList (zoneT t (fAt t.fls i).frm).off (zoneT t (fAt t.fls i).frm).sh ((fAt t.fls i).dep - c.report)).2.1
def endI (t : TTM) (c : ConM) (j : Nat) : Int := (locTimeZ (zoneT t (fAt t.fls j).to).name.data.toList (zoneT t (fAt t.fls j).to).off (zoneT t (fAt t.fls j).to).sh ((fAt t.fls j).arr + c.release)).2.1
def ZonePost0 (w0 w : World) (z : ZoneM) (e : Ending) (w' : World) : Prop := ∃ a cap, e = .returned (.agg #[.string z.name, .int .i64 z.off, .slice a z.sh.length cap]) ∧ ShAt w0 a z.sh ∧ z.name.size ≤ 140737488355328 ∧ z.sh.length ≤ 140737488355328 ∧ Below w.heap.size w w'
set_option maxHeartbeats 400000 in
theorem zoneS0_any (w0 w : World) (sb : Nat) (t : TTM) (c : ConM) (P : SetP) (hS : SetAt w0 sb t c P) (hw : Below w0.heap.size w0 w) (s : ByteArray) : Calls Tryz.prog 130 #[.pointer (some ⟨sb, 0, none⟩), .string s] w (ZonePost0 w0 w (zoneT t s)) := by
  obtain ⟨a, cap, L1, h1, h2, h3⟩ := look_zone2 hS.zones (Below.then hw (below_new w (Obj.cells #[Value.string ⟨#[]⟩, Value.int .i64 0, Value.slice none 0 0] 85))) s
  have H1 := Lib.hid h1
  have hS' := hS.below hw
  have d17 : w.cell? ⟨sb, 17, none⟩ = some (.map (some P.zb)) := cellW (j := 17) hS'.box rfl
  have hs := hS'.lt
  clear hS hS' h1
  go_enter Tryz.func130, Tryz.ntmps130
  go_wp2_with fail
  refine bodyPost_ret (v := .agg #[.string (zoneT t s).name, .int .i64 (zoneT t s).off, .slice a (zoneT t s).sh.length cap]) (by simp [results, Tryz.results130, go_sem]) rfl ?_
  exact ⟨a, cap, rfl, H1.out, h2, h3, below_new _ _⟩

theorem offAtZ_in {nm : List UInt8} {o : Int} {l : List (Int × Int)} {t : Int} : -840 ≤ (offAtZ nm o l t).1 ∧ (offAtZ nm o l t).1 ≤ 840 := by
  by_cases h : (offAtZ nm o l t).2 = 0
  · exact (offAtZ_bd h).2.2
  · unfold offAtZ at *
    split
    · simp
    · split
      · simp
      · rename_i h1 h2
        simp [h1, h2] at h
theorem cell_set1 (w : World) {ab b : Nat} (h : ab ≠ b) (o i1 : Nat) (u1 : Value) : (w.setCell ⟨ab, i1, none⟩ u1).cell? ⟨b, o, none⟩ = w.cell? ⟨b, o, none⟩ := by
  have e : (w.setCell ⟨ab, i1, none⟩ u1).heap[b]? = w.heap[b]? := Below.heap_setCell _ _ _ _ (Ne.symm h)
  simp only [World.cell?, e]
set_option maxHeartbeats 3200000 in
theorem fillEnds_any (w0 w : World) (sb : Nat) (t : TTM) (c : ConM) (P : SetP) (hS : SetAt w0 sb t c P) (hw0 : Below w0.heap.size w0 w) (i j : Nat) (hil : i < t.fls.length) (hjl : j < t.fls.length) (g : Nat) (v0 v1 v2 v3 v4 v5 v6 v7 v8 v9 v10 : Value) (hg : w0.heap.size ≤ g) (hC : w.heap[g]? = some (.cells #[v0, v1, v2, v3, v4, v5, v6, v7, v8, v9, v10] 3 (0, 0))) (hpos : 0 < spanI t c i j) (hzf : (zoneT t (fAt t.fls i).frm).sh.length ≤ 1000000) (hzt : (zoneT t (fAt t.fls j).to).sh.length ≤ 1000000) : Calls Tryz.prog 111 #[.pointer (some ⟨sb, 0, none⟩), .slice (some ⟨g, 0, none⟩) 11 11, .int .i64 i, .int .i64 j] w fun e w' => e = .returned (.tuple #[]) ∧ w'.heap[g]? = some (.cells #[v0, v1, v2, v3, .int .i64 (spanI t c i j), .int .i64 (nightI t c i j), v6, v7, .int .i64 (shiftI t c i j), .int .i64 (startI t c i), .int .i64 (endI t c j)] 3 (0, 0)) ∧ Below w0.heap.size w0 w' := by
  have HS0 := Lib.hid hS
  obtain ⟨fb, foff, hfa, hfb, hfc⟩ := flight_cells hS.fls (by omega)
  obtain ⟨⟨-, p1, -⟩, -⟩ := hfc i hil
  obtain ⟨⟨-, -, p2, -⟩, -⟩ := hfc j hjl
  obtain ⟨ti1, ti2, ti3, ti4⟩ := flight_times hS.okT hil
  obtain ⟨tj1, tj2, tj3, tj4⟩ := flight_times hS.okT hjl
  obtain ⟨⟨k1, k2⟩, ⟨k3, k4⟩, -, -, -, ⟨k5, k6⟩, k7, k8⟩ := con_range hS.okC
  have HFA := Lib.hid hfa
  have HP1 := Lib.hid p1
  have HP2 := Lib.hid p2
  have HB0 := Lib.hid hw0
  have hsb0 := hS.lt
  have HC := Lib.hid hC
  have HS := Lib.hid (hS.below hw0)
  clear hS hfc hfa p1 p2 hw0 hC
  go_enter Tryz.func111, Tryz.ntmps111
  go_wp2_with fail
  refine (spanOf_any w sb t c P HS.out i j hil hjl).mono ?_
  rintro e w1 ⟨rfl, hb1⟩
  have HB1 := Lib.hid (Below.then hb1 (below_new w1 (Obj.cells #[.int .i64 ((fAt t.fls i).dep - c.report), .int .i64 ((fAt t.fls j).arr + c.release)] 50)))
  have hs1 := hb1.size
  clear hb1 HS
  obtain ⟨sp, hsp⟩ : ∃ sp, sp = w1.heap.size := ⟨_, rfl⟩
  have S0 := Lib.hid (show (w1.alloc (Obj.cells #[.int .i64 ((fAt t.fls i).dep - c.report), .int .i64 ((fAt t.fls j).arr + c.release)] 50)).heap[sp]? = some (.cells #[.int .i64 ((fAt t.fls i).dep - c.report), .int .i64 ((fAt t.fls j).arr + c.release)] 50 (0, 0)) by rw [hsp]; exact heap_new w1 _)
  have hspw : w.heap.size ≤ sp := by rw [hsp]; exact hs1
  go_wp2_with fail
  simp only [← hsp]
  change Calls _ _ _ (w1.alloc _) _
  generalize (w1.alloc (Obj.cells #[.int .i64 ((fAt t.fls i).dep - c.report), .int .i64 ((fAt t.fls j).arr + c.release)] 50)) = W1 at *
  clear hsp hs1
  clear w1
  have HB := Lib.hid (Below.then HB0.out HB1.out)
  have HG := Lib.hid ((HB1.out.block g (lt_of_block HC.out)).trans HC.out)
  have hgs : g ≠ sp := by have := lt_of_block HC.out; omega
  clear HC HB1 HB0
  clear hspw
  clear w
  refine (flight_any W1 sb t c P (HS0.out.below HB.out) i hil fb foff HFA.out).mono ?_
  rintro e w2 ⟨rfl, rfl⟩
  have P1 := below_cell HP1.out hfb HB.out
  have hfb1 := Nat.lt_of_lt_of_le hfb HB.out.size
  go_wp2_with fail
  refine (zoneS0_any w0 W1 sb t c P HS0.out HB.out _).mono ?_
  rintro e w2 ⟨za, zc, rfl, hza, hzn, _, hb2⟩
  have HB2 := Lib.hid (Below.then HB.out hb2)
  have S2 := Lib.hid ((hb2.block sp (lt_of_block S0.out)).trans S0.out)
  have G2 := Lib.hid ((hb2.block g (lt_of_block HG.out)).trans HG.out)
  have HZA := Lib.hid hza
  have HZn := Lib.hid (Nat.le_trans hzn (show 140737488355328 ≤ maxLen by unfold maxLen; omega))
  clear hza hzn hb2 S0 P1 HB hfb1 HG
  clear W1
  have Q2 := below_cell HP2.out hfb HB2.out
  have hfb2 := Nat.lt_of_lt_of_le hfb HB2.out.size
  go_wp2_with fail
  refine (flight_any w2 sb t c P (HS0.out.below HB2.out) j hjl fb foff HFA.out).mono ?_
  rintro e w3 ⟨rfl, rfl⟩
  go_wp2_with fail
  refine (zoneS0_any w0 w2 sb t c P HS0.out HB2.out _).mono ?_
  rintro e w3 ⟨ya, yc, rfl, hya, hyn, _, hb3⟩
  have HB3 := Lib.hid (Below.then HB2.out hb3)
  have S3 := Lib.hid ((hb3.block sp (lt_of_block S2.out)).trans S2.out)
  have G3 := Lib.hid ((hb3.block g (lt_of_block G2.out)).trans G2.out)
  have HYA := Lib.hid hya
  have HYn := Lib.hid (Nat.le_trans hyn (show 140737488355328 ≤ maxLen by unfold maxLen; omega))
  clear hya hyn hb3 S2 HB2 Q2 hfb2 G2
  clear w2
  have s0 : w3.cell? ⟨sp, 0, none⟩ = some (.int .i64 ((fAt t.fls i).dep - c.report)) := cellW (j := 0) S3.out rfl
  have s1 : w3.cell? ⟨sp, 1, none⟩ = some (.int .i64 ((fAt t.fls j).arr + c.release)) := cellW (j := 1) S3.out rfl
  have hsp3 := lt_of_block S3.out
  have y4 : w3.cell? ⟨g, 4, none⟩ = some v4 := cellW (j := 4) G3.out rfl
  have y5 : w3.cell? ⟨g, 5, none⟩ = some v5 := cellW (j := 5) G3.out rfl
  have u4 := freeW (j := 4) G3.out
  have u5 := freeW (j := 5) G3.out
  have hg3 := lt_of_block G3.out
  have e5 : (0 : Int) < (fAt t.fls j).arr + c.release - ((fAt t.fls i).dep - c.report) := hpos
  go_wp2_with fail
  obtain ⟨W4, hW4⟩ : ∃ W4 : World, W4 = ((((w3.setCell ⟨g, 4, none⟩ (.int .i64 ((fAt t.fls j).arr + c.release - ((fAt t.fls i).dep - c.report)))).setCell ⟨g, 5, none⟩ (.int .i64 0)).alloc (Obj.cells #[.string (zoneT t (fAt t.fls i).frm).name, .int .i64 (zoneT t (fAt t.fls i).frm).off, .slice za (zoneT t (fAt t.fls i).frm).sh.length zc] 85)).alloc (Obj.cells #[.string (zoneT t (fAt t.fls j).to).name, .int .i64 (zoneT t (fAt t.fls j).to).off, .slice ya (zoneT t (fAt t.fls j).to).sh.length yc] 85)) := ⟨_, rfl⟩
  rw [← hW4]
  have Q3 := block_setCell (i := 5) (u := .int .i64 0) (block_setCell (i := 4) (u := .int .i64 ((fAt t.fls j).arr + c.release - ((fAt t.fls i).dep - c.report))) G3.out)
  have G4 := Lib.hid (show W4.heap[g]? = some (.cells #[v0, v1, v2, v3, .int .i64 ((fAt t.fls j).arr + c.release - ((fAt t.fls i).dep - c.report)), .int .i64 0, v6, v7, v8, v9, v10] 3 (0, 0)) by rw [hW4]; exact one_alloc (one_alloc Q3))
  have hsz : ((w3.setCell ⟨g, 4, none⟩ (.int .i64 ((fAt t.fls j).arr + c.release - ((fAt t.fls i).dep - c.report)))).setCell ⟨g, 5, none⟩ (.int .i64 0)).heap.size = w3.heap.size := by simp
  have ZF4 := Lib.hid (show W4.heap[w3.heap.size]? = some (.cells #[.string (zoneT t (fAt t.fls i).frm).name, .int .i64 (zoneT t (fAt t.fls i).frm).off, .slice za (zoneT t (fAt t.fls i).frm).sh.length zc] 85 (0, 0)) by rw [hW4, ← hsz]; exact one_alloc (heap_new _ _))
  have ZT4 := Lib.hid (show W4.heap[w3.heap.size + 1]? = some (.cells #[.string (zoneT t (fAt t.fls j).to).name, .int .i64 (zoneT t (fAt t.fls j).to).off, .slice ya (zoneT t (fAt t.fls j).to).sh.length yc] 85 (0, 0)) by rw [hW4, ← hsz, ← alloc_size]; exact heap_new _ _)
  have S4 := Lib.hid (show W4.heap[sp]? = some (.cells #[.int .i64 ((fAt t.fls i).dep - c.report), .int .i64 ((fAt t.fls j).arr + c.release)] 50 (0, 0)) by rw [hW4]; exact one_alloc (one_alloc (by rw [Below.heap_setCell _ _ _ _ (Ne.symm hgs), Below.heap_setCell _ _ _ _ (Ne.symm hgs)]; exact S3.out)))
  have HB4 := Lib.hid (show Below w0.heap.size w0 W4 by rw [hW4]; exact Below.then (Below.then ((HB3.out.setCell (p := ⟨g, 4, none⟩) hg _).setCell (p := ⟨g, 5, none⟩) hg _) (below_new _ _)) (below_new _ _))
  obtain ⟨zf, hzfe⟩ : ∃ zf, zf = w3.heap.size := ⟨_, rfl⟩
  obtain ⟨zt, hzte⟩ : ∃ zt, zt = w3.heap.size + 1 := ⟨_, rfl⟩
  rw [← hzfe] at ZF4
  rw [← hzte] at ZT4
  simp only [← hzte]
  simp only [← hzfe]
  have hgzf : g ≠ zf := by omega
  have hgzt : g ≠ zt := by omega
  have hgsb : g ≠ sb := by omega
  clear hW4 Q3 hsz hzfe hzte s0 s1 hsp3 y4 y5 u4 u5 hg3 S3 G3 HB3 e5
  clear w3
  have zf40 : W4.cell? ⟨zf, 0, none⟩ = some (.string (zoneT t (fAt t.fls i).frm).name) := cellW (j := 0) ZF4.out rfl
  have zf41 : W4.cell? ⟨zf, 1, none⟩ = some (.int .i64 (zoneT t (fAt t.fls i).frm).off) := cellW (j := 1) ZF4.out rfl
  have zf42 : W4.cell? ⟨zf, 2, none⟩ = some (.slice za (zoneT t (fAt t.fls i).frm).sh.length zc) := cellW (j := 2) ZF4.out rfl
  have zt40 : W4.cell? ⟨zt, 0, none⟩ = some (.string (zoneT t (fAt t.fls j).to).name) := cellW (j := 0) ZT4.out rfl
  have zt41 : W4.cell? ⟨zt, 1, none⟩ = some (.int .i64 (zoneT t (fAt t.fls j).to).off) := cellW (j := 1) ZT4.out rfl
  have zt42 : W4.cell? ⟨zt, 2, none⟩ = some (.slice ya (zoneT t (fAt t.fls j).to).sh.length yc) := cellW (j := 2) ZT4.out rfl
  have s40 : W4.cell? ⟨sp, 0, none⟩ = some (.int .i64 ((fAt t.fls i).dep - c.report)) := cellW (j := 0) S4.out rfl
  have s41 : W4.cell? ⟨sp, 1, none⟩ = some (.int .i64 ((fAt t.fls j).arr + c.release)) := cellW (j := 1) S4.out rfl
  have HS4 := Lib.hid (HS0.out.below HB4.out)
  have d8 : W4.cell? ⟨sb, 8, none⟩ = some (.int .i64 c.nf) := cellW (j := 8) HS4.out.box rfl
  have d9 : W4.cell? ⟨sb, 9, none⟩ = some (.int .i64 c.nt) := cellW (j := 9) HS4.out.box rfl
  have hsb4 := HS4.out.lt
  have HBM := Lib.hid (BandMinutes_any (zoneT t (fAt t.fls i).frm).name (zoneT t (fAt t.fls i).frm).off ((fAt t.fls i).dep - c.report) ((fAt t.fls j).arr + c.release) c.nf c.nt (zoneT t (fAt t.fls i).frm).sh za zc W4.drew HZn.out hzf (HZA.out.below (HB4.out.drew)))
  have l1 : zf < W4.drew.heap.size := lt_of_block ZF4.out
  have l3 : sp < W4.drew.heap.size := lt_of_block S4.out
  have l4 : g < W4.drew.heap.size := lt_of_block G4.out
  have l5 : sb < W4.drew.heap.size := HS4.out.lt
  have D0 := Lib.hid (show W4.drew.cell? ⟨zf, 0, none⟩ = some (.string (zoneT t (fAt t.fls i).frm).name) from zf40)
  have D1 := Lib.hid (show W4.drew.cell? ⟨zf, 1, none⟩ = some (.int .i64 (zoneT t (fAt t.fls i).frm).off) from zf41)
  have D2 := Lib.hid (show W4.drew.cell? ⟨zf, 2, none⟩ = some (.slice za (zoneT t (fAt t.fls i).frm).sh.length zc) from zf42)
  have D3 := Lib.hid (show W4.drew.cell? ⟨sp, 0, none⟩ = some (.int .i64 ((fAt t.fls i).dep - c.report)) from s40)
  have D4 := Lib.hid (show W4.drew.cell? ⟨sp, 1, none⟩ = some (.int .i64 ((fAt t.fls j).arr + c.release)) from s41)
  have D5 := Lib.hid (show W4.drew.cell? ⟨sb, 8, none⟩ = some (.int .i64 c.nf) from d8)
  have D6 := Lib.hid (show W4.drew.cell? ⟨sb, 9, none⟩ = some (.int .i64 c.nt) from d9)
  have D7 := Lib.hid (show W4.drew.heap[g]? = some (.cells #[v0, v1, v2, v3, .int .i64 ((fAt t.fls j).arr + c.release - ((fAt t.fls i).dep - c.report)), .int .i64 0, v6, v7, v8, v9, v10] 3 (0, 0)) from G4.out)
  go_region_held3 (fun w' => w'.cell? ⟨zf, 0, none⟩ = some (.string (zoneT t (fAt t.fls i).frm).name) ∧ w'.cell? ⟨zf, 1, none⟩ = some (.int .i64 (zoneT t (fAt t.fls i).frm).off) ∧ w'.cell? ⟨zf, 2, none⟩ = some (.slice za (zoneT t (fAt t.fls i).frm).sh.length zc) ∧ w'.cell? ⟨sp, 0, none⟩ = some (.int .i64 ((fAt t.fls i).dep - c.report)) ∧ w'.cell? ⟨sp, 1, none⟩ = some (.int .i64 ((fAt t.fls j).arr + c.release)) ∧ w'.cell? ⟨sb, 8, none⟩ = some (.int .i64 c.nf) ∧ w'.cell? ⟨sb, 9, none⟩ = some (.int .i64 c.nt)) (first | exact ⟨zf40, zf41, zf42, s40, s41, d8, d9⟩ | exact ⟨m0, m1, m2, m3, m4, m5, m6⟩ | exact ⟨(cell_set1 _ hgzf _ _ _).trans m0, (cell_set1 _ hgzf _ _ _).trans m1, (cell_set1 _ hgzf _ _ _).trans m2, (cell_set1 _ hgs _ _ _).trans m3, (cell_set1 _ hgs _ _ _).trans m4, (cell_set1 _ hgsb _ _ _).trans m5, (cell_set1 _ hgsb _ _ _).trans m6⟩)
    (first | (go_at_call 145; refine (HBM.out).mono ?_; rintro e w5 ⟨rfl, hb5⟩; have m0 := below_cell D0.out l1 hb5; have m1 := below_cell D1.out l1 hb5; have m2 := below_cell D2.out l1 hb5; have m3 := below_cell D3.out l3 hb5; have m4 := below_cell D4.out l3 hb5; have m5 := below_cell D5.out l5 hb5; have m6 := below_cell D6.out l5 hb5; have q5 := (hb5.block _ l4).trans D7.out; have y5 : w5.cell? ⟨g, 5, none⟩ = some (.int .i64 0) := cellW (j := 5) q5 rfl; have u5 := freeW (j := 5) q5; have l6 := lt_of_block q5))
  have G5 := Lib.hid (show (w5.setCell ⟨g, 5, none⟩ (.int .i64 (bandMinZ (zoneT t (fAt t.fls i).frm).name.data.toList (zoneT t (fAt t.fls i).frm).off (zoneT t (fAt t.fls i).frm).sh ((fAt t.fls i).dep - c.report) ((fAt t.fls j).arr + c.release) c.nf c.nt).1)).heap[g]? = some (.cells #[v0, v1, v2, v3, .int .i64 ((fAt t.fls j).arr + c.release - ((fAt t.fls i).dep - c.report)), .int .i64 (nightI t c i j), v6, v7, v8, v9, v10] 3 (0, 0)) from block_setCell (i := 5) (u := .int .i64 (bandMinZ (zoneT t (fAt t.fls i).frm).name.data.toList (zoneT t (fAt t.fls i).frm).off (zoneT t (fAt t.fls i).frm).sh ((fAt t.fls i).dep - c.report) ((fAt t.fls j).arr + c.release) c.nf c.nt).1) q5)
  have ZF5 := Lib.hid ((Below.heap_setCell w5 ⟨g, 5, none⟩ (.int .i64 (bandMinZ (zoneT t (fAt t.fls i).frm).name.data.toList (zoneT t (fAt t.fls i).frm).off (zoneT t (fAt t.fls i).frm).sh ((fAt t.fls i).dep - c.report) ((fAt t.fls j).arr + c.release) c.nf c.nt).1) _ (Ne.symm hgzf)).trans ((hb5.block _ l1).trans ZF4.out))
  have ZT5 := Lib.hid ((Below.heap_setCell w5 ⟨g, 5, none⟩ (.int .i64 (bandMinZ (zoneT t (fAt t.fls i).frm).name.data.toList (zoneT t (fAt t.fls i).frm).off (zoneT t (fAt t.fls i).frm).sh ((fAt t.fls i).dep - c.report) ((fAt t.fls j).arr + c.release) c.nf c.nt).1) _ (Ne.symm hgzt)).trans ((hb5.block _ (show zt < W4.drew.heap.size from lt_of_block ZT4.out)).trans ZT4.out))
  have S5 := Lib.hid ((Below.heap_setCell w5 ⟨g, 5, none⟩ (.int .i64 (bandMinZ (zoneT t (fAt t.fls i).frm).name.data.toList (zoneT t (fAt t.fls i).frm).off (zoneT t (fAt t.fls i).frm).sh ((fAt t.fls i).dep - c.report) ((fAt t.fls j).arr + c.release) c.nf c.nt).1) _ (Ne.symm hgs)).trans ((hb5.block _ l3).trans S4.out))
  have HB5 := Lib.hid ((Below.then (HB4.out.drew) hb5).setCell (p := ⟨g, 5, none⟩) hg (.int .i64 (bandMinZ (zoneT t (fAt t.fls i).frm).name.data.toList (zoneT t (fAt t.fls i).frm).off (zoneT t (fAt t.fls i).frm).sh ((fAt t.fls i).dep - c.report) ((fAt t.fls j).arr + c.release) c.nf c.nt).1))
  clear m0 m1 m2 m3 m4 m5 m6 q5 y5 u5 l1 l3 l4 l5 l6 D0 D1 D2 D3 D4 D5 D6 D7 HBM hb5 zf40 zf41 zf42 zt40 zt41 zt42 s40 s41 d8 d9 hsb4 HS4 HB4 ZF4 ZT4 S4 G4
  generalize w5.setCell ⟨g, 5, none⟩ (.int .i64 (bandMinZ (zoneT t (fAt t.fls i).frm).name.data.toList (zoneT t (fAt t.fls i).frm).off (zoneT t (fAt t.fls i).frm).sh ((fAt t.fls i).dep - c.report) ((fAt t.fls j).arr + c.release) c.nf c.nt).1) = W5 at *
  clear w5
  clear W4
  have zf50 : W5.cell? ⟨zf, 0, none⟩ = some (.string (zoneT t (fAt t.fls i).frm).name) := cellW (j := 0) ZF5.out rfl
  have zf51 : W5.cell? ⟨zf, 1, none⟩ = some (.int .i64 (zoneT t (fAt t.fls i).frm).off) := cellW (j := 1) ZF5.out rfl
  have zf52 : W5.cell? ⟨zf, 2, none⟩ = some (.slice za (zoneT t (fAt t.fls i).frm).sh.length zc) := cellW (j := 2) ZF5.out rfl
  have zt50 : W5.cell? ⟨zt, 0, none⟩ = some (.string (zoneT t (fAt t.fls j).to).name) := cellW (j := 0) ZT5.out rfl
  have zt51 : W5.cell? ⟨zt, 1, none⟩ = some (.int .i64 (zoneT t (fAt t.fls j).to).off) := cellW (j := 1) ZT5.out rfl
  have zt52 : W5.cell? ⟨zt, 2, none⟩ = some (.slice ya (zoneT t (fAt t.fls j).to).sh.length yc) := cellW (j := 2) ZT5.out rfl
  have s50 : W5.cell? ⟨sp, 0, none⟩ = some (.int .i64 ((fAt t.fls i).dep - c.report)) := cellW (j := 0) S5.out rfl
  have s51 : W5.cell? ⟨sp, 1, none⟩ = some (.int .i64 ((fAt t.fls j).arr + c.release)) := cellW (j := 1) S5.out rfl
  have l51 := lt_of_block ZF5.out
  have l52 := lt_of_block ZT5.out
  have l53 := lt_of_block S5.out
  go_wp2_with fail
  refine (OffsetAt_any (zoneT t (fAt t.fls i).frm).name (zoneT t (fAt t.fls i).frm).off ((fAt t.fls i).dep - c.report) (zoneT t (fAt t.fls i).frm).sh za zc W5 HZn.out hzf (HZA.out.below HB5.out)).mono ?_
  rintro e w6 ⟨rfl, hb6⟩
  have ZF6 := Lib.hid ((hb6.block _ (lt_of_block ZF5.out)).trans ZF5.out)
  have ZT6 := Lib.hid ((hb6.block _ (lt_of_block ZT5.out)).trans ZT5.out)
  have S6 := Lib.hid ((hb6.block _ (lt_of_block S5.out)).trans S5.out)
  have G6 := Lib.hid ((hb6.block _ (lt_of_block G5.out)).trans G5.out)
  have HB6 := Lib.hid (Below.then HB5.out hb6)
  clear hb6 zf50 zf51 zf52 zt50 zt51 zt52 s50 s51 l51 l52 l53 ZF5 ZT5 S5 G5 HB5
  try clear W5
  have zf60 : w6.cell? ⟨zf, 0, none⟩ = some (.string (zoneT t (fAt t.fls i).frm).name) := cellW (j := 0) ZF6.out rfl
  have zf61 : w6.cell? ⟨zf, 1, none⟩ = some (.int .i64 (zoneT t (fAt t.fls i).frm).off) := cellW (j := 1) ZF6.out rfl
  have zf62 : w6.cell? ⟨zf, 2, none⟩ = some (.slice za (zoneT t (fAt t.fls i).frm).sh.length zc) := cellW (j := 2) ZF6.out rfl
  have zt60 : w6.cell? ⟨zt, 0, none⟩ = some (.string (zoneT t (fAt t.fls j).to).name) := cellW (j := 0) ZT6.out rfl
  have zt61 : w6.cell? ⟨zt, 1, none⟩ = some (.int .i64 (zoneT t (fAt t.fls j).to).off) := cellW (j := 1) ZT6.out rfl
  have zt62 : w6.cell? ⟨zt, 2, none⟩ = some (.slice ya (zoneT t (fAt t.fls j).to).sh.length yc) := cellW (j := 2) ZT6.out rfl
  have s60 : w6.cell? ⟨sp, 0, none⟩ = some (.int .i64 ((fAt t.fls i).dep - c.report)) := cellW (j := 0) S6.out rfl
  have s61 : w6.cell? ⟨sp, 1, none⟩ = some (.int .i64 ((fAt t.fls j).arr + c.release)) := cellW (j := 1) S6.out rfl
  have l61 := lt_of_block ZF6.out
  have l62 := lt_of_block ZT6.out
  have l63 := lt_of_block S6.out
  go_wp2_with fail
  refine (OffsetAt_any (zoneT t (fAt t.fls j).to).name (zoneT t (fAt t.fls j).to).off ((fAt t.fls j).arr + c.release) (zoneT t (fAt t.fls j).to).sh ya yc w6 HYn.out hzt (HYA.out.below HB6.out)).mono ?_
  rintro e w7 ⟨rfl, hb7⟩
  have ZF7 := Lib.hid ((hb7.block _ (lt_of_block ZF6.out)).trans ZF6.out)
  have ZT7 := Lib.hid ((hb7.block _ (lt_of_block ZT6.out)).trans ZT6.out)
  have S7 := Lib.hid ((hb7.block _ (lt_of_block S6.out)).trans S6.out)
  have G7 := Lib.hid ((hb7.block _ (lt_of_block G6.out)).trans G6.out)
  have HB7 := Lib.hid (Below.then HB6.out hb7)
  clear hb7 zf60 zf61 zf62 zt60 zt61 zt62 s60 s61 l61 l62 l63 ZF6 ZT6 S6 G6 HB6
  clear w6
  have ea : (offAtZ (zoneT t (fAt t.fls i).frm).name.data.toList (zoneT t (fAt t.fls i).frm).off (zoneT t (fAt t.fls i).frm).sh ((fAt t.fls i).dep - c.report)).1 = offFrI t c i := rfl
  have eb : (offAtZ (zoneT t (fAt t.fls j).to).name.data.toList (zoneT t (fAt t.fls j).to).off (zoneT t (fAt t.fls j).to).sh ((fAt t.fls j).arr + c.release)).1 = offToI t c j := rfl
  rw [ea, eb]
  have ba := offAtZ_in (nm := (zoneT t (fAt t.fls i).frm).name.data.toList) (o := (zoneT t (fAt t.fls i).frm).off) (l := (zoneT t (fAt t.fls i).frm).sh) (t := ((fAt t.fls i).dep - c.report))
  have bb := offAtZ_in (nm := (zoneT t (fAt t.fls j).to).name.data.toList) (o := (zoneT t (fAt t.fls j).to).off) (l := (zoneT t (fAt t.fls j).to).sh) (t := ((fAt t.fls j).arr + c.release))
  rw [ea] at ba
  rw [eb] at bb
  obtain ⟨ba1, ba2⟩ := ba
  obtain ⟨bb1, bb2⟩ := bb
  clear ea eb
  have zf70 : w7.cell? ⟨zf, 0, none⟩ = some (.string (zoneT t (fAt t.fls i).frm).name) := cellW (j := 0) ZF7.out rfl
  have zf71 : w7.cell? ⟨zf, 1, none⟩ = some (.int .i64 (zoneT t (fAt t.fls i).frm).off) := cellW (j := 1) ZF7.out rfl
  have zf72 : w7.cell? ⟨zf, 2, none⟩ = some (.slice za (zoneT t (fAt t.fls i).frm).sh.length zc) := cellW (j := 2) ZF7.out rfl
  have zt70 : w7.cell? ⟨zt, 0, none⟩ = some (.string (zoneT t (fAt t.fls j).to).name) := cellW (j := 0) ZT7.out rfl
  have zt71 : w7.cell? ⟨zt, 1, none⟩ = some (.int .i64 (zoneT t (fAt t.fls j).to).off) := cellW (j := 1) ZT7.out rfl
  have zt72 : w7.cell? ⟨zt, 2, none⟩ = some (.slice ya (zoneT t (fAt t.fls j).to).sh.length yc) := cellW (j := 2) ZT7.out rfl
  have s70 : w7.cell? ⟨sp, 0, none⟩ = some (.int .i64 ((fAt t.fls i).dep - c.report)) := cellW (j := 0) S7.out rfl
  have s71 : w7.cell? ⟨sp, 1, none⟩ = some (.int .i64 ((fAt t.fls j).arr + c.release)) := cellW (j := 1) S7.out rfl
  have l71 := lt_of_block ZF7.out
  have l72 := lt_of_block ZT7.out
  have l73 := lt_of_block S7.out
  have l74 := lt_of_block G7.out
  have y8 : w7.cell? ⟨g, 8, none⟩ = some v8 := cellW (j := 8) G7.out rfl
  have u8 := freeW (j := 8) G7.out
  go_upto_region 9 with fail
  have em : (if offFrI t c i - offToI t c j < offToI t c j - offFrI t c i then offToI t c j - offFrI t c i else offFrI t c i - offToI t c j) = shiftI t c i j := rfl
  rw [em]
  clear em
  have G8 := Lib.hid (show (w7.setCell ⟨g, 8, none⟩ (.int .i64 (shiftI t c i j))).heap[g]? = some (.cells #[v0, v1, v2, v3, .int .i64 ((fAt t.fls j).arr + c.release - ((fAt t.fls i).dep - c.report)), .int .i64 (nightI t c i j), v6, v7, .int .i64 (shiftI t c i j), v9, v10] 3 (0, 0)) from block_setCell (i := 8) (u := .int .i64 (shiftI t c i j)) G7.out)
  have ZF8 := Lib.hid ((Below.heap_setCell w7 ⟨g, 8, none⟩ (.int .i64 (shiftI t c i j)) _ (Ne.symm hgzf)).trans ZF7.out)
  have ZT8 := Lib.hid ((Below.heap_setCell w7 ⟨g, 8, none⟩ (.int .i64 (shiftI t c i j)) _ (Ne.symm hgzt)).trans ZT7.out)
  have S8 := Lib.hid ((Below.heap_setCell w7 ⟨g, 8, none⟩ (.int .i64 (shiftI t c i j)) _ (Ne.symm hgs)).trans S7.out)
  have HB8 := Lib.hid (HB7.out.setCell (p := ⟨g, 8, none⟩) hg (.int .i64 (shiftI t c i j)))
  clear y8 u8 zf70 zf71 zf72 zt70 zt71 zt72 s70 s71 l71 l72 l73 l74 ZF7 ZT7 S7 G7 HB7
  generalize w7.setCell ⟨g, 8, none⟩ (.int .i64 (shiftI t c i j)) = W8 at *
  clear w7
  have zf80 : W8.cell? ⟨zf, 0, none⟩ = some (.string (zoneT t (fAt t.fls i).frm).name) := cellW (j := 0) ZF8.out rfl
  have zf81 : W8.cell? ⟨zf, 1, none⟩ = some (.int .i64 (zoneT t (fAt t.fls i).frm).off) := cellW (j := 1) ZF8.out rfl
  have zf82 : W8.cell? ⟨zf, 2, none⟩ = some (.slice za (zoneT t (fAt t.fls i).frm).sh.length zc) := cellW (j := 2) ZF8.out rfl
  have zt80 : W8.cell? ⟨zt, 0, none⟩ = some (.string (zoneT t (fAt t.fls j).to).name) := cellW (j := 0) ZT8.out rfl
  have zt81 : W8.cell? ⟨zt, 1, none⟩ = some (.int .i64 (zoneT t (fAt t.fls j).to).off) := cellW (j := 1) ZT8.out rfl
  have zt82 : W8.cell? ⟨zt, 2, none⟩ = some (.slice ya (zoneT t (fAt t.fls j).to).sh.length yc) := cellW (j := 2) ZT8.out rfl
  have s80 : W8.cell? ⟨sp, 0, none⟩ = some (.int .i64 ((fAt t.fls i).dep - c.report)) := cellW (j := 0) S8.out rfl
  have s81 : W8.cell? ⟨sp, 1, none⟩ = some (.int .i64 ((fAt t.fls j).arr + c.release)) := cellW (j := 1) S8.out rfl
  have l81 := lt_of_block ZF8.out
  have l82 := lt_of_block ZT8.out
  have l83 := lt_of_block S8.out
  go_wp2_with fail
  refine (LocalTime_any (zoneT t (fAt t.fls i).frm).name (zoneT t (fAt t.fls i).frm).off ((fAt t.fls i).dep - c.report) (zoneT t (fAt t.fls i).frm).sh za zc W8 HZn.out hzf (HZA.out.below HB8.out)).mono ?_
  rintro e w9 ⟨rfl, hb9⟩
  have ZF9 := Lib.hid ((hb9.block _ (lt_of_block ZF8.out)).trans ZF8.out)
  have ZT9 := Lib.hid ((hb9.block _ (lt_of_block ZT8.out)).trans ZT8.out)
  have S9 := Lib.hid ((hb9.block _ (lt_of_block S8.out)).trans S8.out)
  have G9 := Lib.hid ((hb9.block _ (lt_of_block G8.out)).trans G8.out)
  have HB9 := Lib.hid (Below.then HB8.out hb9)
  clear hb9 zf80 zf81 zf82 zt80 zt81 zt82 s80 s81 l81 l82 l83 ZF8 ZT8 S8 G8 HB8
  clear W8
  have ea : (locTimeZ (zoneT t (fAt t.fls i).frm).name.data.toList (zoneT t (fAt t.fls i).frm).off (zoneT t (fAt t.fls i).frm).sh ((fAt t.fls i).dep - c.report)).2.1 = startI t c i := rfl
  rw [ea]
  clear ea
  have y9 : w9.cell? ⟨g, 9, none⟩ = some v9 := cellW (j := 9) G9.out rfl
  have u9 := freeW (j := 9) G9.out
  have l94 := lt_of_block G9.out
  go_upto_region 10 with fail
  have GA := Lib.hid (show (w9.setCell ⟨g, 9, none⟩ (.int .i64 (startI t c i))).heap[g]? = some (.cells #[v0, v1, v2, v3, .int .i64 ((fAt t.fls j).arr + c.release - ((fAt t.fls i).dep - c.report)), .int .i64 (nightI t c i j), v6, v7, .int .i64 (shiftI t c i j), .int .i64 (startI t c i), v10] 3 (0, 0)) from block_setCell (i := 9) (u := .int .i64 (startI t c i)) G9.out)
  have ZFA := Lib.hid ((Below.heap_setCell w9 ⟨g, 9, none⟩ (.int .i64 (startI t c i)) _ (Ne.symm hgzf)).trans ZF9.out)
  have ZTA := Lib.hid ((Below.heap_setCell w9 ⟨g, 9, none⟩ (.int .i64 (startI t c i)) _ (Ne.symm hgzt)).trans ZT9.out)
  have SA := Lib.hid ((Below.heap_setCell w9 ⟨g, 9, none⟩ (.int .i64 (startI t c i)) _ (Ne.symm hgs)).trans S9.out)
  have HBA := Lib.hid (HB9.out.setCell (p := ⟨g, 9, none⟩) hg (.int .i64 (startI t c i)))
  clear y9 u9 l94 ZF9 ZT9 S9 G9 HB9
  generalize w9.setCell ⟨g, 9, none⟩ (.int .i64 (startI t c i)) = WA at *
  clear w9
  have zfA0 : WA.cell? ⟨zf, 0, none⟩ = some (.string (zoneT t (fAt t.fls i).frm).name) := cellW (j := 0) ZFA.out rfl
  have zfA1 : WA.cell? ⟨zf, 1, none⟩ = some (.int .i64 (zoneT t (fAt t.fls i).frm).off) := cellW (j := 1) ZFA.out rfl
  have zfA2 : WA.cell? ⟨zf, 2, none⟩ = some (.slice za (zoneT t (fAt t.fls i).frm).sh.length zc) := cellW (j := 2) ZFA.out rfl
  have ztA0 : WA.cell? ⟨zt, 0, none⟩ = some (.string (zoneT t (fAt t.fls j).to).name) := cellW (j := 0) ZTA.out rfl
  have ztA1 : WA.cell? ⟨zt, 1, none⟩ = some (.int .i64 (zoneT t (fAt t.fls j).to).off) := cellW (j := 1) ZTA.out rfl
  have ztA2 : WA.cell? ⟨zt, 2, none⟩ = some (.slice ya (zoneT t (fAt t.fls j).to).sh.length yc) := cellW (j := 2) ZTA.out rfl
  have sA0 : WA.cell? ⟨sp, 0, none⟩ = some (.int .i64 ((fAt t.fls i).dep - c.report)) := cellW (j := 0) SA.out rfl
  have sA1 : WA.cell? ⟨sp, 1, none⟩ = some (.int .i64 ((fAt t.fls j).arr + c.release)) := cellW (j := 1) SA.out rfl
  have lA1 := lt_of_block ZFA.out
  have lA2 := lt_of_block ZTA.out
  have lA3 := lt_of_block SA.out
  go_wp2_with fail
  refine (LocalTime_any (zoneT t (fAt t.fls j).to).name (zoneT t (fAt t.fls j).to).off ((fAt t.fls j).arr + c.release) (zoneT t (fAt t.fls j).to).sh ya yc WA HYn.out hzt (HYA.out.below HBA.out)).mono ?_
  rintro e wB ⟨rfl, hbB⟩
  have GB := Lib.hid ((hbB.block _ (lt_of_block GA.out)).trans GA.out)
  have HBB := Lib.hid (Below.then HBA.out hbB)
  clear hbB zfA0 zfA1 zfA2 ztA0 ztA1 ztA2 sA0 sA1 lA1 lA2 lA3 ZFA ZTA SA GA HBA
  clear WA
  have ea : (locTimeZ (zoneT t (fAt t.fls j).to).name.data.toList (zoneT t (fAt t.fls j).to).off (zoneT t (fAt t.fls j).to).sh ((fAt t.fls j).arr + c.release)).2.1 = endI t c j := rfl
  rw [ea]
  clear ea
  have yB : wB.cell? ⟨g, 10, none⟩ = some v10 := cellW (j := 10) GB.out rfl
  have uB := freeW (j := 10) GB.out
  have lB4 := lt_of_block GB.out
  go_wp2_with fail
  go_end0
  exact ⟨rfl, block_setCell (i := 10) (u := .int .i64 (endI t c j)) GB.out, HBB.out.setCell (p := ⟨g, 10, none⟩) hg _⟩
end Go.Proofs.YtpgbckgjlgecpaaGreat
/- contract of the setting: DutyValues -/
namespace Go.Proofs.YtpgbckgjlgecpaaGreat
open Go.RowKit Go.Sort
set_option linter.unusedVariables false
set_option linter.unusedSimpArgs false
set_option maxRecDepth 100000
/-- what DutyValues collects -/
structure DV where
  legs : Int
  heads : Int
  blk : Int
  lng : Int
  sht : Int
  kinds : List ByteArray
def dvLeg (f : FlightM) (s : DV) : DV := ⟨s.legs + 1, s.heads, s.blk + (f.arr - f.dep), s.lng, s.sht, if hasB s.kinds f.typ = true then s.kinds else s.kinds ++ [f.typ]⟩
def dvHead (s : DV) : DV := ⟨s.legs, s.heads + 1, s.blk, s.lng, s.sht, s.kinds⟩
def dvGap (n : Int) (s : DV) : DV := ⟨s.legs, s.heads, s.blk, mx s.lng n, mn s.sht n, s.kinds⟩
def dvA (t : TTM) (d : Duty) (k : Nat) (s : DV) : DV := if (tAt d k).2 = true then dvHead s else dvLeg (fOf t d k) s
def dvB (t : TTM) (d : Duty) (k : Nat) (s : DV) : DV := if 0 < k then dvGap ((fOf t d k).dep - (fOf t d (k - 1)).arr) s else s
def dvTo (t : TTM) (d : Duty) : Nat → DV
  | 0 => ⟨0, 0, 0, 0, 1440, []⟩
  | k + 1 => dvB t d k (dvA t d k (dvTo t d k))
/-- bounds after k tasks -/
structure DVB (k : Nat) (s : DV) : Prop where
  l0 : 0 ≤ s.legs
  l1 : s.legs ≤ k
  h0 : 0 ≤ s.heads
  h1 : s.heads ≤ k
  b0 : 0 ≤ s.blk
  b1 : s.blk ≤ k * 1440
  g0 : 0 ≤ s.lng
  g1 : s.lng ≤ 1440
  s0 : 0 ≤ s.sht
  s1 : s.sht ≤ 1440
  kl : s.kinds.length ≤ k
theorem DVB.a {t : TTM} {c : ConM} {d : Duty} (ht : valTT t = 0) (hd : dutyE t c d = 0) {k : Nat} (hk : k < d.length) {s : DV} (h : DVB k s) : DVB (k + 1) (dvA t d k s) := by
  have hl := leg_bd ht hd hk
  obtain ⟨l0, l1, h0, h1, b0, b1, g0, g1, s0, s1, kl⟩ := h
  unfold dvA
  split
  · constructor <;> simp only [dvHead] <;> omega
  · refine ⟨by simp only [dvLeg]; omega, by simp only [dvLeg]; omega, by simp only [dvLeg]; omega, by simp only [dvLeg]; omega, by simp only [dvLeg]; omega, by simp only [dvLeg]; omega, by simp only [dvLeg]; omega, by simp only [dvLeg]; omega, by simp only [dvLeg]; omega, by simp only [dvLeg]; omega, ?_⟩
    simp only [dvLeg]
    split
    · omega
    · simp; omega
theorem DVB.b {t : TTM} {c : ConM} {d : Duty} (ht : valTT t = 0) (hc : valT c = 0) (hd : dutyE t c d = 0) {k n : Nat} (hk : k < d.length) {s : DV} (h : DVB n s) : DVB n (dvB t d k s) := by
  unfold dvB
  split
  · rename_i h0
    have hg := gap_bd hc hd hk h0
    obtain ⟨l0, l1, h0, h1, b0, b1, g0, g1, s0, s1, kl⟩ := h
    refine ⟨l0, l1, h0, h1, b0, b1, ?_, ?_, ?_, ?_, kl⟩ <;> simp only [dvGap, mx, mn] <;> split <;> omega
  · exact h
theorem DVB.to {t : TTM} {c : ConM} {d : Duty} (ht : valTT t = 0) (hc : valT c = 0) (hd : dutyE t c d = 0) : ∀ k, k ≤ d.length → DVB k (dvTo t d k)
  | 0, _ => by constructor <;> simp [dvTo]
  | k + 1, hk => (DVB.to ht hc hd k (by omega)).a ht hd (by omega) |>.b ht hc hd (by omega)
theorem infoStr1 : (Tryz.prog.info? 9).map (fun i => (i.zero, i.size, i.bytes)) = some (some (.string ByteArray.empty), 1, 16) := by kernel_rfl
theorem own_str {w : World} {base : Nat} {e : TypeId} {v : Value} {l : List ByteArray} (h : w.ownsRow base e 1 v l.length (l.map Value.string)) : ∃ a cap, v = .slice a l.length cap ∧ StrAt w a l := by
  by_cases hl : 0 < l.length
  · obtain ⟨a, cap, h1, h2, _⟩ := StrAt.of_own h hl
    exact ⟨a, cap, h1, h2⟩
  · have e0 : l = [] := by cases l with | nil => rfl | cons x l => simp at hl
    subst e0
    rcases h.2 with ⟨rfl, _⟩ | ⟨g, cap, cur, rfl, _⟩
    · exact ⟨none, 0, rfl, .inl rfl⟩
    · exact ⟨_, cap, rfl, .inl rfl⟩
theorem own_setG {w : World} {g : Nat} {e : TypeId} {size : Nat} {v : Value} {n : Nat} {xs : List Value} (h : w.ownsRow (g + 1) e size v n xs) (i : Nat) (u : Value) : (w.setCell ⟨g, i, none⟩ u).ownsRow (g + 1) e size v n xs :=
  h.kept (Lib.grownBy_setCell w g i u) (.inr (fun hk => by have := own_base h g hk; omega))
theorem own_keptB {w w' : World} {base : Nat} {e : TypeId} {size : Nat} {v : Value} {n : Nat} {xs : List Value} (h : w.ownsRow base e size v n xs) (hb : Below w.heap.size w w') : w'.ownsRow base e size v n xs :=
  h.kept (grown_below none hb) (by cases v.ownBlock <;> simp)
/-- the values of a duty -/
def dvals (t : TTM) (c : ConM) (d : Duty) : List Int := [(dvTo t d d.length).legs, (dvTo t d d.length).heads, (dvTo t d d.length).kinds.length, (dvTo t d d.length).blk, spanI t c (fstN d) (lstN d), nightI t c (fstN d) (lstN d), (dvTo t d d.length).lng, (dvTo t d d.length).sht, shiftI t c (fstN d) (lstN d), startI t c (fstN d), endI t c (lstN d)]

set_option maxHeartbeats 3200000 in
theorem dutyValues_any (w : World) (sb : Nat) (t : TTM) (c : ConM) (P : SetP) (hS : SetAt w sb t c P) (d : Duty) (a : Option Addr) (cap : Nat) (hd : dutyE t c d = 0) (ha : SlAt taskRT w a d) : Calls Tryz.prog 60 #[.pointer (some ⟨sb, 0, none⟩), .slice a d.length cap] w fun e w' => ∃ b, e = .returned (.slice (some ⟨b, 0, none⟩) 11 11) ∧ IntsAt w' (some ⟨b, 0, none⟩) (dvals t c d) ∧ Below w.heap.size w w' := by
  obtain ⟨i0, hi, hz0, hz1, hz2⟩ := info_parts infoStr1
  obtain ⟨h1, h2, h3, _⟩ := dutyE_ok hd
  obtain ⟨hm, hml, hm', hml'⟩ := fst_ok hd
  obtain ⟨b, off, rfl, hb, hcs⟩ := task_cells ha (by omega)
  obtain ⟨fb, foff, hfa, hfb, hfc⟩ := flight_cells hS.fls (by omega)
  have HT := Lib.hid hcs
  have HFC := Lib.hid hfc
  have HFA := Lib.hid hfa
  have HS0 := Lib.hid hS
  have HD := Lib.hid hd
  have H3 := Lib.hid h3
  have hmk : ∀ w : World, (Instr.makeSlice 96 (.int .i64 11) (.int .i64 11)).run Tryz.prog w = .ok (.slice (some ⟨w.heap.size, 0, none⟩) 11 11) (w.alloc (.cells #[.int .i64 0, .int .i64 0, .int .i64 0, .int .i64 0, .int .i64 0, .int .i64 0, .int .i64 0, .int .i64 0, .int .i64 0, .int .i64 0, .int .i64 0] 3)) := fun _ => by kernel_rfl
  clear hS ha hcs hfc hfa hd h3 hm hm'
  go_enter Tryz.func60, Tryz.ntmps60
  go_wp2_with fail
  go_loopw [6, 16] (fun kv i wr => ∃ (k : Nat) (v : Value), k ≤ d.length ∧ i = .int .i64 k ∧ kv = v ∧ Hid (wr.ownsRow (w.heap.size + 1) 9 1 v (dvTo t d k).kinds.length ((dvTo t d k).kinds.map Value.string)) ∧ Hid (wr.heap[w.heap.size]? = some (.cells #[.int .i64 (dvTo t d k).legs, .int .i64 (dvTo t d k).heads, .int .i64 0, .int .i64 (dvTo t d k).blk, .int .i64 0, .int .i64 0, .int .i64 (dvTo t d k).lng, .int .i64 (dvTo t d k).sht, .int .i64 0, .int .i64 0, .int .i64 0] 3 (0, 0))) ∧ Hid (Below w.heap.size w wr)) (fun _ i _ => d.length - (intOf i).toNat)
  case atStart => exact ⟨0, _, Nat.zero_le _, rfl, rfl, Lib.hid (World.ownsRow_nil _ _ _ _), Lib.hid (heap_new w _), Lib.hid (below_new w _)⟩
  case round =>
    obtain ⟨k, v, hk, rfl, rfl, hO, hG, hB⟩ := hrel
    by_cases hlt : k < d.length
    · obtain ⟨m, hm, hmf⟩ := flOk_nat (H3.out k hlt)
      have c0 := below_cell (HT.out k hlt).1 hb hB.out
      have c1 := below_cell (HT.out k hlt).2 hb hB.out
      rw [hm] at c0
      have hbr := Nat.lt_of_lt_of_le hb hB.out.size
      obtain ⟨s, hs⟩ : ∃ s, s = dvTo t d k := ⟨_, rfl⟩
      rw [← hs] at hO hG
      have hbd := DVB.to HS0.out.okT HS0.out.okC HD.out k hk
      rw [← hs] at hbd
      obtain ⟨bl0, bl1, bh0, bh1, bb0, bb1, bg0, bg1, bs0, bs1, bkl⟩ := hbd
      have hk6 : k < 6 := by omega
      have hlb := leg_bd HS0.out.okT HD.out hlt
      obtain ⟨q0, q1, q2, q3⟩ := hlb
      have HF := Lib.hid (show fAt t.fls m = fOf t d k by unfold fOf; rw [hm]; rfl)
      obtain ⟨⟨-, -, -, pd, pa, pt, -⟩, -⟩ := HFC.out m hmf
      rw [HF.out] at pd pa pt
      have HPD := Lib.hid pd
      have HPA := Lib.hid pa
      have HPT := Lib.hid pt
      have HSs := Lib.hid hs
      have Hm := Lib.hid hm
      obtain ⟨f, hf⟩ : ∃ f, f = fOf t d k := ⟨_, rfl⟩
      rw [← hf] at HF HPD HPA HPT q0 q1 q2 q3
      have Hf := Lib.hid hf
      have Hgap := Lib.hid (fun h0 : 0 < k => gap_bd HS0.out.okC HD.out hlt h0)
      clear pd pa pt hs hm hf
      cases hh : (tAt d k).2
      · rw [hh] at c1
        have HH := Lib.hid hh
        clear hh
        have HB1 := Lib.hid (Below.then hB.out (below_new wr (Obj.cells #[.int .i64 (m : Int), .bool false] 46)))
        have G1 := Lib.hid (one_alloc (o' := (Obj.cells #[.int .i64 (m : Int), .bool false] 46)) hG.out)
        have O1 := Lib.hid (hO.out.alloc (Obj.cells #[.int .i64 (m : Int), .bool false] 46))
        have T1 := Lib.hid (heap_new wr (Obj.cells #[.int .i64 (m : Int), .bool false] 46))
        clear hB hG hO
        go_wp2_with fail
        generalize wr.alloc (Obj.cells #[.int .i64 (m : Int), .bool false] 46) = W1 at *
        refine (flight_any W1 sb t c P (HS0.out.below HB1.out) m hmf fb foff HFA.out).mono ?_
        rintro e w2 ⟨rfl, rfl⟩
        clear c0 c1
        have x1 : W1.cell? ⟨wr.heap.size, 1, none⟩ = some (.bool false) := cellW (j := 1) T1.out rfl
        have xl := lt_of_block T1.out
        have gl := lt_of_block G1.out
        have hfl := Nat.lt_of_lt_of_le hfb HB1.out.size
        have y0 : W1.cell? ⟨w.heap.size, 0, none⟩ = some (.int .i64 s.legs) := cellW (j := 0) G1.out rfl
        have u0 := freeW (j := 0) G1.out
        go_upto_region 11 with fail
        have G2 := Lib.hid (show (W1.setCell ⟨w.heap.size, 0, none⟩ (.int .i64 (s.legs + 1))).heap[w.heap.size]? = some (.cells #[.int .i64 (s.legs + 1), .int .i64 s.heads, .int .i64 0, .int .i64 s.blk, .int .i64 0, .int .i64 0, .int .i64 s.lng, .int .i64 s.sht, .int .i64 0, .int .i64 0, .int .i64 0] 3 (0, 0)) from block_setCell (i := 0) (u := .int .i64 (s.legs + 1)) G1.out)
        have O2 := Lib.hid (own_setG O1.out 0 (.int .i64 (s.legs + 1)))
        have HB2 := Lib.hid (HB1.out.setCell (p := ⟨w.heap.size, 0, none⟩) (Nat.le_refl _) (.int .i64 (s.legs + 1)))
        clear y0 u0 x1 xl gl hfl G1 O1 T1 HB1
        generalize W1.setCell ⟨w.heap.size, 0, none⟩ (.int .i64 (s.legs + 1)) = W2 at *
        clear W1
        have y3 : W2.cell? ⟨w.heap.size, 3, none⟩ = some (.int .i64 s.blk) := cellW (j := 3) G2.out rfl
        have u3 := freeW (j := 3) G2.out
        have gl := lt_of_block G2.out
        have c2 := below_cell HPD.out hfb HB2.out
        have c3 := below_cell HPA.out hfb HB2.out
        have hfl := Nat.lt_of_lt_of_le hfb HB2.out.size
        have ew1 : IntKind.i64.wrap (f.arr - f.dep) = f.arr - f.dep := by rw [IntKind.wrap_i64]; omega
        have ew2 : IntKind.i64.wrap (s.blk + (f.arr - f.dep)) = s.blk + (f.arr - f.dep) := by rw [IntKind.wrap_i64]; omega
        go_region
        have G3 := Lib.hid (show (W2.setCell ⟨w.heap.size, 3, none⟩ (.int .i64 (s.blk + (f.arr - f.dep)))).drew.heap[w.heap.size]? = some (.cells #[.int .i64 (s.legs + 1), .int .i64 s.heads, .int .i64 0, .int .i64 (s.blk + (f.arr - f.dep)), .int .i64 0, .int .i64 0, .int .i64 s.lng, .int .i64 s.sht, .int .i64 0, .int .i64 0, .int .i64 0] 3 (0, 0)) from block_setCell (i := 3) (u := .int .i64 (s.blk + (f.arr - f.dep))) G2.out)
        have O3 := Lib.hid (show (W2.setCell ⟨w.heap.size, 3, none⟩ (.int .i64 (s.blk + (f.arr - f.dep)))).drew.ownsRow (w.heap.size + 1) 9 1 u6 s.kinds.length (s.kinds.map Value.string) from own_setG O2.out 3 (.int .i64 (s.blk + (f.arr - f.dep))))
        have HB3 := Lib.hid ((HB2.out.setCell (p := ⟨w.heap.size, 3, none⟩) (Nat.le_refl _) (.int .i64 (s.blk + (f.arr - f.dep)))).drew)
        clear y3 u3 gl c2 c3 hfl ew1 ew2 G2 O2 HB2
        generalize (W2.setCell ⟨w.heap.size, 3, none⟩ (.int .i64 (s.blk + (f.arr - f.dep)))).drew = W3 at *
        clear W2
        have c5 := below_cell HPT.out hfb HB3.out
        have hfl := Nat.lt_of_lt_of_le hfb HB3.out.size
        obtain ⟨ka, kc, rfl, hStr⟩ := own_str O3.out
        have HStr := Lib.hid hStr
        clear hStr
        go_wp2_with fail
        refine (containsS_any s.kinds f.typ ka kc W3 HStr.out (by omega)).mono ?_
        rintro e w4 ⟨rfl, rfl⟩
        cases hkk : hasB s.kinds f.typ
        · have HK := Lib.hid hkk
          clear hkk HStr
          go_wp2_with (at_builtin; refine wpList_append_own _ rfl _ _ 165 rfl (w.heap.size + 1) 9 i0 (.string ByteArray.empty) 1 16 Tryz.underlying165 hi hz0 hz1 hz2 rfl (by decide) _ _ _ rfl (O3.out.alloc _) ⟨W3.heap.size, 0, none⟩ 1 1 [.string f.typ] rfl rfl ?c1 ?c2 ?c3 ?c4 ?c5 ?_)
          case c1 => exact fresh_cells W3 [.string f.typ] 9
          case c2 => intro u hu; simp at hu; subst hu; rfl
          case c3 => unfold maxLen; omega
          case c4 => omega
          case c5 => have := lt_of_block G3.out; simp; omega
          intro v' WX hown' hgrow _
          have hne : Value.ownBlock (.slice ka s.kinds.length kc) ≠ some w.heap.size := fun hk => by have := own_base O3.out _ hk; omega
          have GX := Lib.hid ((hgrow.block _ (by have := lt_of_block G3.out; simp; omega) (Ne.symm hne)).trans (one_alloc G3.out))
          have HBX := Lib.hid ((HB3.out.alloc HB3.out.size _).grown hgrow (by have := HB3.out.size; simp; omega) (fun j hj => by have := own_base O3.out j hj; omega))
          have OX := Lib.hid (show WX.ownsRow (w.heap.size + 1) 9 1 v' (s.kinds ++ [f.typ]).length ((s.kinds ++ [f.typ]).map Value.string) by rw [List.length_append, List.map_append]; exact hown')
          clear hown' hgrow hne c5 hfl G3 O3 HB3
          go_upto_region 14 with fail
          rcases Nat.eq_zero_or_pos k with hk0 | hk0
          · have HST := Lib.hid (show dvTo t d (k + 1) = ⟨(s.legs + 1), s.heads, (s.blk + (f.arr - f.dep)), s.lng, s.sht, (s.kinds ++ [f.typ])⟩ by rw [dvTo, ← HSs.out, dvB]; rw [if_neg (by omega)]; rw [dvA]; rw [if_neg (by rw [HH.out]; decide), ← Hf.out, dvLeg, if_neg (by rw [HK.out]; decide)])
            have dk : decide (0 < k) = false := by simp; omega
            go_wp2_with fail
            go_roundw
            case rel => exact ⟨k + 1, _, by omega, by go_num, rfl, Lib.hid (by rw [HST.out]; exact OX.out), Lib.hid (by rw [HST.out]; exact GX.out), HBX⟩
            case measure => simp [intOf]; omega
          · have HST := Lib.hid (show dvTo t d (k + 1) = ⟨(s.legs + 1), s.heads, (s.blk + (f.arr - f.dep)), (mx s.lng (f.dep - (fOf t d (k - 1)).arr)), (mn s.sht (f.dep - (fOf t d (k - 1)).arr)), (s.kinds ++ [f.typ])⟩ by rw [dvTo, ← HSs.out, dvB]; rw [if_pos hk0]; rw [dvA]; rw [if_neg (by rw [HH.out]; decide), ← Hf.out, dvLeg, if_neg (by rw [HK.out]; decide)]; rfl)
            have dk : decide (0 < k) = true := by simpa using hk0
            have hkp : k - 1 < d.length := by omega
            obtain ⟨m', hm', hmf'⟩ := flOk_nat (H3.out (k - 1) hkp)
            have HF' := Lib.hid (show fAt t.fls m' = (fOf t d (k - 1)) by unfold fOf; rw [hm']; rfl)
            obtain ⟨⟨-, -, -, -, pa', -⟩, -⟩ := HFC.out m' hmf'
            rw [HF'.out] at pa'
            obtain ⟨z0, z1⟩ := Hgap.out hk0
            rw [← Hf.out] at z0 z1
            have hb4 : b < WX.heap.size := Nat.lt_of_lt_of_le hb HBX.out.size
            have hf4 : fb < WX.heap.size := Nat.lt_of_lt_of_le hfb HBX.out.size
            have c0 := below_cell (HT.out (k - 1) hkp).1 hb HBX.out
            rw [hm'] at c0
            have c2 := below_cell HPD.out hfb HBX.out
            have c3 := below_cell pa' hfb HBX.out
            have HSX := Lib.hid (HS0.out.below HBX.out)
            have C1 := Lib.hid (fun dd os => Calls.regrown_of ((flight_any (grow (redrawn WX dd) os) sb t c P (HSX.out.below (below_regrown WX dd os)) m' hmf' fb foff HFA.out).mono (fun e w' h => And.intro h.1 (show Below (grow (redrawn WX dd) os).heap.size (grow (redrawn WX dd) os) w' from h.2 ▸ Below.refl _ _))))
            have i0' : (0 : Int) ≤ (k : Int) - 1 := by omega
            have i1' : (k : Int) - 1 < (d.length : Int) := by omega
            have e1 : IntKind.i64.wrap ((k : Int) - 1) = (k : Int) - 1 := by rw [IntKind.wrap_i64]; omega
            have e2 : ((k : Int) - 1).toNat = k - 1 := by omega
            have gX : WX.heap[w.heap.size]? = some (.cells #[.int .i64 (s.legs + 1), .int .i64 s.heads, .int .i64 0, .int .i64 (s.blk + (f.arr - f.dep)), .int .i64 0, .int .i64 0, .int .i64 s.lng, .int .i64 s.sht, .int .i64 0, .int .i64 0, .int .i64 0] 3 (0, 0)) := GX.out
            have hgp : (fOf t d (k - 1)).arr = f.dep - (f.dep - (fOf t d (k - 1)).arr) := by omega
            have pbd : 0 ≤ (fOf t d (k - 1)).arr ∧ (fOf t d (k - 1)).arr ≤ 60000000 := by have := leg_bd HS0.out.okT HD.out hkp; omega
            obtain ⟨pb0, pb1⟩ := pbd
            clear hgp pa' hm'
            go_wp2_with fail
            have r0 := fun dd os => cell_regrown c0 dd os
            have r2 := fun dd os => cell_regrown c2 dd os
            have r3 := fun dd os => cell_regrown c3 dd os
            refine wp_region_quiet_below (by kernel_rfl) (by kernel_rfl) ?_
            repeat (first | go_big_quiet_step (first | (with_reducible exact C1.out _ _)) | quiet_step (first | (with_reducible exact C1.out _ _)))
            refine wpQuiet_nil ?_
            intro _ hw'
            obtain ⟨⟨dq, osq⟩, hw''⟩ := hw'
            subst hw''
            have HBr := below_regrown WX dq osq
            have HB2 := Lib.hid (Below.then HBX.out HBr)
            have G2 := Lib.hid ((HBr.block _ (lt_of_block GX.out)).trans GX.out)
            have O2 := Lib.hid (own_keptB OX.out HBr)
            clear HBr r0 r2 r3 c0 c2 c3 C1 HSX gX hb4 hf4 i0' i1' e1 e2 OX GX HBX
            generalize grow (redrawn WX dq) osq = W2 at *
            obtain ⟨gp, hgp⟩ : ∃ gp, gp = f.dep - (fOf t d (k - 1)).arr := ⟨_, rfl⟩
            rw [← hgp] at z0 z1 HST
            rw [← hgp]
            clear hgp
            have y6 : W2.cell? ⟨w.heap.size, 6, none⟩ = some (.int .i64 s.lng) := cellW (j := 6) G2.out rfl
            have u6 := freeW (j := 6) G2.out
            have gl := lt_of_block G2.out
            go_upto_region 17 with fail
            have em : (if s.lng < gp then gp else s.lng) = mx s.lng gp := rfl
            rw [em]
            clear em
            have G3 := Lib.hid (show (W2.setCell ⟨w.heap.size, 6, none⟩ (.int .i64 (mx s.lng gp))).heap[w.heap.size]? = some (.cells #[.int .i64 (s.legs + 1), .int .i64 s.heads, .int .i64 0, .int .i64 (s.blk + (f.arr - f.dep)), .int .i64 0, .int .i64 0, .int .i64 (mx s.lng gp), .int .i64 s.sht, .int .i64 0, .int .i64 0, .int .i64 0] 3 (0, 0)) from block_setCell (i := 6) (u := .int .i64 (mx s.lng gp)) G2.out)
            have O3 := Lib.hid (own_setG O2.out 6 (.int .i64 (mx s.lng gp)))
            have HB3 := Lib.hid (HB2.out.setCell (p := ⟨w.heap.size, 6, none⟩) (Nat.le_refl _) (.int .i64 (mx s.lng gp)))
            clear y6 u6 gl G2 O2 HB2
            generalize W2.setCell ⟨w.heap.size, 6, none⟩ (.int .i64 (mx s.lng gp)) = W3 at *
            clear W2
            have y7 : W3.cell? ⟨w.heap.size, 7, none⟩ = some (.int .i64 s.sht) := cellW (j := 7) G3.out rfl
            have u7 := freeW (j := 7) G3.out
            have gl := lt_of_block G3.out
            go_upto_region 18 with fail
            have em : (if gp < s.sht then gp else s.sht) = mn s.sht gp := rfl
            rw [em]
            clear em
            have G4 := Lib.hid (show (W3.setCell ⟨w.heap.size, 7, none⟩ (.int .i64 (mn s.sht gp))).heap[w.heap.size]? = some (.cells #[.int .i64 (s.legs + 1), .int .i64 s.heads, .int .i64 0, .int .i64 (s.blk + (f.arr - f.dep)), .int .i64 0, .int .i64 0, .int .i64 (mx s.lng gp), .int .i64 (mn s.sht gp), .int .i64 0, .int .i64 0, .int .i64 0] 3 (0, 0)) from block_setCell (i := 7) (u := .int .i64 (mn s.sht gp)) G3.out)
            have O4 := Lib.hid (own_setG O3.out 7 (.int .i64 (mn s.sht gp)))
            have HB4 := Lib.hid (HB3.out.setCell (p := ⟨w.heap.size, 7, none⟩) (Nat.le_refl _) (.int .i64 (mn s.sht gp)))
            clear y7 u7 gl G3 O3 HB3
            generalize W3.setCell ⟨w.heap.size, 7, none⟩ (.int .i64 (mn s.sht gp)) = W4 at *
            clear W3
            go_wp2_with fail
            go_roundw
            case rel => exact ⟨k + 1, _, by omega, by go_num, rfl, Lib.hid (by rw [HST.out]; exact O4.out), Lib.hid (by rw [HST.out]; exact G4.out), HB4⟩
            case measure => simp [intOf]; omega
        · have HK := Lib.hid hkk
          clear hkk HStr c5 hfl
          go_upto_region 14 with fail
          have GX := G3
          have OX := O3
          have HBX := HB3
          clear G3 O3 HB3
          obtain ⟨WX, hWX⟩ : ∃ WX : World, WX = W3 := ⟨_, rfl⟩
          rw [← hWX] at GX OX HBX ⊢
          clear hWX
          rcases Nat.eq_zero_or_pos k with hk0 | hk0
          · have HST := Lib.hid (show dvTo t d (k + 1) = ⟨(s.legs + 1), s.heads, (s.blk + (f.arr - f.dep)), s.lng, s.sht, s.kinds⟩ by rw [dvTo, ← HSs.out, dvB]; rw [if_neg (by omega)]; rw [dvA]; rw [if_neg (by rw [HH.out]; decide), ← Hf.out, dvLeg, if_pos HK.out])
            have dk : decide (0 < k) = false := by simp; omega
            go_wp2_with fail
            go_roundw
            case rel => exact ⟨k + 1, _, by omega, by go_num, rfl, Lib.hid (by rw [HST.out]; exact OX.out), Lib.hid (by rw [HST.out]; exact GX.out), HBX⟩
            case measure => simp [intOf]; omega
          · have HST := Lib.hid (show dvTo t d (k + 1) = ⟨(s.legs + 1), s.heads, (s.blk + (f.arr - f.dep)), (mx s.lng (f.dep - (fOf t d (k - 1)).arr)), (mn s.sht (f.dep - (fOf t d (k - 1)).arr)), s.kinds⟩ by rw [dvTo, ← HSs.out, dvB]; rw [if_pos hk0]; rw [dvA]; rw [if_neg (by rw [HH.out]; decide), ← Hf.out, dvLeg, if_pos HK.out]; rfl)
            have dk : decide (0 < k) = true := by simpa using hk0
            have hkp : k - 1 < d.length := by omega
            obtain ⟨m', hm', hmf'⟩ := flOk_nat (H3.out (k - 1) hkp)
            have HF' := Lib.hid (show fAt t.fls m' = (fOf t d (k - 1)) by unfold fOf; rw [hm']; rfl)
            obtain ⟨⟨-, -, -, -, pa', -⟩, -⟩ := HFC.out m' hmf'
            rw [HF'.out] at pa'
            obtain ⟨z0, z1⟩ := Hgap.out hk0
            rw [← Hf.out] at z0 z1
            have hb4 : b < WX.heap.size := Nat.lt_of_lt_of_le hb HBX.out.size
            have hf4 : fb < WX.heap.size := Nat.lt_of_lt_of_le hfb HBX.out.size
            have c0 := below_cell (HT.out (k - 1) hkp).1 hb HBX.out
            rw [hm'] at c0
            have c2 := below_cell HPD.out hfb HBX.out
            have c3 := below_cell pa' hfb HBX.out
            have HSX := Lib.hid (HS0.out.below HBX.out)
            have C1 := Lib.hid (fun dd os => Calls.regrown_of ((flight_any (grow (redrawn WX dd) os) sb t c P (HSX.out.below (below_regrown WX dd os)) m' hmf' fb foff HFA.out).mono (fun e w' h => And.intro h.1 (show Below (grow (redrawn WX dd) os).heap.size (grow (redrawn WX dd) os) w' from h.2 ▸ Below.refl _ _))))
            have i0' : (0 : Int) ≤ (k : Int) - 1 := by omega
            have i1' : (k : Int) - 1 < (d.length : Int) := by omega
            have e1 : IntKind.i64.wrap ((k : Int) - 1) = (k : Int) - 1 := by rw [IntKind.wrap_i64]; omega
            have e2 : ((k : Int) - 1).toNat = k - 1 := by omega
            have gX : WX.heap[w.heap.size]? = some (.cells #[.int .i64 (s.legs + 1), .int .i64 s.heads, .int .i64 0, .int .i64 (s.blk + (f.arr - f.dep)), .int .i64 0, .int .i64 0, .int .i64 s.lng, .int .i64 s.sht, .int .i64 0, .int .i64 0, .int .i64 0] 3 (0, 0)) := GX.out
            have hgp : (fOf t d (k - 1)).arr = f.dep - (f.dep - (fOf t d (k - 1)).arr) := by omega
            have pbd : 0 ≤ (fOf t d (k - 1)).arr ∧ (fOf t d (k - 1)).arr ≤ 60000000 := by have := leg_bd HS0.out.okT HD.out hkp; omega
            obtain ⟨pb0, pb1⟩ := pbd
            clear hgp pa' hm'
            go_wp2_with fail
            have r0 := fun dd os => cell_regrown c0 dd os
            have r2 := fun dd os => cell_regrown c2 dd os
            have r3 := fun dd os => cell_regrown c3 dd os
            refine wp_region_quiet_below (by kernel_rfl) (by kernel_rfl) ?_
            repeat (first | go_big_quiet_step (first | (with_reducible exact C1.out _ _)) | quiet_step (first | (with_reducible exact C1.out _ _)))
            refine wpQuiet_nil ?_
            intro _ hw'
            obtain ⟨⟨dq, osq⟩, hw''⟩ := hw'
            subst hw''
            have HBr := below_regrown WX dq osq
            have HB2 := Lib.hid (Below.then HBX.out HBr)
            have G2 := Lib.hid ((HBr.block _ (lt_of_block GX.out)).trans GX.out)
            have O2 := Lib.hid (own_keptB OX.out HBr)
            clear HBr r0 r2 r3 c0 c2 c3 C1 HSX gX hb4 hf4 i0' i1' e1 e2 OX GX HBX
            generalize grow (redrawn WX dq) osq = W2 at *
            obtain ⟨gp, hgp⟩ : ∃ gp, gp = f.dep - (fOf t d (k - 1)).arr := ⟨_, rfl⟩
            rw [← hgp] at z0 z1 HST
            rw [← hgp]
            clear hgp
            have y6 : W2.cell? ⟨w.heap.size, 6, none⟩ = some (.int .i64 s.lng) := cellW (j := 6) G2.out rfl
            have u6 := freeW (j := 6) G2.out
            have gl := lt_of_block G2.out
            go_upto_region 17 with fail
            have em : (if s.lng < gp then gp else s.lng) = mx s.lng gp := rfl
            rw [em]
            clear em
            have G3 := Lib.hid (show (W2.setCell ⟨w.heap.size, 6, none⟩ (.int .i64 (mx s.lng gp))).heap[w.heap.size]? = some (.cells #[.int .i64 (s.legs + 1), .int .i64 s.heads, .int .i64 0, .int .i64 (s.blk + (f.arr - f.dep)), .int .i64 0, .int .i64 0, .int .i64 (mx s.lng gp), .int .i64 s.sht, .int .i64 0, .int .i64 0, .int .i64 0] 3 (0, 0)) from block_setCell (i := 6) (u := .int .i64 (mx s.lng gp)) G2.out)
            have O3 := Lib.hid (own_setG O2.out 6 (.int .i64 (mx s.lng gp)))
            have HB3 := Lib.hid (HB2.out.setCell (p := ⟨w.heap.size, 6, none⟩) (Nat.le_refl _) (.int .i64 (mx s.lng gp)))
            clear y6 u6 gl G2 O2 HB2
            generalize W2.setCell ⟨w.heap.size, 6, none⟩ (.int .i64 (mx s.lng gp)) = W3 at *
            clear W2
            have y7 : W3.cell? ⟨w.heap.size, 7, none⟩ = some (.int .i64 s.sht) := cellW (j := 7) G3.out rfl
            have u7 := freeW (j := 7) G3.out
            have gl := lt_of_block G3.out
            go_upto_region 18 with fail
            have em : (if gp < s.sht then gp else s.sht) = mn s.sht gp := rfl
            rw [em]
            clear em
            have G4 := Lib.hid (show (W3.setCell ⟨w.heap.size, 7, none⟩ (.int .i64 (mn s.sht gp))).heap[w.heap.size]? = some (.cells #[.int .i64 (s.legs + 1), .int .i64 s.heads, .int .i64 0, .int .i64 (s.blk + (f.arr - f.dep)), .int .i64 0, .int .i64 0, .int .i64 (mx s.lng gp), .int .i64 (mn s.sht gp), .int .i64 0, .int .i64 0, .int .i64 0] 3 (0, 0)) from block_setCell (i := 7) (u := .int .i64 (mn s.sht gp)) G3.out)
            have O4 := Lib.hid (own_setG O3.out 7 (.int .i64 (mn s.sht gp)))
            have HB4 := Lib.hid (HB3.out.setCell (p := ⟨w.heap.size, 7, none⟩) (Nat.le_refl _) (.int .i64 (mn s.sht gp)))
            clear y7 u7 gl G3 O3 HB3
            generalize W3.setCell ⟨w.heap.size, 7, none⟩ (.int .i64 (mn s.sht gp)) = W4 at *
            clear W3
            go_wp2_with fail
            go_roundw
            case rel => exact ⟨k + 1, _, by omega, by go_num, rfl, Lib.hid (by rw [HST.out]; exact O4.out), Lib.hid (by rw [HST.out]; exact G4.out), HB4⟩
            case measure => simp [intOf]; omega
      · rw [hh] at c1
        have HH := Lib.hid hh
        clear hh
        have HB1 := Lib.hid (Below.then hB.out (below_new wr (Obj.cells #[.int .i64 (m : Int), .bool true] 46)))
        have G1 := Lib.hid (one_alloc (o' := (Obj.cells #[.int .i64 (m : Int), .bool true] 46)) hG.out)
        have O1 := Lib.hid (hO.out.alloc (Obj.cells #[.int .i64 (m : Int), .bool true] 46))
        have T1 := Lib.hid (heap_new wr (Obj.cells #[.int .i64 (m : Int), .bool true] 46))
        clear hB hG hO
        go_wp2_with fail
        generalize wr.alloc (Obj.cells #[.int .i64 (m : Int), .bool true] 46) = W1 at *
        refine (flight_any W1 sb t c P (HS0.out.below HB1.out) m hmf fb foff HFA.out).mono ?_
        rintro e w2 ⟨rfl, rfl⟩
        clear c0 c1
        have x1 : W1.cell? ⟨wr.heap.size, 1, none⟩ = some (.bool true) := cellW (j := 1) T1.out rfl
        have xl := lt_of_block T1.out
        have gl := lt_of_block G1.out
        have hfl := Nat.lt_of_lt_of_le hfb HB1.out.size
        have y1 : W1.cell? ⟨w.heap.size, 1, none⟩ = some (.int .i64 s.heads) := cellW (j := 1) G1.out rfl
        have u1 := freeW (j := 1) G1.out
        go_upto_region 14 with fail
        have GX := Lib.hid (show (W1.setCell ⟨w.heap.size, 1, none⟩ (.int .i64 (s.heads + 1))).heap[w.heap.size]? = some (.cells #[.int .i64 s.legs, .int .i64 (s.heads + 1), .int .i64 0, .int .i64 s.blk, .int .i64 0, .int .i64 0, .int .i64 s.lng, .int .i64 s.sht, .int .i64 0, .int .i64 0, .int .i64 0] 3 (0, 0)) from block_setCell (i := 1) (u := .int .i64 (s.heads + 1)) G1.out)
        have OX := Lib.hid (own_setG O1.out 1 (.int .i64 (s.heads + 1)))
        have HBX := Lib.hid (HB1.out.setCell (p := ⟨w.heap.size, 1, none⟩) (Nat.le_refl _) (.int .i64 (s.heads + 1)))
        clear y1 u1 x1 xl gl hfl G1 O1 T1 HB1
        generalize W1.setCell ⟨w.heap.size, 1, none⟩ (.int .i64 (s.heads + 1)) = WX at *
        clear W1
        rcases Nat.eq_zero_or_pos k with hk0 | hk0
        · have HST := Lib.hid (show dvTo t d (k + 1) = ⟨s.legs, (s.heads + 1), s.blk, s.lng, s.sht, s.kinds⟩ by rw [dvTo, ← HSs.out, dvB]; rw [if_neg (by omega)]; rw [dvA]; rw [if_pos HH.out]; rfl)
          have dk : decide (0 < k) = false := by simp; omega
          go_wp2_with fail
          go_roundw
          case rel => exact ⟨k + 1, _, by omega, by go_num, rfl, Lib.hid (by rw [HST.out]; exact OX.out), Lib.hid (by rw [HST.out]; exact GX.out), HBX⟩
          case measure => simp [intOf]; omega
        · have HST := Lib.hid (show dvTo t d (k + 1) = ⟨s.legs, (s.heads + 1), s.blk, (mx s.lng (f.dep - (fOf t d (k - 1)).arr)), (mn s.sht (f.dep - (fOf t d (k - 1)).arr)), s.kinds⟩ by rw [dvTo, ← HSs.out, dvB]; rw [if_pos hk0]; rw [dvA]; rw [if_pos HH.out, ← Hf.out]; rfl)
          have dk : decide (0 < k) = true := by simpa using hk0
          have hkp : k - 1 < d.length := by omega
          obtain ⟨m', hm', hmf'⟩ := flOk_nat (H3.out (k - 1) hkp)
          have HF' := Lib.hid (show fAt t.fls m' = (fOf t d (k - 1)) by unfold fOf; rw [hm']; rfl)
          obtain ⟨⟨-, -, -, -, pa', -⟩, -⟩ := HFC.out m' hmf'
          rw [HF'.out] at pa'
          obtain ⟨z0, z1⟩ := Hgap.out hk0
          rw [← Hf.out] at z0 z1
          have hb4 : b < WX.heap.size := Nat.lt_of_lt_of_le hb HBX.out.size
          have hf4 : fb < WX.heap.size := Nat.lt_of_lt_of_le hfb HBX.out.size
          have c0 := below_cell (HT.out (k - 1) hkp).1 hb HBX.out
          rw [hm'] at c0
          have c2 := below_cell HPD.out hfb HBX.out
          have c3 := below_cell pa' hfb HBX.out
          have HSX := Lib.hid (HS0.out.below HBX.out)
          have C1 := Lib.hid (fun dd os => Calls.regrown_of ((flight_any (grow (redrawn WX dd) os) sb t c P (HSX.out.below (below_regrown WX dd os)) m' hmf' fb foff HFA.out).mono (fun e w' h => And.intro h.1 (show Below (grow (redrawn WX dd) os).heap.size (grow (redrawn WX dd) os) w' from h.2 ▸ Below.refl _ _))))
          have i0' : (0 : Int) ≤ (k : Int) - 1 := by omega
          have i1' : (k : Int) - 1 < (d.length : Int) := by omega
          have e1 : IntKind.i64.wrap ((k : Int) - 1) = (k : Int) - 1 := by rw [IntKind.wrap_i64]; omega
          have e2 : ((k : Int) - 1).toNat = k - 1 := by omega
          have gX : WX.heap[w.heap.size]? = some (.cells #[.int .i64 s.legs, .int .i64 (s.heads + 1), .int .i64 0, .int .i64 s.blk, .int .i64 0, .int .i64 0, .int .i64 s.lng, .int .i64 s.sht, .int .i64 0, .int .i64 0, .int .i64 0] 3 (0, 0)) := GX.out
          have hgp : (fOf t d (k - 1)).arr = f.dep - (f.dep - (fOf t d (k - 1)).arr) := by omega
          have pbd : 0 ≤ (fOf t d (k - 1)).arr ∧ (fOf t d (k - 1)).arr ≤ 60000000 := by have := leg_bd HS0.out.okT HD.out hkp; omega
          obtain ⟨pb0, pb1⟩ := pbd
          clear hgp pa' hm'
          go_wp2_with fail
          have r0 := fun dd os => cell_regrown c0 dd os
          have r2 := fun dd os => cell_regrown c2 dd os
          have r3 := fun dd os => cell_regrown c3 dd os
          refine wp_region_quiet_below (by kernel_rfl) (by kernel_rfl) ?_
          repeat (first | go_big_quiet_step (first | (with_reducible exact C1.out _ _)) | quiet_step (first | (with_reducible exact C1.out _ _)))
          refine wpQuiet_nil ?_
          intro _ hw'
          obtain ⟨⟨dq, osq⟩, hw''⟩ := hw'
          subst hw''
          have HBr := below_regrown WX dq osq
          have HB2 := Lib.hid (Below.then HBX.out HBr)
          have G2 := Lib.hid ((HBr.block _ (lt_of_block GX.out)).trans GX.out)
          have O2 := Lib.hid (own_keptB OX.out HBr)
          clear HBr r0 r2 r3 c0 c2 c3 C1 HSX gX hb4 hf4 i0' i1' e1 e2 OX GX HBX
          generalize grow (redrawn WX dq) osq = W2 at *
          obtain ⟨gp, hgp⟩ : ∃ gp, gp = f.dep - (fOf t d (k - 1)).arr := ⟨_, rfl⟩
          rw [← hgp] at z0 z1 HST
          rw [← hgp]
          clear hgp
          have y6 : W2.cell? ⟨w.heap.size, 6, none⟩ = some (.int .i64 s.lng) := cellW (j := 6) G2.out rfl
          have u6 := freeW (j := 6) G2.out
          have gl := lt_of_block G2.out
          go_upto_region 17 with fail
          have em : (if s.lng < gp then gp else s.lng) = mx s.lng gp := rfl
          rw [em]
          clear em
          have G3 := Lib.hid (show (W2.setCell ⟨w.heap.size, 6, none⟩ (.int .i64 (mx s.lng gp))).heap[w.heap.size]? = some (.cells #[.int .i64 s.legs, .int .i64 (s.heads + 1), .int .i64 0, .int .i64 s.blk, .int .i64 0, .int .i64 0, .int .i64 (mx s.lng gp), .int .i64 s.sht, .int .i64 0, .int .i64 0, .int .i64 0] 3 (0, 0)) from block_setCell (i := 6) (u := .int .i64 (mx s.lng gp)) G2.out)
          have O3 := Lib.hid (own_setG O2.out 6 (.int .i64 (mx s.lng gp)))
          have HB3 := Lib.hid (HB2.out.setCell (p := ⟨w.heap.size, 6, none⟩) (Nat.le_refl _) (.int .i64 (mx s.lng gp)))
          clear y6 u6 gl G2 O2 HB2
          generalize W2.setCell ⟨w.heap.size, 6, none⟩ (.int .i64 (mx s.lng gp)) = W3 at *
          clear W2
          have y7 : W3.cell? ⟨w.heap.size, 7, none⟩ = some (.int .i64 s.sht) := cellW (j := 7) G3.out rfl
          have u7 := freeW (j := 7) G3.out
          have gl := lt_of_block G3.out
          go_upto_region 18 with fail
          have em : (if gp < s.sht then gp else s.sht) = mn s.sht gp := rfl
          rw [em]
          clear em
          have G4 := Lib.hid (show (W3.setCell ⟨w.heap.size, 7, none⟩ (.int .i64 (mn s.sht gp))).heap[w.heap.size]? = some (.cells #[.int .i64 s.legs, .int .i64 (s.heads + 1), .int .i64 0, .int .i64 s.blk, .int .i64 0, .int .i64 0, .int .i64 (mx s.lng gp), .int .i64 (mn s.sht gp), .int .i64 0, .int .i64 0, .int .i64 0] 3 (0, 0)) from block_setCell (i := 7) (u := .int .i64 (mn s.sht gp)) G3.out)
          have O4 := Lib.hid (own_setG O3.out 7 (.int .i64 (mn s.sht gp)))
          have HB4 := Lib.hid (HB3.out.setCell (p := ⟨w.heap.size, 7, none⟩) (Nat.le_refl _) (.int .i64 (mn s.sht gp)))
          clear y7 u7 gl G3 O3 HB3
          generalize W3.setCell ⟨w.heap.size, 7, none⟩ (.int .i64 (mn s.sht gp)) = W4 at *
          clear W3
          go_wp2_with fail
          go_roundw
          case rel => exact ⟨k + 1, _, by omega, by go_num, rfl, Lib.hid (by rw [HST.out]; exact O4.out), Lib.hid (by rw [HST.out]; exact G4.out), HB4⟩
          case measure => simp [intOf]; omega
    · obtain rfl : k = d.length := by omega
      clear hk hlt
      have y2 : wr.cell? ⟨w.heap.size, 2, none⟩ = some (.int .i64 0) := cellW (j := 2) hG.out rfl
      have u2 := freeW (j := 2) hG.out
      have lg := lt_of_block hG.out
      obtain ⟨ka, kc, rfl, hStr⟩ := own_str hO.out
      clear hStr
      go_upto_region 20 with fail
      obtain ⟨s, hs⟩ : ∃ s, s = dvTo t d d.length := ⟨_, rfl⟩
      rw [← hs] at hG
      rw [← hs]
      have HSs := Lib.hid hs
      clear hs
      have G2 := Lib.hid (show (wr.setCell ⟨w.heap.size, 2, none⟩ (.int .i64 (s.kinds.length : Int))).heap[w.heap.size]? = some (.cells #[.int .i64 s.legs, .int .i64 s.heads, .int .i64 (s.kinds.length : Int), .int .i64 s.blk, .int .i64 0, .int .i64 0, .int .i64 s.lng, .int .i64 s.sht, .int .i64 0, .int .i64 0, .int .i64 0] 3 (0, 0)) from block_setCell (i := 2) (u := .int .i64 (s.kinds.length : Int)) hG.out)
      have HB2 := Lib.hid (hB.out.setCell (p := ⟨w.heap.size, 2, none⟩) (Nat.le_refl _) (.int .i64 (s.kinds.length : Int)))
      clear y2 u2 lg hG hO hB
      generalize wr.setCell ⟨w.heap.size, 2, none⟩ (.int .i64 (s.kinds.length : Int)) = W2 at *
      obtain ⟨hm, -, hm', -⟩ := fst_ok HD.out
      have c0 := below_cell (HT.out 0 (by omega)).1 hb HB2.out
      have c1 := below_cell (HT.out (d.length - 1) (by omega)).1 hb HB2.out
      rw [hm, Nat.zero_mul, Nat.add_zero] at c0
      rw [hm'] at c1
      have hbl := Nat.lt_of_lt_of_le hb HB2.out.size
      obtain ⟨n, hn⟩ : ∃ n, d.length = n + 1 := ⟨d.length - 1, by omega⟩
      have hn6 : n ≤ 5 := by omega
      have e1 : ((n + 1 : Nat) : Int) - 1 = (n : Int) := by omega
      have e2 : ((n + 1 : Nat) : Int) = (n : Int) + 1 := by omega
      have e3 : IntKind.i64.wrap ((n : Int) + 1 - 1) = (n : Int) := by rw [IntKind.wrap_i64]; omega
      have e4 : ((n : Int) + 1 - 1) = (n : Int) := by omega
      have e5 : IntKind.i64.wrap (n : Int) = (n : Int) := by rw [IntKind.wrap_i64]; omega
      have e6 : IntKind.i64.wrap (((n + 1 : Nat) : Int) - 1) = (n : Int) := by rw [IntKind.wrap_i64]; omega
      have i0' : (0 : Int) ≤ (n : Int) := by omega
      have i1' : (n : Int) < (n : Int) + 1 := by omega
      have i2' : n < n + 1 := by omega
      have FE := Lib.hid (fillEnds_any w W2.drew sb t c P HS0.out (HB2.out.drew) (fstN d) (lstN d) hml hml' w.heap.size _ _ _ _ _ _ _ _ _ _ _ (Nat.le_refl _) G2.out (span_late HS0.out.okT HS0.out.okC HD.out) (Nat.le_trans (zone_sh HS0.out.okT _) (by omega)) (Nat.le_trans (zone_sh HS0.out.okT _) (by omega)))
      clear hm hm' h1 h2 hn6
      rw [hn] at c1 ⊢
      rw [Nat.add_sub_cancel] at c1
      have HNn := Lib.hid hn
      clear hn
      go_region_held3 (fun w' => w'.cell? ⟨b, off, none⟩ = some (.int .i64 (fstN d : Int)) ∧ w'.cell? ⟨b, off + n * 2, none⟩ = some (.int .i64 (lstN d : Int))) (first | exact ⟨c0, c1⟩ | exact ⟨m0, m1⟩)
        (first | (go_at_call 111; refine (FE.out).mono ?_; rintro e w5 ⟨rfl, hG5, hB5⟩; have m0 := ((hB5.cell (p := ⟨b, off, none⟩) hb).trans ((HB2.out.cell (p := ⟨b, off, none⟩) hb).symm)).trans c0; have m1 := ((hB5.cell (p := ⟨b, off + n * 2, none⟩) hb).trans ((HB2.out.cell (p := ⟨b, off + n * 2, none⟩) hb).symm)).trans c1))
      have HG5 := Lib.hid hG5
      have HB5 := Lib.hid hB5
      clear hG5 hB5 m0 m1 c0 c1 e1 e2 e3 e4 e5 e6 i0' i1' i2' FE
      go_wp2_with fail
      go_ret
      refine ⟨w.heap.size, rfl, .inr ⟨w.heap.size, 0, rfl, lt_of_block HG5.out, fun i hi => ?_⟩, HB5.out⟩
      refine cellW HG5.out ?_
      have hs := HSs.out
      subst hs
      rw [Nat.zero_add]
      have hl : (dvals t c d).length = 11 := rfl
      rw [hl] at hi
      rcases i with _ | _ | _ | _ | _ | _ | _ | _ | _ | _ | _ | i
      all_goals first | rfl | omega
end Go.Proofs.YtpgbckgjlgecpaaGreat
/- contracts: withDuty, DutyAttributes, Attribute -/
namespace Go.Proofs.YtpgbckgjlgecpaaGreat
open Go.RowKit Go.Sort
set_option linter.unusedVariables false
set_option linter.unusedSimpArgs false
set_option maxRecDepth 100000
def dErr (t : TTM) (c : ConM) (d : Duty) : Int := if valTT t ≠ 0 then valTT t else if valT c ≠ 0 then valT c else dutyE t c d
theorem dErr_t {t : TTM} {c : ConM} {d : Duty} (h : valTT t ≠ 0) : dErr t c d = valTT t := if_pos h
theorem dErr_c {t : TTM} {c : ConM} {d : Duty} (h : valTT t = 0) (h2 : valT c ≠ 0) : dErr t c d = valT c := by rw [dErr, if_neg (by simpa using h), if_pos h2]
theorem dErr_d {t : TTM} {c : ConM} {d : Duty} (h : valTT t = 0) (h2 : valT c = 0) : dErr t c d = dutyE t c d := by rw [dErr, if_neg (by simpa using h), if_neg (by simpa using h2)]
theorem ret_pe {v : Value} {a b : Int} (h : a = b) : Ending.returned (.tuple #[v, .int .i64 a]) = .returned (.tuple #[v, .int .i64 b]) := by rw [h]
inductive WithRes (w : World) (t : TTM) (c : ConM) (d : Duty) (e : Ending) (w' : World) : Prop
  | bad (h : dErr t c d ≠ 0) (he : e = .returned (.tuple #[.pointer none, .int .i64 (dErr t c d)]))
  | ok (sb : Nat) (P : SetP) (h : dErr t c d = 0) (hd : dutyE t c d = 0) (he : e = .returned (.tuple #[.pointer (some ⟨sb, 0, none⟩), .int .i64 0])) (hs : SetAt w' sb t c P) (hn : P.nights = nightsB c)
def WithPost (w : World) (t : TTM) (c : ConM) (d : Duty) (e : Ending) (w' : World) : Prop := WithRes w t c d e w' ∧ Below w.heap.size w w'

set_option maxHeartbeats 1600000 in
theorem withDuty_any (t : TTM) (c : ConM) (za : Option Addr) (zc : Nat) (aa : Option Addr) (ac : Nat) (fa : Option Addr) (fc : Nat) (p : ConP) (hN : NewS t c za zc aa ac fa fc p) (w : World) (hT : TCAt w t c za aa fa p) (d : Duty) (da : Option Addr) (dc : Nat) (hl : d.length ≤ 140737488355328) (hd : SlAt taskRT w da d) : Calls Tryz.prog 56 #[.agg #[.slice za t.zones.length zc, .slice aa t.airs.length ac, .slice fa t.fls.length fc], .agg #[.int .i64 c.report, .int .i64 c.release, .int .i64 c.connect, .int .i64 c.sit, .int .i64 c.layover, .int .i64 c.nf, .int .i64 c.nt, .slice p.ca c.consts.length p.cc, .slice p.ra c.rules.length p.rc, .slice p.ka c.costs.length p.kc, .slice p.xa c.credit.length p.xc, .slice p.la c.lims.length p.lc, .slice p.oa c.offs.length p.oc, .int .i64 c.guar], .slice da d.length dc] w (WithPost w t c d) := by
  have HT := Lib.hid hT
  have HD := Lib.hid hd
  have HN := Lib.hid hN
  clear hT hd hN
  go_enter Tryz.func56, Tryz.ntmps56
  go_wp2_with fail
  have HB0 := Lib.hid (Below.then (below_new w (Obj.cells #[.slice za t.zones.length zc, .slice aa t.airs.length ac, .slice fa t.fls.length fc] 26)) (below_new _ (Obj.cells #[.int .i64 c.report, .int .i64 c.release, .int .i64 c.connect, .int .i64 c.sit, .int .i64 c.layover, .int .i64 c.nf, .int .i64 c.nt, .slice p.ca c.consts.length p.cc, .slice p.ra c.rules.length p.rc, .slice p.ka c.costs.length p.kc, .slice p.xa c.credit.length p.xc, .slice p.la c.lims.length p.lc, .slice p.oa c.offs.length p.oc, .int .i64 c.guar] 34)))
  generalize (w.alloc (Obj.cells #[.slice za t.zones.length zc, .slice aa t.airs.length ac, .slice fa t.fls.length fc] 26)).alloc (Obj.cells #[.int .i64 c.report, .int .i64 c.release, .int .i64 c.connect, .int .i64 c.sit, .int .i64 c.layover, .int .i64 c.nf, .int .i64 c.nt, .slice p.ca c.consts.length p.cc, .slice p.ra c.rules.length p.rc, .slice p.ka c.costs.length p.kc, .slice p.xa c.credit.length p.xc, .slice p.la c.lims.length p.lc, .slice p.oa c.offs.length p.oc, .int .i64 c.guar] 34) = W0 at *
  refine (HN.out W0 (HT.out.below HB0.out)).mono ?_
  rintro e w1 ⟨hres, hb1⟩
  have HB1 := Lib.hid (Below.then HB0.out hb1)
  clear hb1 HB0
  rcases hres with ⟨h, rfl⟩ | ⟨h, h2, rfl⟩ | ⟨sb, P, rfl, hs, _, hn⟩
  · have h' : (valTT t != 0) = true := by simpa using h
    have HV := Lib.hid h
    clear h
    go_wp2_with fail
    go_ret2
    exact ⟨.bad (by rw [dErr_t HV.out]; exact HV.out) (ret_pe (dErr_t HV.out).symm), HB1.out⟩
  · have h' : (valT c != 0) = true := by simpa using h2
    have HV := Lib.hid h
    have HV2 := Lib.hid h2
    clear h h2
    go_wp2_with fail
    go_ret2
    exact ⟨.bad (by rw [dErr_c HV.out HV2.out]; exact HV2.out) (ret_pe (dErr_c HV.out HV2.out).symm), HB1.out⟩
  · have HS := Lib.hid hs
    have HNi := Lib.hid hn
    clear hs hn
    go_wp2_with fail
    refine (dutyStructure_any w1 sb t c P HS.out d da dc hl (HD.out.below HB1.out)).mono ?_
    rintro e w2 ⟨rfl, hb2⟩
    have HB2 := Lib.hid (Below.then HB1.out hb2)
    have HS2 := Lib.hid (HS.out.below hb2)
    have HE := Lib.hid (dErr_d (d := d) HS.out.okT HS.out.okC)
    clear hb2
    by_cases hv : dutyE t c d = 0
    · have HV := Lib.hid hv
      rw [hv]
      clear hv
      go_wp2_with fail
      go_ret2
      exact ⟨.ok sb P (by rw [HE.out]; exact HV.out) HV.out rfl HS2.out HNi.out, HB2.out⟩
    · have h' : (dutyE t c d != 0) = true := by simpa using hv
      have HV := Lib.hid hv
      clear hv
      go_wp2_with fail
      go_ret2
      exact ⟨.bad (by rw [HE.out]; exact HV.out) (ret_pe HE.out.symm), HB2.out⟩

set_option maxHeartbeats 1600000 in
theorem forDuty_any (t : TTM) (c : ConM) (za : Option Addr) (zc : Nat) (aa : Option Addr) (ac : Nat) (fa : Option Addr) (fc : Nat) (p : ConP) (hN : NewS t c za zc aa ac fa fc p) (w : World) (hT : TCAt w t c za aa fa p) (d : Duty) (da : Option Addr) (dc : Nat) (hl : d.length ≤ 140737488355328) (hd : SlAt taskRT w da d) : Calls Tryz.prog 69 #[.agg #[.slice za t.zones.length zc, .slice aa t.airs.length ac, .slice fa t.fls.length fc], .agg #[.int .i64 c.report, .int .i64 c.release, .int .i64 c.connect, .int .i64 c.sit, .int .i64 c.layover, .int .i64 c.nf, .int .i64 c.nt, .slice p.ca c.consts.length p.cc, .slice p.ra c.rules.length p.rc, .slice p.ka c.costs.length p.kc, .slice p.xa c.credit.length p.xc, .slice p.la c.lims.length p.lc, .slice p.oa c.offs.length p.oc, .int .i64 c.guar], .slice da d.length dc] w (WithPost w t c d) := by
  have HT := Lib.hid hT
  have HD := Lib.hid hd
  have HN := Lib.hid hN
  clear hT hd hN
  go_enter Tryz.func69, Tryz.ntmps69
  go_wp2_with fail
  have HB0 := Lib.hid (Below.then (below_new w (Obj.cells #[.slice za t.zones.length zc, .slice aa t.airs.length ac, .slice fa t.fls.length fc] 26)) (below_new _ (Obj.cells #[.int .i64 c.report, .int .i64 c.release, .int .i64 c.connect, .int .i64 c.sit, .int .i64 c.layover, .int .i64 c.nf, .int .i64 c.nt, .slice p.ca c.consts.length p.cc, .slice p.ra c.rules.length p.rc, .slice p.ka c.costs.length p.kc, .slice p.xa c.credit.length p.xc, .slice p.la c.lims.length p.lc, .slice p.oa c.offs.length p.oc, .int .i64 c.guar] 34)))
  generalize (w.alloc (Obj.cells #[.slice za t.zones.length zc, .slice aa t.airs.length ac, .slice fa t.fls.length fc] 26)).alloc (Obj.cells #[.int .i64 c.report, .int .i64 c.release, .int .i64 c.connect, .int .i64 c.sit, .int .i64 c.layover, .int .i64 c.nf, .int .i64 c.nt, .slice p.ca c.consts.length p.cc, .slice p.ra c.rules.length p.rc, .slice p.ka c.costs.length p.kc, .slice p.xa c.credit.length p.xc, .slice p.la c.lims.length p.lc, .slice p.oa c.offs.length p.oc, .int .i64 c.guar] 34) = W0 at *
  refine (HN.out W0 (HT.out.below HB0.out)).mono ?_
  rintro e w1 ⟨hres, hb1⟩
  have HB1 := Lib.hid (Below.then HB0.out hb1)
  clear hb1 HB0
  rcases hres with ⟨h, rfl⟩ | ⟨h, h2, rfl⟩ | ⟨sb, P, rfl, hs, _, hn⟩
  · have h' : (valTT t != 0) = true := by simpa using h
    have HV := Lib.hid h
    clear h
    go_wp2_with fail
    go_ret2
    exact ⟨.bad (by rw [dErr_t HV.out]; exact HV.out) (ret_pe (dErr_t HV.out).symm), HB1.out⟩
  · have h' : (valT c != 0) = true := by simpa using h2
    have HV := Lib.hid h
    have HV2 := Lib.hid h2
    clear h h2
    go_wp2_with fail
    go_ret2
    exact ⟨.bad (by rw [dErr_c HV.out HV2.out]; exact HV2.out) (ret_pe (dErr_c HV.out HV2.out).symm), HB1.out⟩
  · have HS := Lib.hid hs
    have HNi := Lib.hid hn
    clear hs hn
    go_wp2_with fail
    refine (dutyStructure_any w1 sb t c P HS.out d da dc hl (HD.out.below HB1.out)).mono ?_
    rintro e w2 ⟨rfl, hb2⟩
    have HB2 := Lib.hid (Below.then HB1.out hb2)
    have HS2 := Lib.hid (HS.out.below hb2)
    have HE := Lib.hid (dErr_d (d := d) HS.out.okT HS.out.okC)
    clear hb2
    by_cases hv : dutyE t c d = 0
    · have HV := Lib.hid hv
      rw [hv]
      clear hv
      go_wp2_with fail
      go_ret2
      exact ⟨.ok sb P (by rw [HE.out]; exact HV.out) HV.out rfl HS2.out HNi.out, HB2.out⟩
    · have h' : (dutyE t c d != 0) = true := by simpa using hv
      have HV := Lib.hid hv
      clear hv
      go_wp2_with fail
      go_ret2
      exact ⟨.bad (by rw [HE.out]; exact HV.out) (ret_pe HE.out.symm), HB2.out⟩

/-- a row of attributes -/
def AttrRow (w : World) (b : Nat) (N : List ByteArray) (q : List Int) : Prop := ∃ C, w.heap[b]? = some (.cells C 104 (0, 0)) ∧ C.toList.take (q.length * 2) = atCells N q q.length
inductive AttrRes (w : World) (N : List ByteArray) (q : List Int) (er : Int) (e : Ending) (w' : World) : Prop
  | bad (h : er ≠ 0) (he : e = .returned (.tuple #[.slice none 0 0, .int .i64 er]))
  | ok (b : Nat) (h : er = 0) (he : e = .returned (.tuple #[.slice (some ⟨b, 0, none⟩) q.length q.length, .int .i64 0])) (hq : q.length = N.length) (hr : AttrRow w' b N q)
def AttrPost2 (w : World) (N : List ByteArray) (q : List Int) (er : Int) (e : Ending) (w' : World) : Prop := AttrRes w N q er e w' ∧ Below w.heap.size w w'
set_option maxHeartbeats 1600000 in
theorem dutyAttributes_any (t : TTM) (c : ConM) (za : Option Addr) (zc : Nat) (aa : Option Addr) (ac : Nat) (fa : Option Addr) (fc : Nat) (p : ConP) (hN : NewS t c za zc aa ac fa fc p) (w : World) (hT : TCAt w t c za aa fa p) (d : Duty) (da : Option Addr) (dc : Nat) (hl : d.length ≤ 140737488355328) (hd : SlAt taskRT w da d) : Calls Tryz.prog 17 #[.agg #[.slice za t.zones.length zc, .slice aa t.airs.length ac, .slice fa t.fls.length fc], .agg #[.int .i64 c.report, .int .i64 c.release, .int .i64 c.connect, .int .i64 c.sit, .int .i64 c.layover, .int .i64 c.nf, .int .i64 c.nt, .slice p.ca c.consts.length p.cc, .slice p.ra c.rules.length p.rc, .slice p.ka c.costs.length p.kc, .slice p.xa c.credit.length p.xc, .slice p.la c.lims.length p.lc, .slice p.oa c.offs.length p.oc, .int .i64 c.guar], .slice da d.length dc] w (AttrPost2 w (attrNames 1) (dvals t c d) (dErr t c d)) := by
  have HT := Lib.hid hT
  have HD := Lib.hid hd
  have HN := Lib.hid hN
  clear hT hd hN
  go_enter Tryz.func17, Tryz.ntmps17
  go_wp2_with fail
  have HB0 := Lib.hid (Below.then (below_new w (Obj.cells #[.slice za t.zones.length zc, .slice aa t.airs.length ac, .slice fa t.fls.length fc] 26)) (below_new _ (Obj.cells #[.int .i64 c.report, .int .i64 c.release, .int .i64 c.connect, .int .i64 c.sit, .int .i64 c.layover, .int .i64 c.nf, .int .i64 c.nt, .slice p.ca c.consts.length p.cc, .slice p.ra c.rules.length p.rc, .slice p.ka c.costs.length p.kc, .slice p.xa c.credit.length p.xc, .slice p.la c.lims.length p.lc, .slice p.oa c.offs.length p.oc, .int .i64 c.guar] 34)))
  generalize (w.alloc (Obj.cells #[.slice za t.zones.length zc, .slice aa t.airs.length ac, .slice fa t.fls.length fc] 26)).alloc (Obj.cells #[.int .i64 c.report, .int .i64 c.release, .int .i64 c.connect, .int .i64 c.sit, .int .i64 c.layover, .int .i64 c.nf, .int .i64 c.nt, .slice p.ca c.consts.length p.cc, .slice p.ra c.rules.length p.rc, .slice p.ka c.costs.length p.kc, .slice p.xa c.credit.length p.xc, .slice p.la c.lims.length p.lc, .slice p.oa c.offs.length p.oc, .int .i64 c.guar] 34) = W0 at *
  refine (withDuty_any t c za zc aa ac fa fc p HN.out W0 (HT.out.below HB0.out) d da dc hl (HD.out.below HB0.out)).mono ?_
  rintro e w1 ⟨hres, hb1⟩
  have HB1 := Lib.hid (Below.then HB0.out hb1)
  clear hb1 HB0
  rcases hres with ⟨h, rfl⟩ | ⟨sb, P, h, hd2, rfl, hs, _⟩
  · have h' : (dErr t c d != 0) = true := by simpa using h
    have HV := Lib.hid h
    clear h
    go_wp2_with fail
    go_ret2
    exact ⟨.bad HV.out rfl, HB1.out⟩
  · have HS := Lib.hid hs
    have HV := Lib.hid h
    have HD2 := Lib.hid hd2
    clear hs h hd2
    go_wp2_with fail
    refine (dutyValues_any w1 sb t c P HS.out d da dc HD2.out (HD.out.below HB1.out)).mono ?_
    rintro e w2 ⟨b, rfl, hI, hb2⟩
    have HI := Lib.hid hI
    have HB2 := Lib.hid (Below.then HB1.out hb2)
    clear hI hb2
    go_wp2_with fail
    refine (attrs_any 1 (by decide) (by decide) (dvals t c d) (some ⟨b, 0, none⟩) 11 w2 rfl HI.out).mono ?_
    rintro e w3 ⟨C, rfl, hC, hCs, hCt, hb3⟩
    have HB3 := Lib.hid (Below.then HB2.out hb3)
    have HCC := Lib.hid (show AttrRow w3 w2.heap.size (attrNames 1) (dvals t c d) from ⟨C, hC, hCt⟩)
    clear hC hCs hCt hb3
    go_wp2_with fail
    go_ret2
    exact ⟨.ok _ HV.out rfl rfl HCC.out, HB3.out⟩
end Go.Proofs.YtpgbckgjlgecpaaGreat
