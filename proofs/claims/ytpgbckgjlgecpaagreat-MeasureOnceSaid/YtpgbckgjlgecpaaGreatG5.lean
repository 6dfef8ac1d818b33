/- merged texts: St0 St1 St2 St3 St4 Sl At3 Fi -/
import Derived.Test.YtpgbckgjlgecpaaGreatG4
/- the setting in memory; its small methods -/
namespace Go.Proofs.YtpgbckgjlgecpaaGreat
open Go.RowKit Go.Sort
set_option linter.unusedVariables false
set_option linter.unusedSimpArgs false
set_option maxRecDepth 100000
/-- the compiled rules and costs -/
def cmpX (c : ConM) (k : Int) (x : ExprM) : FormM := cmpE (cvC c.consts c.consts.length) k x
def rulesL (c : ConM) (l : List RuleM) (k : Nat) : List (ByteArray × FormM) := (l.filter fun r => decide (r.scope = (k : Int))).map fun r => (r.name, cmpX c k r.ex)
def costsL (c : ConM) (l : List CostM) (k : Nat) : List FormM := (l.filter fun r => decide (r.scope = (k : Int))).map fun r => cmpX c k r.ex
def rulesOf (c : ConM) (k : Nat) : List (ByteArray × FormM) := rulesL c c.rules k
def costsOf (c : ConM) (k : Nat) : List FormM := costsL c c.costs k
def creditOf (c : ConM) : List FormM := c.credit.map (cmpX c 1)
/-- the zone of an airport -/
def zoneN (zs : List ZoneM) (s : ByteArray) : Option ZoneM := zs.reverse.find? fun z => decide (z.name = s)
def airN (l : List AirM) (s : ByteArray) : Option AirM := l.reverse.find? fun a => decide (a.code = s)
def zone0 : ZoneM := ⟨ByteArray.empty, 0, []⟩
def zoneT (t : TTM) (s : ByteArray) : ZoneM := match airN t.airs s with
  | some a => (zoneN t.zones a.zone).getD zone0
  | none => zone0
/-- a zone as a value -/
def ZVal (w : World) (v : Value) (z : ZoneM) : Prop := ∃ a cap, v = .agg #[.string z.name, .int .i64 z.off, .slice a z.sh.length cap] ∧ ShAt w a z.sh ∧ z.name.size ≤ 140737488355328 ∧ z.sh.length ≤ 140737488355328
theorem ZVal.below {w w' : World} {v : Value} {z : ZoneM} (h : ZVal w v z) (hb : Below w.heap.size w w') : ZVal w' v z := by
  obtain ⟨a, cap, h1, h2, h3⟩ := h
  exact ⟨a, cap, h1, h2.below hb, h3⟩
def ZonesAt (w : World) (b : Nat) (t : TTM) : Prop := ∃ M, MapOf Tryz.prog w b .string M ∧ ∀ s, (airN t.airs s = none → mget M (.string s) = none) ∧ (airN t.airs s ≠ none → ∃ v, mget M (.string s) = some v ∧ ZVal w v (zoneT t s))
theorem ZonesAt.below {w w' : World} {b : Nat} {t : TTM} (h : ZonesAt w b t) (hb : Below w.heap.size w w') : ZonesAt w' b t := by
  obtain ⟨M, h1, h2⟩ := h
  refine ⟨M, h1.below hb, fun s => ⟨(h2 s).1, fun hs => ?_⟩⟩
  obtain ⟨v, h3, h4⟩ := (h2 s).2 hs
  exact ⟨v, h3, h4.below hb⟩
def ruAt (l : List (ByteArray × FormM)) (k : Nat) : ByteArray × FormM := l.getD k (ByteArray.empty, .mk 0 0 [])
def noX : Nat → Prop := fun _ => False
/-- rows of rules and of costs -/
def RulesRow (w : World) (a : Option Addr) (l : List (ByteArray × FormM)) : Prop := l = [] ∨ ∃ b off, a = some ⟨b, off, none⟩ ∧ b < w.heap.size ∧ ∀ i, i < l.length → w.cell? ⟨b, off + i * 4, none⟩ = some (.string (ruAt l i).1) ∧ (ruAt l i).1.size ≤ 140737488355328 ∧ FormsAt noX w b (off + i * 4 + 1) [(ruAt l i).2]
theorem RulesRow.below {w w' : World} {a : Option Addr} {l : List (ByteArray × FormM)} (h : RulesRow w a l) (hb : Below w.heap.size w w') : RulesRow w' a l := by
  rcases h with h | ⟨b, off, h1, h2, h3⟩
  · exact .inl h
  · exact .inr ⟨b, off, h1, Nat.lt_of_lt_of_le h2 hb.size, fun i hi => ⟨below_cell (h3 i hi).1 h2 hb, (h3 i hi).2.1, (h3 i hi).2.2.kept hb⟩⟩
/-- where the lists of a setting lie -/
structure SetP where
  za : Option Addr
  zc : Nat
  aa : Option Addr
  ac : Nat
  fa : Option Addr
  fc : Nat
  con : ConP
  zb : Nat
  ra : Nat → Option Addr
  rc : Nat → Nat
  ka : Nat → Option Addr
  kc : Nat → Nat
  xa : Option Addr
  xc : Nat
  nights : Bool
def setVals (t : TTM) (c : ConM) (P : SetP) : Array Value := #[.slice P.za t.zones.length P.zc, .slice P.aa t.airs.length P.ac, .slice P.fa t.fls.length P.fc, .int .i64 c.report, .int .i64 c.release, .int .i64 c.connect, .int .i64 c.sit, .int .i64 c.layover, .int .i64 c.nf, .int .i64 c.nt, .slice P.con.ca c.consts.length P.con.cc, .slice P.con.ra c.rules.length P.con.rc, .slice P.con.ka c.costs.length P.con.kc, .slice P.con.xa c.credit.length P.con.xc, .slice P.con.la c.lims.length P.con.lc, .slice P.con.oa c.offs.length P.con.oc, .int .i64 c.guar, .map (some P.zb), .slice (P.ra 0) (rulesOf c 0).length (P.rc 0), .slice (P.ra 1) (rulesOf c 1).length (P.rc 1), .slice (P.ra 2) (rulesOf c 2).length (P.rc 2), .slice (P.ra 3) (rulesOf c 3).length (P.rc 3), .slice (P.ka 0) (costsOf c 0).length (P.kc 0), .slice (P.ka 1) (costsOf c 1).length (P.kc 1), .slice (P.ka 2) (costsOf c 2).length (P.kc 2), .slice (P.ka 3) (costsOf c 3).length (P.kc 3), .slice P.xa (creditOf c).length P.xc, .bool P.nights]
structure SetAt (w : World) (sb : Nat) (t : TTM) (c : ConM) (P : SetP) : Prop where
  box : w.heap[sb]? = some (.cells (setVals t c P) 146 (0, 0))
  okT : valTT t = 0
  okC : valT c = 0
  fls : SlAt flightRT w P.fa t.fls
  zones : ZonesAt w P.zb t
  rules : ∀ k, k < 4 → RulesRow w (P.ra k) (rulesOf c k)
  costs : ∀ k, k < 4 → FArgsAt noX w (P.ka k) (costsOf c k)
  credit : FArgsAt noX w P.xa (creditOf c)
theorem SetAt.lt {w : World} {sb : Nat} {t : TTM} {c : ConM} {P : SetP} (h : SetAt w sb t c P) : sb < w.heap.size := lt_of_block h.box
theorem SetAt.below {w w' : World} {sb : Nat} {t : TTM} {c : ConM} {P : SetP} (h : SetAt w sb t c P) (hb : Below w.heap.size w w') : SetAt w' sb t c P where
  box := (hb.block _ h.lt).trans h.box
  okT := h.okT
  okC := h.okC
  fls := h.fls.below hb
  zones := h.zones.below hb
  rules := fun k hk => (h.rules k hk).below hb
  costs := fun k hk => (h.costs k hk).below hb
  credit := h.credit.below hb
theorem valTT_len {t : TTM} (h : valTT t = 0) : t.zones.length ≤ 16 ∧ t.airs.length ≤ 64 ∧ t.fls.length ≤ 200 := by
  unfold valTT at h
  by_cases h1 : 16 < t.zones.length ∨ 64 < t.airs.length ∨ 200 < t.fls.length
  · rw [if_pos h1] at h; omega
  · omega
theorem valF_all {ar : List ByteArray} : ∀ {l : List FlightM} {p : Option FlightM}, valF ar p l = 0 → ∀ f ∈ l, valFl ar f = 0
  | [], _, _, f, hf => by simp at hf
  | g :: l, p, h, f, hf => by
    rw [valF] at h
    by_cases h1 : valFl ar g ≠ 0
    · rw [if_pos h1] at h; exact absurd h h1
    rw [if_neg h1] at h
    have h1' : valFl ar g = 0 := Classical.not_not.1 h1
    by_cases h2 : p.any (fun q => !beforeB q g) = true
    · rw [if_pos h2] at h; omega
    rw [if_neg h2] at h
    rcases List.mem_cons.1 hf with rfl | hf
    · exact h1'
    · exact valF_all h f hf
theorem valTT_fls {t : TTM} (h : valTT t = 0) : ∃ ar, valF ar none t.fls = 0 := by
  unfold valTT at h
  by_cases h1 : 16 < t.zones.length ∨ 64 < t.airs.length ∨ 200 < t.fls.length
  · rw [if_pos h1] at h; omega
  rw [if_neg h1] at h
  by_cases h2 : (valZ [] t.zones).1 ≠ 0
  · rw [if_pos h2] at h; exact absurd h h2
  rw [if_neg h2] at h
  by_cases h3 : (valA (valZ [] t.zones).2 [] t.airs).1 ≠ 0
  · rw [if_pos h3] at h; exact absurd h h3
  rw [if_neg h3] at h
  exact ⟨_, h⟩
theorem fAt_mem {l : List FlightM} {k : Nat} (h : k < l.length) : fAt l k ∈ l := by
  unfold fAt; rw [List.getD_eq_getElem?_getD, List.getElem?_eq_getElem h]; exact List.getElem_mem h
/-- the times of a valid flight -/
theorem flight_times {t : TTM} (h : valTT t = 0) {i : Nat} (hi : i < t.fls.length) : 2880 ≤ (fAt t.fls i).dep ∧ (fAt t.fls i).arr ≤ 52593120 ∧ (fAt t.fls i).dep < (fAt t.fls i).arr ∧ (fAt t.fls i).arr - (fAt t.fls i).dep ≤ 1440 := by
  obtain ⟨ar, ha⟩ := valTT_fls h
  have hf := valF_all ha _ (fAt_mem hi)
  unfold valFl at hf
  by_cases h1 : (codeB (fAt t.fls i).num.data.toList && nameB (fAt t.fls i).typ.data.toList) = false
  · rw [if_pos h1] at hf; omega
  rw [if_neg h1] at hf
  by_cases h2 : (hasB ar (fAt t.fls i).frm && hasB ar (fAt t.fls i).to) = false
  · rw [if_pos h2] at hf; omega
  rw [if_neg h2] at hf
  by_cases h3 : ((fAt t.fls i).frm.toList == (fAt t.fls i).to.toList) = true
  · rw [if_pos h3] at hf; omega
  rw [if_neg h3] at hf
  by_cases h4 : flTime (fAt t.fls i) = false
  · rw [if_pos h4] at hf; omega
  have : flTime (fAt t.fls i) = true := by simpa using h4
  simpa [flTime] using this
theorem con_range {c : ConM} (h : valT c = 0) : (0 ≤ c.report ∧ c.report ≤ 1440) ∧ (0 ≤ c.release ∧ c.release ≤ 1440) ∧ (0 ≤ c.connect ∧ c.connect ≤ 1440) ∧ (c.connect ≤ c.sit ∧ c.sit ≤ 1440) ∧ (0 ≤ c.layover ∧ c.layover ≤ 10080) ∧ (0 ≤ c.nf ∧ c.nf ≤ 1439) ∧ (0 ≤ c.nt ∧ c.nt ≤ 1439) := by
  have hg : valG c = 0 := by
    unfold valT at h
    by_cases h1 : valG c ≠ 0
    · rw [if_pos h1] at h; exact absurd h h1
    · exact Classical.not_not.1 h1
  have hr : rangeB c = true := by
    unfold valG at hg
    by_cases h1 : rangeB c = false
    · rw [if_pos h1] at hg; omega
    · simpa using h1
  simp only [rangeB, Bool.and_eq_true, btwB_iff] at hr
  obtain ⟨⟨⟨⟨⟨⟨⟨h0, h1⟩, h2⟩, h3⟩, h4⟩, h5⟩, h6⟩, h7⟩ := hr
  exact ⟨h0, h1, h2, h3, h4, h5, h6⟩
set_option maxHeartbeats 400000 in
theorem isFlight_any (w : World) (sb : Nat) (t : TTM) (c : ConM) (P : SetP) (hS : SetAt w sb t c P) (i : Int) : Calls Tryz.prog 118 #[.pointer (some ⟨sb, 0, none⟩), .int .i64 i] w fun e w' => e = .returned (.bool (decide (0 ≤ i) && decide (i < t.fls.length))) ∧ w = w' := by
  have d2 : w.cell? ⟨sb, 2, none⟩ = some (.slice P.fa t.fls.length P.fc) := cellW (j := 2) hS.box rfl
  have hs := hS.lt
  clear hS
  by_cases h : 0 ≤ i
  · go_enter Tryz.func118, Tryz.ntmps118
    go_wp2_with fail
    go_ret
    exact ⟨ret_boolE (by simp [h]), rfl⟩
  · go_enter Tryz.func118, Tryz.ntmps118
    go_wp2_with fail
    go_ret
    exact ⟨ret_boolE (by simp [h]; omega), rfl⟩
/-- where flight i lies -/
def flP (b off : Nat) (i : Nat) : Value := .pointer (some ⟨b, off + i * 9, none⟩)
set_option maxHeartbeats 400000 in
theorem flight_any (w : World) (sb : Nat) (t : TTM) (c : ConM) (P : SetP) (hS : SetAt w sb t c P) (i : Nat) (hi : i < t.fls.length) (b off : Nat) (hfa : P.fa = some ⟨b, off, none⟩) : Calls Tryz.prog 109 #[.pointer (some ⟨sb, 0, none⟩), .int .i64 i] w fun e w' => e = .returned (.pointer (some ⟨b, off + i * 9, none⟩)) ∧ w = w' := by
  have d2 : w.cell? ⟨sb, 2, none⟩ = some (.slice P.fa t.fls.length P.fc) := cellW (j := 2) hS.box rfl
  have hs := hS.lt
  have hl := (valTT_len hS.okT).2.2
  rw [hfa] at d2
  clear hS hfa
  go_enter Tryz.func109, Tryz.ntmps109
  go_wp2_with fail
  go_ret
  exact ⟨rfl, rfl⟩
theorem airZone (w : World) : (zeroValue 85).run Tryz.prog w = .ok (.agg #[.string ByteArray.empty, .int .i64 0, .slice none 0 0]) w := by kernel_rfl
def airB' (t : TTM) (s : ByteArray) : Bool := (airN t.airs s).isSome
theorem look_zone {w : World} {b : Nat} {t : TTM} (h : ZonesAt w b t) (s : ByteArray) : ∃ a cap, ((Instr.lookup 140 (.map (some b)) (.string s) true).run Tryz.prog w = .ok (.tuple #[.agg #[.string (zoneT t s).name, .int .i64 (zoneT t s).off, .slice a (zoneT t s).sh.length cap], .bool (airB' t s)]) w) ∧ ((Instr.lookup 140 (.map (some b)) (.string s) false).run Tryz.prog w = .ok (.agg #[.string (zoneT t s).name, .int .i64 (zoneT t s).off, .slice a (zoneT t s).sh.length cap]) w) ∧ ShAt w a (zoneT t s).sh ∧ (zoneT t s).name.size ≤ 140737488355328 ∧ (zoneT t s).sh.length ≤ 140737488355328 := by
  obtain ⟨M, h1, h2⟩ := h
  have e1 := run_lookup_ok Tryz.underlying140 Tryz.underlying9 h1 (key := .string s) trivial (airZone _)
  have e2 := run_lookup Tryz.underlying140 Tryz.underlying9 h1 (key := .string s) trivial (airZone _)
  cases hh : airN t.airs s with
  | none =>
    rw [(h2 s).1 hh] at e1 e2
    have hz : zoneT t s = zone0 := by simp [zoneT, hh]
    rw [hz]
    exact ⟨none, 0, by rw [e1]; simp [airB', hh, zone0], by rw [e2]; simp [zone0], .inl rfl, by simp [zone0], by simp [zone0]⟩
  | some a =>
    obtain ⟨v, h3, a', cap, rfl, h4, h5, h6⟩ := (h2 s).2 (by rw [hh]; simp)
    rw [h3] at e1 e2
    exact ⟨a', cap, by rw [e1]; simp [airB', hh], by rw [e2]; simp, h4, h5, h6⟩
set_option maxHeartbeats 400000 in
theorem isAirportS_any (w : World) (sb : Nat) (t : TTM) (c : ConM) (P : SetP) (hS : SetAt w sb t c P) (s : ByteArray) : Calls Tryz.prog 74 #[.pointer (some ⟨sb, 0, none⟩), .string s] w fun e w' => e = .returned (.bool (airB' t s)) ∧ Below w.heap.size w w' := by
  have d17 : w.cell? ⟨sb, 17, none⟩ = some (.map (some P.zb)) := cellW (j := 17) hS.box rfl
  have hs := hS.lt
  obtain ⟨a, cap, L1, _, _⟩ := look_zone hS.zones s
  clear hS
  go_enter Tryz.func74, Tryz.ntmps74
  go_wp2_with fail
  go_ret
  exact ⟨rfl, below_new _ _⟩
def ZonePost (w : World) (z : ZoneM) (e : Ending) (w' : World) : Prop := ∃ a cap, e = .returned (.agg #[.string z.name, .int .i64 z.off, .slice a z.sh.length cap]) ∧ ShAt w' a z.sh ∧ z.name.size ≤ 140737488355328 ∧ z.sh.length ≤ 140737488355328 ∧ Below w.heap.size w w'
theorem look_zone2 {w w' : World} {b : Nat} {t : TTM} (h : ZonesAt w b t) (hb : Below w.heap.size w w') (s : ByteArray) : ∃ a cap, ((Instr.lookup 140 (.map (some b)) (.string s) false).run Tryz.prog w' = .ok (.agg #[.string (zoneT t s).name, .int .i64 (zoneT t s).off, .slice a (zoneT t s).sh.length cap]) w') ∧ ShAt w a (zoneT t s).sh ∧ (zoneT t s).name.size ≤ 140737488355328 ∧ (zoneT t s).sh.length ≤ 140737488355328 := by
  obtain ⟨M, h1, h2⟩ := h
  have e2 := run_lookup Tryz.underlying140 Tryz.underlying9 (h1.below hb) (key := .string s) trivial (airZone _)
  cases hh : airN t.airs s with
  | none =>
    rw [(h2 s).1 hh] at e2
    have hz : zoneT t s = zone0 := by simp [zoneT, hh]
    rw [hz]
    exact ⟨none, 0, by rw [e2]; simp [zone0], .inl rfl, by simp [zone0], by simp [zone0]⟩
  | some a =>
    obtain ⟨v, h3, a', cap, rfl, h4, h5, h6⟩ := (h2 s).2 (by rw [hh]; simp)
    rw [h3] at e2
    exact ⟨a', cap, by rw [e2]; simp, h4, h5, h6⟩
set_option maxHeartbeats 400000 in
theorem zoneS_any (w : World) (sb : Nat) (t : TTM) (c : ConM) (P : SetP) (hS : SetAt w sb t c P) (s : ByteArray) : Calls Tryz.prog 130 #[.pointer (some ⟨sb, 0, none⟩), .string s] w (ZonePost w (zoneT t s)) := by
  obtain ⟨a, cap, L1, h1, h2, h3⟩ := look_zone2 hS.zones (below_new w (Obj.cells #[Value.string ⟨#[]⟩, Value.int .i64 0, Value.slice none 0 0] 85)) s
  have H1 := Lib.hid h1
  have d17 : w.cell? ⟨sb, 17, none⟩ = some (.map (some P.zb)) := cellW (j := 17) hS.box rfl
  have hs := hS.lt
  clear hS h1
  go_enter Tryz.func130, Tryz.ntmps130
  go_wp2_with fail
  refine bodyPost_ret (v := .agg #[.string (zoneT t s).name, .int .i64 (zoneT t s).off, .slice a (zoneT t s).sh.length cap]) (by simp [results, Tryz.results130, go_sem]) rfl ?_
  exact ⟨a, cap, rfl, H1.out.below (below_new _ _), h2, h3, below_new _ _⟩
end Go.Proofs.YtpgbckgjlgecpaaGreat
/- contracts of the setting: Connects, DutyStructure, From, To, spans -/
namespace Go.Proofs.YtpgbckgjlgecpaaGreat
open Go.RowKit Go.Sort
set_option linter.unusedVariables false
set_option linter.unusedSimpArgs false
set_option maxRecDepth 100000
def joinB (t : TTM) (c : ConM) (i j : Nat) : Bool := ((fAt t.fls i).to.toList == (fAt t.fls j).frm.toList) && decide (c.connect ≤ (fAt t.fls j).dep - (fAt t.fls i).arr) && decide ((fAt t.fls j).dep - (fAt t.fls i).arr ≤ c.sit)
def flOk (t : TTM) (n : Int) : Bool := decide (0 ≤ n) && decide (n < t.fls.length)
theorem flOk_nat {t : TTM} {n : Int} (h : flOk t n = true) : ∃ m : Nat, n = m ∧ m < t.fls.length := by
  simp only [flOk, Bool.and_eq_true, decide_eq_true_eq] at h
  obtain ⟨m, rfl⟩ := Int.eq_ofNat_of_zero_le h.1
  exact ⟨m, rfl, by omega⟩
def unkE (t : TTM) (d : Duty) (k : Nat) : Int := if flOk t (tAt d k).1 = true then 0 else 6
def chnE (t : TTM) (c : ConM) (d : Duty) (k : Nat) : Int := if joinB t c (tAt d (k - 1)).1.toNat (tAt d k).1.toNat = true then 0 else 14
/-- the structure of a duty -/
def dutyE (t : TTM) (c : ConM) (d : Duty) : Int := if d.length < 1 ∨ 6 < d.length then 5 else if fstE (unkE t d) 0 (d.length - 0) ≠ 0 then fstE (unkE t d) 0 (d.length - 0) else fstE (chnE t c d) 1 (d.length - 1)
theorem fstE_zero {f : Nat → Int} : ∀ (m k : Nat), fstE f k m = 0 → ∀ j, k ≤ j → j < k + m → f j = 0
  | 0, k, _, j, h1, h2 => by omega
  | m + 1, k, h, j, h1, h2 => by
    rw [fstE] at h
    by_cases hk : f k ≠ 0
    · rw [if_pos hk] at h; exact absurd h hk
    · rw [if_neg hk] at h
      by_cases e : j = k
      · subst e; exact Classical.not_not.1 hk
      · exact fstE_zero m (k + 1) h j (by omega) (by omega)
theorem dutyE_ok {t : TTM} {c : ConM} {d : Duty} (h : dutyE t c d = 0) : 1 ≤ d.length ∧ d.length ≤ 6 ∧ (∀ k, k < d.length → flOk t (tAt d k).1 = true) ∧ ∀ k, 1 ≤ k → k < d.length → joinB t c (tAt d (k - 1)).1.toNat (tAt d k).1.toNat = true := by
  unfold dutyE at h
  by_cases h1 : d.length < 1 ∨ 6 < d.length
  · rw [if_pos h1] at h; omega
  rw [if_neg h1] at h
  by_cases h2 : fstE (unkE t d) 0 (d.length - 0) ≠ 0
  · rw [if_pos h2] at h; exact absurd h h2
  rw [if_neg h2] at h
  have g2 := fstE_zero _ _ (Classical.not_not.1 h2)
  have g3 := fstE_zero _ _ h
  refine ⟨by omega, by omega, fun k hk => ?_, fun k h1 hk => ?_⟩
  · have := g2 k (by omega) (by omega)
    unfold unkE at this
    by_cases e : flOk t (tAt d k).1 = true
    · exact e
    · rw [if_neg e] at this; omega
  · have := g3 k h1 (by omega)
    unfold chnE at this
    by_cases e : joinB t c (tAt d (k - 1)).1.toNat (tAt d k).1.toNat = true
    · exact e
    · rw [if_neg e] at this; omega
set_option maxHeartbeats 1600000 in
theorem connects_nat (w : World) (sb : Nat) (t : TTM) (c : ConM) (P : SetP) (hS : SetAt w sb t c P) (i j : Nat) (hil : i < t.fls.length) (hjl : j < t.fls.length) : Calls Tryz.prog 119 #[.pointer (some ⟨sb, 0, none⟩), .int .i64 i, .int .i64 j] w fun e w' => e = .returned (.bool (joinB t c i j)) ∧ Below w.heap.size w w' := by
  obtain ⟨b, off, hfa, hb, hcs⟩ := flight_cells hS.fls (by omega)
  obtain ⟨⟨pi0, pi1, pi2, pi3, pi4, pi5, _, _, _⟩, _⟩ := hcs i hil
  obtain ⟨⟨pj0, pj1, pj2, pj3, pj4, pj5, _, _, _⟩, _⟩ := hcs j hjl
  obtain ⟨ti1, ti2, ti3, ti4⟩ := flight_times hS.okT hil
  obtain ⟨tj1, tj2, tj3, tj4⟩ := flight_times hS.okT hjl
  have d5 : w.cell? ⟨sb, 5, none⟩ = some (.int .i64 c.connect) := cellW (j := 5) hS.box rfl
  have d6 : w.cell? ⟨sb, 6, none⟩ = some (.int .i64 c.sit) := cellW (j := 6) hS.box rfl
  have hs := hS.lt
  have HS := Lib.hid hS
  have HFA := Lib.hid hfa
  clear hS hcs hfa pi0 pi1 pi3 pi5 pj0 pj2 pj4 pj5
  have hgap1 : -52593120 ≤ (fAt t.fls j).dep - (fAt t.fls i).arr := by omega
  have hgap2 : (fAt t.fls j).dep - (fAt t.fls i).arr ≤ 52593120 := by omega
  cases e0 : ((fAt t.fls i).to.toList == (fAt t.fls j).frm.toList)
  · have hz := Lib.hid (show joinB t c i j = false by simp [joinB, e0])
    go_enter Tryz.func119, Tryz.ntmps119
    go_wp2_with fail
    refine (flight_any w sb t c P HS.out i hil b off HFA.out).mono ?_
    rintro e w1 ⟨rfl, rfl⟩
    go_wp2_with fail
    refine (flight_any w sb t c P HS.out j hjl b off HFA.out).mono ?_
    rintro e w1 ⟨rfl, rfl⟩
    go_wp2_with fail
    go_quiet (fail)
    have B1 := below_drewN (Below.refl w.heap.size w) nq
    have q2 := below_cell pi2 hb B1
    have q1 := below_cell pj1 hb B1
    have g5 := below_cell d5 hs B1
    have g6 := below_cell d6 hs B1
    have hb1 := Nat.lt_of_lt_of_le hb B1.size
    have hs1 := Nat.lt_of_lt_of_le hs B1.size
    have HB1 := Lib.hid B1
    clear B1
    generalize w.drewN nq = W1 at *
    go_wp2_with fail
    go_quiet (fail)
    go_wp2_with fail
    go_ret
    exact ⟨ret_boolE hz.out.symm, Below.then HB1.out (below_drewN (Below.refl _ _) _)⟩
  by_cases e1 : c.connect ≤ (fAt t.fls j).dep - (fAt t.fls i).arr
  · have hz := Lib.hid (show joinB t c i j = decide ((fAt t.fls j).dep - (fAt t.fls i).arr ≤ c.sit) by simp [joinB, e0, e1])
    have e1b : decide (c.connect ≤ (fAt t.fls j).dep - (fAt t.fls i).arr) = true := by simpa using e1
    go_enter Tryz.func119, Tryz.ntmps119
    go_wp2_with fail
    refine (flight_any w sb t c P HS.out i hil b off HFA.out).mono ?_
    rintro e w1 ⟨rfl, rfl⟩
    go_wp2_with fail
    refine (flight_any w sb t c P HS.out j hjl b off HFA.out).mono ?_
    rintro e w1 ⟨rfl, rfl⟩
    go_wp2_with fail
    go_quiet (fail)
    have B1 := below_drewN (Below.refl w.heap.size w) nq
    have q2 := below_cell pi2 hb B1
    have q1 := below_cell pj1 hb B1
    have g5 := below_cell d5 hs B1
    have g6 := below_cell d6 hs B1
    have hb1 := Nat.lt_of_lt_of_le hb B1.size
    have hs1 := Nat.lt_of_lt_of_le hs B1.size
    have HB1 := Lib.hid B1
    clear B1
    generalize w.drewN nq = W1 at *
    go_wp2_with fail
    go_quiet (fail)
    go_wp2_with fail
    go_ret
    exact ⟨ret_boolE hz.out.symm, Below.then HB1.out (below_drewN (Below.refl _ _) _)⟩
  · have hz := Lib.hid (show joinB t c i j = false by simp [joinB, e1])
    have e1b : decide (c.connect ≤ (fAt t.fls j).dep - (fAt t.fls i).arr) = false := by simpa using e1
    go_enter Tryz.func119, Tryz.ntmps119
    go_wp2_with fail
    refine (flight_any w sb t c P HS.out i hil b off HFA.out).mono ?_
    rintro e w1 ⟨rfl, rfl⟩
    go_wp2_with fail
    refine (flight_any w sb t c P HS.out j hjl b off HFA.out).mono ?_
    rintro e w1 ⟨rfl, rfl⟩
    go_wp2_with fail
    go_quiet (fail)
    have B1 := below_drewN (Below.refl w.heap.size w) nq
    have q2 := below_cell pi2 hb B1
    have q1 := below_cell pj1 hb B1
    have g5 := below_cell d5 hs B1
    have g6 := below_cell d6 hs B1
    have hb1 := Nat.lt_of_lt_of_le hb B1.size
    have hs1 := Nat.lt_of_lt_of_le hs B1.size
    have HB1 := Lib.hid B1
    clear B1
    generalize w.drewN nq = W1 at *
    go_wp2_with fail
    go_quiet (fail)
    go_wp2_with fail
    go_ret
    exact ⟨ret_boolE hz.out.symm, Below.then HB1.out (below_drewN (Below.refl _ _) _)⟩
theorem connects_any (w : World) (sb : Nat) (t : TTM) (c : ConM) (P : SetP) (hS : SetAt w sb t c P) (i j : Int) (hi : flOk t i = true) (hj : flOk t j = true) : Calls Tryz.prog 119 #[.pointer (some ⟨sb, 0, none⟩), .int .i64 i, .int .i64 j] w fun e w' => e = .returned (.bool (joinB t c i.toNat j.toNat)) ∧ Below w.heap.size w w' := by
  obtain ⟨m, rfl, hm⟩ := flOk_nat hi
  obtain ⟨n, rfl, hn⟩ := flOk_nat hj
  exact connects_nat w sb t c P hS m n hm hn
set_option maxHeartbeats 3200000 in
theorem dutyStructure_any (w : World) (sb : Nat) (t : TTM) (c : ConM) (P : SetP) (hS : SetAt w sb t c P) (d : Duty) (a : Option Addr) (cap : Nat) (hl : d.length ≤ 140737488355328) (ha : SlAt taskRT w a d) : Calls Tryz.prog 64 #[.pointer (some ⟨sb, 0, none⟩), .slice a d.length cap] w fun e w' => e = .returned (.int .i64 (dutyE t c d)) ∧ Below w.heap.size w w' := by
  have HS := Lib.hid hS
  have HA := Lib.hid ha
  clear hS ha
  by_cases g1 : (d.length : Int) < 1
  · have hz := Lib.hid (show dutyE t c d = 5 from if_pos (.inl (by omega)))
    go_enter Tryz.func64, Tryz.ntmps64
    go_wp2_with fail
    go_ret
    exact ⟨ret_int hz.out.symm, Below.refl _ _⟩
  by_cases g2 : (6 : Int) < (d.length : Int)
  · have hz := Lib.hid (show dutyE t c d = 5 from if_pos (.inr (by omega)))
    go_enter Tryz.func64, Tryz.ntmps64
    go_wp2_with fail
    go_ret
    exact ⟨ret_int hz.out.symm, Below.refl _ _⟩
  have Hv := Lib.hid (show dutyE t c d = if fstE (unkE t d) 0 (d.length - 0) ≠ 0 then fstE (unkE t d) 0 (d.length - 0) else fstE (chnE t c d) 1 (d.length - 1) from if_neg (by omega))
  obtain ⟨b, off, rfl, hb, hcs⟩ := task_cells HA.out (by omega)
  have HCS := Lib.hid hcs
  clear hcs
  go_enter Tryz.func64, Tryz.ntmps64
  go_wp2_with fail
  go_loopw [18] (fun i wr => ∃ (k : Nat), k ≤ d.length ∧ i = .int .i64 k ∧ Hid (fstE (unkE t d) 0 (d.length - 0) = fstE (unkE t d) k (d.length - k)) ∧ Hid (∀ j, j < k → flOk t (tAt d j).1 = true) ∧ Hid (Below w.heap.size w wr)) (fun i _ => d.length - (intOf i).toNat)
  case atStart => exact ⟨0, Nat.zero_le _, rfl, Lib.hid rfl, Lib.hid (fun j hj => by omega), Lib.hid (Below.refl _ _)⟩
  case round =>
    obtain ⟨k, hk, rfl, hval, hall, hbel⟩ := hrel
    by_cases hlt : k < d.length
    · obtain ⟨c0, c1⟩ := (HCS.out.below hb hbel.out) k hlt
      have hbr := Nat.lt_of_lt_of_le hb hbel.out.size
      have HB1 := Lib.hid (Below.then hbel.out (below_new wr (Obj.cells #[Value.int .i64 (tAt d k).1, Value.bool (tAt d k).2] 46)))
      have HS1 := Lib.hid (HS.out.below HB1.out)
      go_wp2_with fail
      refine (isFlight_any _ sb t c P HS1.out (tAt d k).1).mono ?_
      rintro e w1 ⟨rfl, rfl⟩
      have efl : (decide (0 ≤ (tAt d k).1) && decide ((tAt d k).1 < t.fls.length)) = flOk t (tAt d k).1 := rfl
      rw [efl]
      clear efl
      cases e0 : flOk t (tAt d k).1
      · have hun : unkE t d k = 6 := by simp [unkE, e0]
        have hst := Lib.hid (hval.out.trans (fstE_bad hlt (by rw [hun]; decide)))
        have hr := Lib.hid (show dutyE t c d = 6 from Hv.out.trans (by rw [hst.out, hun]; rfl))
        clear hun
        go_wp2_with fail
        go_ret
        exact ⟨ret_int hr.out.symm, HB1.out⟩
      · have hst := Lib.hid (hval.out.trans (fstE_go hlt (by simp [unkE, e0])))
        have hall2 := Lib.hid (show ∀ j, j < k + 1 → flOk t (tAt d j).1 = true from fun j hj => by
          by_cases ej : j = k
          · subst ej; exact e0
          · exact hall.out j (by omega))
        go_wp2_with fail
        go_roundw
        case rel => exact ⟨k + 1, by omega, by go_num, hst, hall2, HB1⟩
        case measure => simp [intOf]; omega
    · obtain rfl : k = d.length := by omega
      have hst := Lib.hid (hval.out.trans (fstE_end _ _))
      have Hv2 := Lib.hid (show dutyE t c d = fstE (chnE t c d) 1 (d.length - 1) from Hv.out.trans (by rw [hst.out]; rfl))
      clear hval hst hk hlt Hv
      go_wp2_with fail
      obtain ⟨w0, rfl⟩ : ∃ w0 : World, w0 = wr := ⟨_, rfl⟩
      go_loopw [7] (fun i wr => ∃ (k : Nat), 1 ≤ k ∧ k ≤ d.length ∧ i = .int .i64 k ∧ Hid (fstE (chnE t c d) 1 (d.length - 1) = fstE (chnE t c d) k (d.length - k)) ∧ Hid (Below w.heap.size w wr)) (fun i _ => d.length - (intOf i).toNat)
      case atStart => exact ⟨1, by omega, by omega, rfl, Lib.hid rfl, hbel⟩
      clear hbel w0
      case round =>
        obtain ⟨k, hk1, hk, rfl, hval, hbel⟩ := hrel
        by_cases hlt : k < d.length
        · obtain ⟨m, rfl⟩ : ∃ m, k = m + 1 := ⟨k - 1, by omega⟩
          have c0 := ((HCS.out.below hb hbel.out) m (by omega)).1
          have c1 := ((HCS.out.below hb hbel.out) (m + 1) hlt).1
          have hbr := Nat.lt_of_lt_of_le hb hbel.out.size
          have F1 := hall.out m (by omega)
          have F2 := hall.out (m + 1) hlt
          have HS1 := Lib.hid (HS.out.below hbel.out)
          have C1 := Lib.hid (fun dd os => Calls.regrown_of (connects_any (grow (redrawn wr dd) os) sb t c P (HS1.out.below (below_regrown wr dd os)) (tAt d m).1 (tAt d (m + 1)).1 F1 F2))
          have em : IntKind.i64.wrap (((m + 1 : Nat) : Int) - 1) = (m : Int) := by rw [IntKind.wrap_i64]; omega
          have ec : ((m + 1 : Nat) : Int) = (m : Int) + 1 := by omega
          clear F1 F2
          go_wp2_with fail
          have r0 := fun dd os => cell_regrown c0 dd os
          have r1 := fun dd os => cell_regrown c1 dd os
          refine wp_region_quiet_below (by kernel_rfl) (by kernel_rfl) ?_
          repeat (first | go_big_quiet_step (first | (with_reducible exact C1.out _ _)) | quiet_step (first | (with_reducible exact C1.out _ _)))
          refine wpQuiet_nil ?_
          intro _ hw'
          obtain ⟨⟨dq, osq⟩, hw''⟩ := hw'
          subst hw''
          have HB2 := Lib.hid (Below.then hbel.out (below_regrown wr dq osq))
          have hce : joinB t c (tAt d m).1.toNat (tAt d (m + 1)).1.toNat = joinB t c (tAt d (m + 1 - 1)).1.toNat (tAt d (m + 1)).1.toNat := rfl
          clear r0 r1 C1 c0 c1 em ec
          generalize grow (redrawn wr dq) osq = W2 at *
          cases e0 : joinB t c (tAt d m).1.toNat (tAt d (m + 1)).1.toNat
          · have hch : chnE t c d (m + 1) = 14 := by rw [e0] at hce; simp [chnE, ← hce, e0]
            have hst := Lib.hid (hval.out.trans (fstE_bad hlt (by rw [hch]; decide)))
            have hr := Lib.hid (show dutyE t c d = 14 from Hv2.out.trans (by rw [hst.out, hch]))
            clear hch hce
            go_wp2_with fail
            go_ret
            exact ⟨ret_int hr.out.symm, HB2.out⟩
          · have hst := Lib.hid (hval.out.trans (fstE_go hlt (by rw [e0] at hce; simp [chnE, ← hce, e0])))
            clear hce
            go_wp2_with fail
            go_roundw
            case rel => exact ⟨m + 1 + 1, by omega, by omega, by go_num, hst, HB2⟩
            case measure => simp [intOf]; omega
        · obtain rfl : k = d.length := by omega
          have hr := Lib.hid (show dutyE t c d = 0 from Hv2.out.trans (hval.out.trans (fstE_end _ _)))
          go_wp2_with fail
          go_ret
          exact ⟨ret_int hr.out.symm, hbel.out⟩
end Go.Proofs.YtpgbckgjlgecpaaGreat
/- contracts of the setting: From, To, spanOf, DutySpan -/
namespace Go.Proofs.YtpgbckgjlgecpaaGreat
open Go.RowKit Go.Sort
set_option linter.unusedVariables false
set_option linter.unusedSimpArgs false
set_option maxRecDepth 100000
/-- the flights at the ends of a duty -/
def fstN (d : Duty) : Nat := (tAt d 0).1.toNat
def lstN (d : Duty) : Nat := (tAt d (d.length - 1)).1.toNat
theorem cell_set2 (w : World) {ab b : Nat} (h : b ≠ ab) (o i1 i2 : Nat) (u1 u2 : Value) : ((w.setCell ⟨ab, i1, none⟩ u1).setCell ⟨ab, i2, none⟩ u2).drew.cell? ⟨b, o, none⟩ = w.cell? ⟨b, o, none⟩ := by
  have e : ((w.setCell ⟨ab, i1, none⟩ u1).setCell ⟨ab, i2, none⟩ u2).drew.heap[b]? = w.heap[b]? := by
    show ((w.setCell ⟨ab, i1, none⟩ u1).setCell ⟨ab, i2, none⟩ u2).heap[b]? = w.heap[b]?
    rw [Below.heap_setCell _ _ _ _ h, Below.heap_setCell _ _ _ _ h]
  simp only [World.cell?, e]
theorem cell_set2' (w : World) {ab b : Nat} (h : b ≠ ab) (o i1 i2 : Nat) (u1 u2 : Value) : ((w.setCell ⟨ab, i1, none⟩ u1).setCell ⟨ab, i2, none⟩ u2).cell? ⟨b, o, none⟩ = w.cell? ⟨b, o, none⟩ := cell_set2 w h o i1 i2 u1 u2
theorem fst_ok {t : TTM} {c : ConM} {d : Duty} (h : dutyE t c d = 0) : ((tAt d 0).1 = (fstN d : Int)) ∧ fstN d < t.fls.length ∧ ((tAt d (d.length - 1)).1 = (lstN d : Int)) ∧ lstN d < t.fls.length := by
  obtain ⟨h1, h2, h3, _⟩ := dutyE_ok h
  obtain ⟨m, hm, hml⟩ := flOk_nat (h3 0 (by omega))
  obtain ⟨n, hn, hnl⟩ := flOk_nat (h3 (d.length - 1) (by omega))
  unfold fstN lstN
  rw [hm, hn]
  exact ⟨rfl, hml, rfl, hnl⟩
set_option maxHeartbeats 800000 in
theorem from_any (w : World) (sb : Nat) (t : TTM) (c : ConM) (P : SetP) (hS : SetAt w sb t c P) (d : Duty) (a : Option Addr) (cap : Nat) (hd : dutyE t c d = 0) (ha : SlAt taskRT w a d) : Calls Tryz.prog 97 #[.pointer (some ⟨sb, 0, none⟩), .slice a d.length cap] w fun e w' => e = .returned (.string (fAt t.fls (fstN d)).frm) ∧ w = w' := by
  obtain ⟨h1, h2, h3, _⟩ := dutyE_ok hd
  obtain ⟨hm, hml, _, _⟩ := fst_ok hd
  obtain ⟨b, off, rfl, hb, hcs⟩ := task_cells ha (by omega)
  have c0 := (hcs 0 (by omega)).1
  rw [hm, Nat.zero_mul, Nat.add_zero] at c0
  obtain ⟨fb, foff, hfa, hfb, hfc⟩ := flight_cells hS.fls (by omega)
  obtain ⟨⟨p0, p1, p2, p3, p4, p5, _, _, _⟩, _⟩ := hfc (fstN d) hml
  have HS := Lib.hid hS
  have HFA := Lib.hid hfa
  clear hS ha hcs hd hm hfa hfc h3
  go_enter Tryz.func97, Tryz.ntmps97
  go_wp2_with fail
  refine (flight_any w sb t c P HS.out (fstN d) hml fb foff HFA.out).mono ?_
  rintro e w1 ⟨rfl, rfl⟩
  go_wp2_with fail
  go_ret
  exact ⟨rfl, rfl⟩
set_option maxHeartbeats 800000 in
theorem to_any (w : World) (sb : Nat) (t : TTM) (c : ConM) (P : SetP) (hS : SetAt w sb t c P) (d : Duty) (a : Option Addr) (cap : Nat) (hd : dutyE t c d = 0) (ha : SlAt taskRT w a d) : Calls Tryz.prog 98 #[.pointer (some ⟨sb, 0, none⟩), .slice a d.length cap] w fun e w' => e = .returned (.string (fAt t.fls (lstN d)).to) ∧ w = w' := by
  obtain ⟨h1, h2, h3, _⟩ := dutyE_ok hd
  obtain ⟨_, _, hm, hml⟩ := fst_ok hd
  obtain ⟨b, off, rfl, hb, hcs⟩ := task_cells ha (by omega)
  have c0 := (hcs (d.length - 1) (by omega)).1
  rw [hm] at c0
  obtain ⟨fb, foff, hfa, hfb, hfc⟩ := flight_cells hS.fls (by omega)
  obtain ⟨⟨p0, p1, p2, p3, p4, p5, _, _, _⟩, _⟩ := hfc (lstN d) hml
  obtain ⟨n, hn⟩ : ∃ n, d.length = n + 1 := ⟨d.length - 1, by omega⟩
  have hn6 : n ≤ 5 := by omega
  rw [hn] at c0 ⊢
  rw [Nat.add_sub_cancel] at c0
  have e1 : ((n + 1 : Nat) : Int) - 1 = (n : Int) := by omega
  have e2 : ((n + 1 : Nat) : Int) = (n : Int) + 1 := by omega
  have HS := Lib.hid hS
  have HFA := Lib.hid hfa
  clear hS ha hcs hd hm hfa hfc h3 hn
  go_enter Tryz.func98, Tryz.ntmps98
  go_wp2_with fail
  refine (flight_any w sb t c P HS.out (lstN d) hml fb foff HFA.out).mono ?_
  rintro e w1 ⟨rfl, rfl⟩
  go_wp2_with fail
  go_ret
  exact ⟨rfl, rfl⟩
set_option maxHeartbeats 3200000 in
theorem spanOf_any (w : World) (sb : Nat) (t : TTM) (c : ConM) (P : SetP) (hS : SetAt w sb t c P) (i j : Nat) (hil : i < t.fls.length) (hjl : j < t.fls.length) : Calls Tryz.prog 105 #[.pointer (some ⟨sb, 0, none⟩), .int .i64 i, .int .i64 j] w fun e w' => e = .returned (.agg #[.int .i64 ((fAt t.fls i).dep - c.report), .int .i64 ((fAt t.fls j).arr + c.release)]) ∧ Below w.heap.size w w' := by
  obtain ⟨b, off, hfa, hb, hcs⟩ := flight_cells hS.fls (by omega)
  obtain ⟨⟨_, _, _, pi3, _, _, _, _, _⟩, _⟩ := hcs i hil
  obtain ⟨⟨_, _, _, _, pj4, _, _, _, _⟩, _⟩ := hcs j hjl
  obtain ⟨ti1, ti2, ti3, ti4⟩ := flight_times hS.okT hil
  obtain ⟨tj1, tj2, tj3, tj4⟩ := flight_times hS.okT hjl
  obtain ⟨⟨k1, k2⟩, ⟨k3, k4⟩, _⟩ := con_range hS.okC
  have d3 : w.cell? ⟨sb, 3, none⟩ = some (.int .i64 c.report) := cellW (j := 3) hS.box rfl
  have d4 : w.cell? ⟨sb, 4, none⟩ = some (.int .i64 c.release) := cellW (j := 4) hS.box rfl
  have hs := hS.lt
  have HB := Lib.hid (below_new w (Obj.cells #[Value.int .i64 0, Value.int .i64 0] 50))
  have HS := Lib.hid (hS.below HB.out)
  have HFA := Lib.hid hfa
  clear hS hcs hfa
  go_enter Tryz.func105, Tryz.ntmps105
  go_wp2_with fail
  have hws : w.heap.size < (w.alloc (Obj.cells #[Value.int .i64 0, Value.int .i64 0] 50)).heap.size := by simp
  have x3 := below_cell pi3 hb HB.out
  have x4 := below_cell pj4 hb HB.out
  have y3 := below_cell d3 hs HB.out
  have y4 := below_cell d4 hs HB.out
  have hbw := Nat.lt_of_lt_of_le hb HB.out.size
  have hsw := Nat.lt_of_lt_of_le hs HB.out.size
  have q0 := heap_new w (Obj.cells #[Value.int .i64 0, Value.int .i64 0] 50)
  have z0 : (w.alloc (Obj.cells #[Value.int .i64 0, Value.int .i64 0] 50)).cell? ⟨w.heap.size, 0, none⟩ = some (.int .i64 0) := cellW q0 rfl
  have z1 : (w.alloc (Obj.cells #[Value.int .i64 0, Value.int .i64 0] 50)).cell? ⟨w.heap.size, 1, none⟩ = some (.int .i64 0) := cellW q0 rfl
  have f0 : (w.alloc (Obj.cells #[Value.int .i64 0, Value.int .i64 0] 50)).frozen? ⟨w.heap.size, 0, none⟩ = false := freeW q0
  have f1 : (w.alloc (Obj.cells #[Value.int .i64 0, Value.int .i64 0] 50)).frozen? ⟨w.heap.size, 1, none⟩ = false := freeW q0
  have HQ := Lib.hid q0
  have hbn : b ≠ w.heap.size := by omega
  have hsn : sb ≠ w.heap.size := by omega
  have ew1 : IntKind.i64.wrap ((fAt t.fls i).dep - c.report) = (fAt t.fls i).dep - c.report := by rw [IntKind.wrap_i64]; omega
  have ew2 : IntKind.i64.wrap ((fAt t.fls j).arr + c.release) = (fAt t.fls j).arr + c.release := by rw [IntKind.wrap_i64]; omega
  clear q0 pi3 pj4 d3 d4 hb hs
  generalize w.alloc (Obj.cells #[Value.int .i64 0, Value.int .i64 0] 50) = W at *
  have F1 := Lib.hid (fun (W' : World) (h : W' = W ∨ W' = W.drew) => show Calls Tryz.prog 109 #[.pointer (some ⟨sb, 0, none⟩), .int .i64 i] W' (fun e w' => e = .returned (.pointer (some ⟨b, off + i * 9, none⟩)) ∧ W' = w') from flight_any W' sb t c P (by rcases h with rfl | rfl; exact HS.out; exact HS.out.below ((Below.refl _ _).drew)) i hil b off HFA.out)
  have F2 := Lib.hid (fun (W' : World) (h : W' = W ∨ W' = W.drew) => show Calls Tryz.prog 109 #[.pointer (some ⟨sb, 0, none⟩), .int .i64 j] W' (fun e w' => e = .returned (.pointer (some ⟨b, off + j * 9, none⟩)) ∧ W' = w') from flight_any W' sb t c P (by rcases h with rfl | rfl; exact HS.out; exact HS.out.below ((Below.refl _ _).drew)) j hjl b off HFA.out)
  go_region_held3 (fun w' => w'.cell? ⟨b, off + i * 9 + 3, none⟩ = some (.int .i64 (fAt t.fls i).dep) ∧ w'.cell? ⟨b, off + j * 9 + 4, none⟩ = some (.int .i64 (fAt t.fls j).arr) ∧ w'.cell? ⟨sb, 3, none⟩ = some (.int .i64 c.report) ∧ w'.cell? ⟨sb, 4, none⟩ = some (.int .i64 c.release)) (first | exact ⟨x3, x4, y3, y4⟩ | exact ⟨(cell_set2 _ hbn _ _ _ _ _).trans x3, (cell_set2 _ hbn _ _ _ _ _).trans x4, (cell_set2 _ hsn _ _ _ _ _).trans y3, (cell_set2 _ hsn _ _ _ _ _).trans y4⟩)
    (first | (go_at_call 109; with_reducible (refine (F1.out _ ?_).mono ?_); (first | exact .inl rfl | exact .inr rfl); rintro e w1 ⟨rfl, rfl⟩) | (go_at_call 109; with_reducible (refine (F2.out _ ?_).mono ?_); (first | exact .inl rfl | exact .inr rfl); rintro e w1 ⟨rfl, rfl⟩))
  have Q := block_setCell (i := 1) (u := .int .i64 ((fAt t.fls j).arr + c.release)) (block_setCell (i := 0) (u := .int .i64 ((fAt t.fls i).dep - c.report)) HQ.out)
  have r0 : ((W.setCell ⟨w.heap.size, 0, none⟩ (.int .i64 ((fAt t.fls i).dep - c.report))).setCell ⟨w.heap.size, 1, none⟩ (.int .i64 ((fAt t.fls j).arr + c.release))).drew.cell? ⟨w.heap.size, 0, none⟩ = some (.int .i64 ((fAt t.fls i).dep - c.report)) := cellW Q rfl
  have r1 : ((W.setCell ⟨w.heap.size, 0, none⟩ (.int .i64 ((fAt t.fls i).dep - c.report))).setCell ⟨w.heap.size, 1, none⟩ (.int .i64 ((fAt t.fls j).arr + c.release))).drew.cell? ⟨w.heap.size, 1, none⟩ = some (.int .i64 ((fAt t.fls j).arr + c.release)) := cellW Q rfl
  have HBf := Lib.hid (show Below w.heap.size w ((W.setCell ⟨w.heap.size, 0, none⟩ (.int .i64 ((fAt t.fls i).dep - c.report))).setCell ⟨w.heap.size, 1, none⟩ (.int .i64 ((fAt t.fls j).arr + c.release))).drew from ((HB.out.setCell (by simp) _).setCell (by simp) _).drew)
  clear Q F1 F2 HS HB ew1 ew2 z0 z1 f0 f1 x3 x4 y3 y4
  generalize ((W.setCell ⟨w.heap.size, 0, none⟩ (.int .i64 ((fAt t.fls i).dep - c.report))).setCell ⟨w.heap.size, 1, none⟩ (.int .i64 ((fAt t.fls j).arr + c.release))).drew = Wf at *
  go_wp2_with fail
  refine bodyPost_ret (v := .agg #[.int .i64 ((fAt t.fls i).dep - c.report), .int .i64 ((fAt t.fls j).arr + c.release)]) (by simp [results, Tryz.results105, go_sem, r0, r1]) rfl ?_
  exact ⟨rfl, HBf.out⟩
/-- the span of a duty -/
def spanD (t : TTM) (c : ConM) (d : Duty) : Int × Int := ((fAt t.fls (fstN d)).dep - c.report, (fAt t.fls (lstN d)).arr + c.release)
set_option maxHeartbeats 3200000 in
theorem dutySpan_any (w : World) (sb : Nat) (t : TTM) (c : ConM) (P : SetP) (hS : SetAt w sb t c P) (d : Duty) (a : Option Addr) (cap : Nat) (hd : dutyE t c d = 0) (ha : SlAt taskRT w a d) : Calls Tryz.prog 57 #[.pointer (some ⟨sb, 0, none⟩), .slice a d.length cap] w fun e w' => e = .returned (.agg #[.int .i64 (spanD t c d).1, .int .i64 (spanD t c d).2]) ∧ Below w.heap.size w w' := by
  obtain ⟨h1, h2, h3, _⟩ := dutyE_ok hd
  obtain ⟨hm, hml, hm', hml'⟩ := fst_ok hd
  obtain ⟨b, off, rfl, hb, hcs⟩ := task_cells ha (by omega)
  have c0 := (hcs 0 (by omega)).1
  have c1 := (hcs (d.length - 1) (by omega)).1
  rw [hm, Nat.zero_mul, Nat.add_zero] at c0
  rw [hm'] at c1
  obtain ⟨n, hn⟩ : ∃ n, d.length = n + 1 := ⟨d.length - 1, by omega⟩
  have hn6 : n ≤ 5 := by omega
  rw [hn] at c1 ⊢
  rw [Nat.add_sub_cancel] at c1
  have hs := hS.lt
  have HB := Lib.hid (below_new w (Obj.cells #[Value.int .i64 0, Value.int .i64 0] 50))
  have HS := Lib.hid (hS.below HB.out)
  have hsp : ∀ r, spanD t c d = r → True := fun _ _ => trivial
  clear hS ha hcs hd hm hm' h3 hn h1 h2 hsp
  go_enter Tryz.func57, Tryz.ntmps57
  go_wp2_with fail
  have x0 := below_cell c0 hb HB.out
  have x1 := below_cell c1 hb HB.out
  have hbn : b ≠ w.heap.size := by omega
  have q0 := heap_new w (Obj.cells #[Value.int .i64 0, Value.int .i64 0] 50)
  have HQ := Lib.hid q0
  have hws : w.heap.size < (w.alloc (Obj.cells #[Value.int .i64 0, Value.int .i64 0] 50)).heap.size := by simp
  have hbw := Nat.lt_of_lt_of_le hb HB.out.size
  have e1 : ((n + 1 : Nat) : Int) - 1 = (n : Int) := by omega
  have e2 : ((n + 1 : Nat) : Int) = (n : Int) + 1 := by omega
  have e3 : IntKind.i64.wrap ((n : Int) + 1 - 1) = (n : Int) := by rw [IntKind.wrap_i64]; omega
  have e4 : ((n : Int) + 1 - 1) = (n : Int) := by omega
  have e5 : IntKind.i64.wrap (n : Int) = (n : Int) := by rw [IntKind.wrap_i64]; omega
  have e6 : IntKind.i64.wrap (((n + 1 : Nat) : Int) - 1) = (n : Int) := by rw [IntKind.wrap_i64]; omega
  have i0 : (0 : Int) ≤ (n : Int) := by omega
  have i1 : (n : Int) < (n : Int) + 1 := by omega
  have i2 : n < n + 1 := by omega
  clear q0 c0 c1 hs
  generalize w.alloc (Obj.cells #[Value.int .i64 0, Value.int .i64 0] 50) = W at *
  have SP := Lib.hid (spanOf_any W.drew sb t c P (HS.out.below ((Below.refl _ _).drew)) (fstN d) (lstN d) hml hml')
  have x0d : W.drew.cell? ⟨b, off, none⟩ = some (.int .i64 (fstN d)) := x0
  have x1d : W.drew.cell? ⟨b, off + n * 2, none⟩ = some (.int .i64 (lstN d)) := x1
  have hwsd : w.heap.size < W.drew.heap.size := hws
  have hbwd : b < W.drew.heap.size := hbw
  have HQd := Lib.hid (show W.drew.heap[w.heap.size]? = some (Obj.cells #[Value.int .i64 0, Value.int .i64 0] 50) from HQ.out)
  go_region_held3 (fun w' => w'.cell? ⟨b, off, none⟩ = some (.int .i64 (fstN d)) ∧ w'.cell? ⟨b, off + n * 2, none⟩ = some (.int .i64 (lstN d))) (first | exact ⟨x0, x1⟩ | exact ⟨k0, k1⟩ | exact ⟨(cell_set2' _ hbn _ _ _ _ _).trans k0, (cell_set2' _ hbn _ _ _ _ _).trans k1⟩)
    (first | (go_at_call 105; refine (SP.out).mono ?_; rintro e w2 ⟨rfl, hb2⟩; have k0 := (hb2.cell (p := ⟨b, off, none⟩) hbwd).trans x0d; have k1 := (hb2.cell (p := ⟨b, off + n * 2, none⟩) hbwd).trans x1d; have q4 := (hb2.block _ hwsd).trans HQd.out; have y0 := cellW (j := 0) (v := .int .i64 0) q4 rfl; have y1 := cellW (j := 1) (v := .int .i64 0) q4 rfl; have u0 := freeW (j := 0) q4; have u1 := freeW (j := 1) q4))
  have Q := block_setCell (i := 1) (u := .int .i64 ((fAt t.fls (lstN d)).arr + c.release)) (block_setCell (i := 0) (u := .int .i64 ((fAt t.fls (fstN d)).dep - c.report)) q4)
  have r0 : ((w2.setCell ⟨w.heap.size, 0, none⟩ (.int .i64 ((fAt t.fls (fstN d)).dep - c.report))).setCell ⟨w.heap.size, 1, none⟩ (.int .i64 ((fAt t.fls (lstN d)).arr + c.release))).cell? ⟨w.heap.size, 0, none⟩ = some (.int .i64 ((fAt t.fls (fstN d)).dep - c.report)) := cellW Q rfl
  have r1 : ((w2.setCell ⟨w.heap.size, 0, none⟩ (.int .i64 ((fAt t.fls (fstN d)).dep - c.report))).setCell ⟨w.heap.size, 1, none⟩ (.int .i64 ((fAt t.fls (lstN d)).arr + c.release))).cell? ⟨w.heap.size, 1, none⟩ = some (.int .i64 ((fAt t.fls (lstN d)).arr + c.release)) := cellW Q rfl
  have HBf := Lib.hid (show Below w.heap.size w ((w2.setCell ⟨w.heap.size, 0, none⟩ (.int .i64 ((fAt t.fls (fstN d)).dep - c.report))).setCell ⟨w.heap.size, 1, none⟩ (.int .i64 ((fAt t.fls (lstN d)).arr + c.release))) from ((Below.then (HB.out.drew) hb2).setCell (by simp) _).setCell (by simp) _)
  clear Q SP HS HB k0 k1 q4 y0 y1 u0 u1 hb2 x0 x1 e1 e2 e3 e4
  generalize ((w2.setCell ⟨w.heap.size, 0, none⟩ (.int .i64 ((fAt t.fls (fstN d)).dep - c.report))).setCell ⟨w.heap.size, 1, none⟩ (.int .i64 ((fAt t.fls (lstN d)).arr + c.release))) = Wf at *
  go_wp2_with fail
  refine bodyPost_ret (v := .agg #[.int .i64 ((fAt t.fls (fstN d)).dep - c.report), .int .i64 ((fAt t.fls (lstN d)).arr + c.release)]) (by simp [results, Tryz.results57, go_sem, r0, r1]) rfl ?_
  exact ⟨rfl, HBf.out⟩
end Go.Proofs.YtpgbckgjlgecpaaGreat
/- contracts of the setting: Follows, RestStructure, Operates -/
namespace Go.Proofs.YtpgbckgjlgecpaaGreat
open Go.RowKit Go.Sort
set_option linter.unusedVariables false
set_option linter.unusedSimpArgs false
set_option maxRecDepth 100000
/-- can the duty y follow x? -/
def follB (t : TTM) (c : ConM) (x y : Duty) : Bool := ((fAt t.fls (lstN x)).to.toList == (fAt t.fls (fstN y)).frm.toList) && decide (0 ≤ (spanD t c y).1 - (spanD t c x).2) && decide ((spanD t c y).1 - (spanD t c x).2 ≤ c.layover)
theorem span_bd {t : TTM} {c : ConM} {d : Duty} (hT : valTT t = 0) (hC : valT c = 0) (hd : dutyE t c d = 0) : 1440 ≤ (spanD t c d).1 ∧ (spanD t c d).1 ≤ 52593120 ∧ 2880 ≤ (spanD t c d).2 ∧ (spanD t c d).2 ≤ 52594560 := by
  obtain ⟨_, h1, _, h2⟩ := fst_ok hd
  have a := flight_times hT h1
  have b := flight_times hT h2
  have r := con_range hC
  simp only [spanD]
  omega
set_option maxHeartbeats 3200000 in
theorem follows_any (w : World) (sb : Nat) (t : TTM) (c : ConM) (P : SetP) (hS : SetAt w sb t c P) (x y : Duty) (xa ya : Option Addr) (xc yc : Nat) (hx : dutyE t c x = 0) (hy : dutyE t c y = 0) (hxa : SlAt taskRT w xa x) (hya : SlAt taskRT w ya y) : Calls Tryz.prog 96 #[.pointer (some ⟨sb, 0, none⟩), .slice xa x.length xc, .slice ya y.length yc] w fun e w' => e = .returned (.bool (follB t c x y)) ∧ Below w.heap.size w w' := by
  obtain ⟨x1, x2, x3, x4⟩ := span_bd hS.okT hS.okC hx
  obtain ⟨y1, y2, y3, y4⟩ := span_bd hS.okT hS.okC hy
  have HS := Lib.hid hS
  have HX := Lib.hid hxa
  have HY := Lib.hid hya
  clear hS hxa hya
  have Hx := Lib.hid hx
  have Hy := Lib.hid hy
  have fd0 : ∀ (a b : Int) (w : World), (Instr.field 50 (.agg #[.int .i64 a, .int .i64 b]) 0).run Tryz.prog w = .ok (.int .i64 a) w := fun _ _ _ => by kernel_rfl
  have fd1 : ∀ (a b : Int) (w : World), (Instr.field 50 (.agg #[.int .i64 a, .int .i64 b]) 1).run Tryz.prog w = .ok (.int .i64 b) w := fun _ _ _ => by kernel_rfl
  cases e0 : ((fAt t.fls (lstN x)).to.toList == (fAt t.fls (fstN y)).frm.toList)
  · have hz := Lib.hid (show follB t c x y = false by simp [follB, e0])
    go_enter Tryz.func96, Tryz.ntmps96
    go_wp2_with fail
    refine (dutySpan_any w sb t c P HS.out y ya yc hy HY.out).mono ?_
    rintro e w1 ⟨rfl, hb1⟩
    have HS1 := Lib.hid (HS.out.below hb1)
    have HX1 := Lib.hid (HX.out.below hb1)
    have HY1 := Lib.hid (HY.out.below hb1)
    have HB1 := Lib.hid hb1
    clear hb1
    go_wp2_with fail
    refine (dutySpan_any w1 sb t c P HS1.out x xa xc hx HX1.out).mono ?_
    rintro e w2 ⟨rfl, hb2⟩
    have HS2 := Lib.hid (HS1.out.below hb2)
    have HX2 := Lib.hid (HX1.out.below hb2)
    have HY2 := Lib.hid (HY1.out.below hb2)
    have HB2 := Lib.hid (Below.then HB1.out hb2)
    clear hb2 HS1 HX1 HY1 HB1
    have d7 : w2.cell? ⟨sb, 7, none⟩ = some (.int .i64 c.layover) := cellW (j := 7) HS2.out.box rfl
    have hs2 := HS2.out.lt
    go_wp2_with fail
    refine (to_any w2 sb t c P HS2.out x xa xc hx HX2.out).mono ?_
    rintro e w3 ⟨rfl, rfl⟩
    go_wp2_with fail
    refine (from_any w2 sb t c P HS2.out y ya yc hy HY2.out).mono ?_
    rintro e w3 ⟨rfl, rfl⟩
    go_wp2_with fail
    go_ret
    exact ⟨ret_boolE hz.out.symm, HB2.out⟩
  by_cases e1 : 0 ≤ (spanD t c y).1 - (spanD t c x).2
  · have hz := Lib.hid (show follB t c x y = decide ((spanD t c y).1 - (spanD t c x).2 ≤ c.layover) by simp only [follB, e0, decide_eq_true e1]; rfl)
    go_enter Tryz.func96, Tryz.ntmps96
    go_wp2_with fail
    refine (dutySpan_any w sb t c P HS.out y ya yc hy HY.out).mono ?_
    rintro e w1 ⟨rfl, hb1⟩
    have HS1 := Lib.hid (HS.out.below hb1)
    have HX1 := Lib.hid (HX.out.below hb1)
    have HY1 := Lib.hid (HY.out.below hb1)
    have HB1 := Lib.hid hb1
    clear hb1
    go_wp2_with fail
    refine (dutySpan_any w1 sb t c P HS1.out x xa xc hx HX1.out).mono ?_
    rintro e w2 ⟨rfl, hb2⟩
    have HS2 := Lib.hid (HS1.out.below hb2)
    have HX2 := Lib.hid (HX1.out.below hb2)
    have HY2 := Lib.hid (HY1.out.below hb2)
    have HB2 := Lib.hid (Below.then HB1.out hb2)
    clear hb2 HS1 HX1 HY1 HB1
    have d7 : w2.cell? ⟨sb, 7, none⟩ = some (.int .i64 c.layover) := cellW (j := 7) HS2.out.box rfl
    have hs2 := HS2.out.lt
    go_wp2_with fail
    refine (to_any w2 sb t c P HS2.out x xa xc hx HX2.out).mono ?_
    rintro e w3 ⟨rfl, rfl⟩
    go_wp2_with fail
    refine (from_any w2 sb t c P HS2.out y ya yc hy HY2.out).mono ?_
    rintro e w3 ⟨rfl, rfl⟩
    go_wp2_with fail
    go_ret
    exact ⟨ret_boolE hz.out.symm, HB2.out⟩
  · have hz := Lib.hid (show follB t c x y = false by simp only [follB, decide_eq_false e1]; simp)
    go_enter Tryz.func96, Tryz.ntmps96
    go_wp2_with fail
    refine (dutySpan_any w sb t c P HS.out y ya yc hy HY.out).mono ?_
    rintro e w1 ⟨rfl, hb1⟩
    have HS1 := Lib.hid (HS.out.below hb1)
    have HX1 := Lib.hid (HX.out.below hb1)
    have HY1 := Lib.hid (HY.out.below hb1)
    have HB1 := Lib.hid hb1
    clear hb1
    go_wp2_with fail
    refine (dutySpan_any w1 sb t c P HS1.out x xa xc hx HX1.out).mono ?_
    rintro e w2 ⟨rfl, hb2⟩
    have HS2 := Lib.hid (HS1.out.below hb2)
    have HX2 := Lib.hid (HX1.out.below hb2)
    have HY2 := Lib.hid (HY1.out.below hb2)
    have HB2 := Lib.hid (Below.then HB1.out hb2)
    clear hb2 HS1 HX1 HY1 HB1
    have d7 : w2.cell? ⟨sb, 7, none⟩ = some (.int .i64 c.layover) := cellW (j := 7) HS2.out.box rfl
    have hs2 := HS2.out.lt
    go_wp2_with fail
    refine (to_any w2 sb t c P HS2.out x xa xc hx HX2.out).mono ?_
    rintro e w3 ⟨rfl, rfl⟩
    go_wp2_with fail
    refine (from_any w2 sb t c P HS2.out y ya yc hy HY2.out).mono ?_
    rintro e w3 ⟨rfl, rfl⟩
    go_wp2_with fail
    go_ret
    exact ⟨ret_boolE hz.out.symm, HB2.out⟩
/-- the structure of two duties and the rest between them -/
def restE (t : TTM) (c : ConM) (x y : Duty) : Int := if dutyE t c x ≠ 0 then dutyE t c x else if dutyE t c y ≠ 0 then dutyE t c y else if follB t c x y = false then 14 else 0
set_option maxHeartbeats 3200000 in
theorem restStructure_any (w : World) (sb : Nat) (t : TTM) (c : ConM) (P : SetP) (hS : SetAt w sb t c P) (x y : Duty) (xa ya : Option Addr) (xc yc : Nat) (hxl : x.length ≤ 140737488355328) (hyl : y.length ≤ 140737488355328) (hxa : SlAt taskRT w xa x) (hya : SlAt taskRT w ya y) : Calls Tryz.prog 75 #[.pointer (some ⟨sb, 0, none⟩), .slice xa x.length xc, .slice ya y.length yc] w fun e w' => e = .returned (.int .i64 (restE t c x y)) ∧ Below w.heap.size w w' := by
  have HS := Lib.hid hS
  have HX := Lib.hid hxa
  have HY := Lib.hid hya
  clear hS hxa hya
  go_enter Tryz.func75, Tryz.ntmps75
  go_wp2_with fail
  refine (dutyStructure_any w sb t c P HS.out x xa xc hxl HX.out).mono ?_
  rintro e w1 ⟨rfl, hb1⟩
  have HS1 := Lib.hid (HS.out.below hb1)
  have HX1 := Lib.hid (HX.out.below hb1)
  have HY1 := Lib.hid (HY.out.below hb1)
  have HB1 := Lib.hid hb1
  clear hb1
  by_cases e0 : dutyE t c x = 0
  · have E0 := Lib.hid e0
    rw [e0]
    clear e0
    go_wp2_with fail
    refine (dutyStructure_any w1 sb t c P HS1.out y ya yc hyl HY1.out).mono ?_
    rintro e w2 ⟨rfl, hb2⟩
    have HS2 := Lib.hid (HS1.out.below hb2)
    have HX2 := Lib.hid (HX1.out.below hb2)
    have HY2 := Lib.hid (HY1.out.below hb2)
    have HB2 := Lib.hid (Below.then HB1.out hb2)
    clear hb2 HS1 HX1 HY1 HB1
    by_cases e1 : dutyE t c y = 0
    · have E1 := Lib.hid e1
      rw [e1]
      clear e1
      go_wp2_with fail
      refine (follows_any w2 sb t c P HS2.out x y xa ya xc yc E0.out E1.out HX2.out HY2.out).mono ?_
      rintro e w3 ⟨rfl, hb3⟩
      have HB3 := Lib.hid (Below.then HB2.out hb3)
      clear hb3
      cases e2 : follB t c x y
      · have hr := Lib.hid (show restE t c x y = 14 by rw [restE, if_neg (by simp [E0.out]), if_neg (by simp [E1.out]), if_pos e2])
        go_wp2_with fail
        go_ret
        exact ⟨ret_int hr.out.symm, HB3.out⟩
      · have hr := Lib.hid (show restE t c x y = 0 by rw [restE, if_neg (by simp [E0.out]), if_neg (by simp [E1.out]), if_neg (by simp [e2])])
        go_wp2_with fail
        go_ret
        exact ⟨ret_int hr.out.symm, HB3.out⟩
    · have hr := Lib.hid (show restE t c x y = dutyE t c y by rw [restE, if_neg (by simp [E0.out]), if_pos e1])
      have e1b : (dutyE t c y != 0) = true := by simpa using e1
      go_wp2_with fail
      go_ret
      exact ⟨ret_int hr.out.symm, HB2.out⟩
  · have hr := Lib.hid (show restE t c x y = dutyE t c x by rw [restE, if_pos e0])
    have e0b : (dutyE t c x != 0) = true := by simpa using e0
    go_wp2_with fail
    go_ret
    exact ⟨ret_int hr.out.symm, HB1.out⟩
/-- does a duty operate a flight? -/
def operF (d : Duty) (k : Nat) : Nat → Bool
  | 0 => false
  | m + 1 => if (tAt d k).2 = true then operF d (k + 1) m else true
def operB (d : Duty) : Bool := operF d 0 (d.length - 0)
theorem operF_go {d : Duty} {k : Nat} (h : k < d.length) (e : (tAt d k).2 = true) : operF d k (d.length - k) = operF d (k + 1) (d.length - (k + 1)) := by
  rw [show d.length - k = d.length - (k + 1) + 1 by omega, operF, if_pos e]
theorem operF_hit {d : Duty} {k : Nat} (h : k < d.length) (e : (tAt d k).2 = false) : operF d k (d.length - k) = true := by
  rw [show d.length - k = d.length - (k + 1) + 1 by omega, operF, if_neg (by simp [e])]
theorem operF_end (d : Duty) : operF d d.length (d.length - d.length) = false := by
  rw [Nat.sub_self]; rfl
set_option maxHeartbeats 800000 in
theorem operates_any (d : Duty) (a : Option Addr) (cap : Nat) (w : World) (hl : d.length ≤ 140737488355328) (ha : SlAt taskRT w a d) : Calls Tryz.prog 99 #[.slice a d.length cap] w fun e w' => e = .returned (.bool (operB d)) ∧ Below w.heap.size w w' := by
  have HA := Lib.hid ha
  clear ha
  go_enter Tryz.func99, Tryz.ntmps99
  go_wp2_with fail
  go_loopw [7] (fun i wr => ∃ (k : Nat), k ≤ d.length ∧ i = .int .i64 k ∧ Hid (operB d = operF d k (d.length - k)) ∧ Hid (Below w.heap.size w wr)) (fun i _ => d.length - (intOf i).toNat)
  case atStart => exact ⟨0, Nat.zero_le _, rfl, Lib.hid rfl, Lib.hid (Below.refl _ _)⟩
  case round =>
    obtain ⟨k, hk, rfl, hval, hbel⟩ := hrel
    by_cases hlt : k < d.length
    · obtain ⟨b, off, rfl, hb, hcs⟩ := task_cells HA.out (by omega)
      obtain ⟨c0, c1⟩ := (hcs.below hb hbel.out) k hlt
      clear hcs
      have hbr := Nat.lt_of_lt_of_le hb hbel.out.size
      have HB1 := Lib.hid (Below.then hbel.out (below_new wr (Obj.cells #[Value.int .i64 (tAt d k).1, Value.bool (tAt d k).2] 46)))
      cases e0 : (tAt d k).2
      · have hst := Lib.hid (hval.out.trans (operF_hit hlt e0))
        rw [e0] at HB1 c1
        go_wp2_with fail
        go_ret
        exact ⟨ret_boolE hst.out.symm, HB1.out⟩
      · have hst := Lib.hid (hval.out.trans (operF_go hlt e0))
        rw [e0] at HB1 c1
        go_wp2_with fail
        go_roundw
        case rel => exact ⟨k + 1, by omega, by go_num, hst, HB1⟩
        case measure => simp [intOf]; omega
    · obtain rfl : k = d.length := by omega
      have hst := Lib.hid (hval.out.trans (operF_end d))
      clear hval hk hlt
      go_wp2_with fail
      go_ret
      exact ⟨ret_boolE hst.out.symm, hbel.out⟩
end Go.Proofs.YtpgbckgjlgecpaaGreat
/- contract of the setting: PairingStructure -/
namespace Go.Proofs.YtpgbckgjlgecpaaGreat
open Go.RowKit Go.Sort
set_option linter.unusedVariables false
set_option linter.unusedSimpArgs false
set_option maxRecDepth 100000
def pdE (t : TTM) (c : ConM) (L : List Duty) (k : Nat) : Int := dutyE t c (dAt L k)
def pfE (t : TTM) (c : ConM) (L : List Duty) (k : Nat) : Int := if follB t c (dAt L (k - 1)) (dAt L k) = true then 0 else 14
def poF (L : List Duty) (k : Nat) : Nat → Bool
  | 0 => false
  | m + 1 => if operB (dAt L k) = true then true else poF L (k + 1) m
def poB (L : List Duty) : Bool := poF L 0 (L.length - 0)
theorem poF_go {L : List Duty} {k : Nat} (h : k < L.length) (e : operB (dAt L k) = false) : poF L k (L.length - k) = poF L (k + 1) (L.length - (k + 1)) := by
  rw [show L.length - k = L.length - (k + 1) + 1 by omega, poF, if_neg (by simp [e])]
theorem poF_hit {L : List Duty} {k : Nat} (h : k < L.length) (e : operB (dAt L k) = true) : poF L k (L.length - k) = true := by
  rw [show L.length - k = L.length - (k + 1) + 1 by omega, poF, if_pos e]
theorem poF_end (L : List Duty) : poF L L.length (L.length - L.length) = false := by
  rw [Nat.sub_self]; rfl
def homeB (t : TTM) (p : ByteArray) (L : List Duty) : Bool := ((fAt t.fls (fstN (dAt L 0))).frm.toList == p.toList) && ((fAt t.fls (lstN (dAt L (L.length - 1)))).to.toList == p.toList)
/-- the structure of a pairing -/
def pairE (t : TTM) (c : ConM) (p : ByteArray) (L : List Duty) : Int := if airB' t p = false then 6 else if L.length < 1 ∨ 6 < L.length then 5 else if fstE (pdE t c L) 0 (L.length - 0) ≠ 0 then fstE (pdE t c L) 0 (L.length - 0) else if fstE (pfE t c L) 1 (L.length - 1) ≠ 0 then 14 else if homeB t p L = false then 14 else if poB L = true then 0 else 14
set_option maxHeartbeats 3200000 in
theorem pairingStructure_any (w : World) (sb : Nat) (t : TTM) (c : ConM) (P : SetP) (hS : SetAt w sb t c P) (p : ByteArray) (L : List Duty) (a : Option Addr) (cap : Nat) (hl : L.length ≤ 140737488355328) (ha : SlAt dutyRT w a L) : Calls Tryz.prog 48 #[.pointer (some ⟨sb, 0, none⟩), .agg #[.string p, .slice a L.length cap]] w fun e w' => e = .returned (.int .i64 (pairE t c p L)) ∧ Below w.heap.size w w' := by
  have HS := Lib.hid hS
  have HA := Lib.hid ha
  clear hS ha
  have HB0 := Lib.hid (below_new w (Obj.cells #[Value.string p, Value.slice a L.length cap] 37))
  have HS0 := Lib.hid (HS.out.below HB0.out)
  go_enter Tryz.func48, Tryz.ntmps48
  go_wp2_with fail
  refine (isAirportS_any _ sb t c P HS0.out p).mono ?_
  rintro e w1 ⟨rfl, hb1⟩
  have q1 : w1.cell? ⟨w.heap.size, 1, none⟩ = some (.slice a L.length cap) := (hb1.cell (p := ⟨w.heap.size, 1, none⟩) (by rw [World.alloc]; simp)).trans (by go_simp)
  have q0 : w1.cell? ⟨w.heap.size, 0, none⟩ = some (.string p) := (hb1.cell (p := ⟨w.heap.size, 0, none⟩) (by rw [World.alloc]; simp)).trans (by go_simp)
  have HB1 := Lib.hid (Below.then HB0.out hb1)
  have hz1 : w.heap.size < w1.heap.size := Nat.lt_of_lt_of_le (by rw [World.alloc]; simp) hb1.size
  clear HS0 HB0 hb1
  cases e0 : airB' t p
  · have hr := Lib.hid (show pairE t c p L = 6 by rw [pairE, if_pos e0])
    go_wp2_with fail
    go_ret
    exact ⟨ret_int hr.out.symm, HB1.out⟩
  have Hv0 := Lib.hid (show pairE t c p L = if L.length < 1 ∨ 6 < L.length then 5 else if fstE (pdE t c L) 0 (L.length - 0) ≠ 0 then fstE (pdE t c L) 0 (L.length - 0) else if fstE (pfE t c L) 1 (L.length - 1) ≠ 0 then 14 else if homeB t p L = false then 14 else if poB L = true then 0 else 14 by rw [pairE, if_neg (by simp [e0])])
  clear e0
  by_cases g1 : (L.length : Int) < 1
  · have hr := Lib.hid (Hv0.out.trans (if_pos (.inl (by omega))))
    go_wp2_with fail
    go_ret
    exact ⟨ret_int hr.out.symm, HB1.out⟩
  by_cases g2 : (6 : Int) < (L.length : Int)
  · have hr := Lib.hid (Hv0.out.trans (if_pos (.inr (by omega))))
    go_wp2_with fail
    go_ret
    exact ⟨ret_int hr.out.symm, HB1.out⟩
  have Hv1 := Lib.hid (Hv0.out.trans (if_neg (by omega)))
  obtain ⟨b, off, rfl, hb0, hcs⟩ := duty_cells (HA.out.below HB1.out) (by omega)
  have HCS := Lib.hid hcs
  have HS1 := Lib.hid (HS.out.below HB1.out)
  clear hcs Hv0 HA
  go_wp2_with fail
  obtain ⟨wq, hwq⟩ : ∃ wq : World, wq = w1 := ⟨_, rfl⟩
  go_loopw [29] (fun i wr => ∃ (k : Nat), k ≤ L.length ∧ i = .int .i64 k ∧ Hid (fstE (pdE t c L) 0 (L.length - 0) = fstE (pdE t c L) k (L.length - k)) ∧ Hid (∀ j, j < k → dutyE t c (dAt L j) = 0) ∧ Hid (Below w1.heap.size w1 wr)) (fun i _ => L.length - (intOf i).toNat)
  case atStart => exact ⟨0, Nat.zero_le _, rfl, Lib.hid rfl, Lib.hid (fun j hj => by omega), Lib.hid (Below.refl _ _)⟩
  case round =>
    obtain ⟨k, hk, rfl, hval, hall, hbel⟩ := hrel
    by_cases hlt : k < L.length
    · obtain ⟨da, dc, c0, dl, dw⟩ := (HCS.out.below hb0 hbel.out) k hlt
      have hbr := Nat.lt_of_lt_of_le hb0 hbel.out.size
      have DW := Lib.hid dw
      clear dw
      go_wp2_with fail
      refine (dutyStructure_any _ sb t c P (HS1.out.below hbel.out) (dAt L k) da dc dl DW.out).mono ?_
      rintro e w2 ⟨rfl, hb2⟩
      have HB2 := Lib.hid (Below.then hbel.out hb2)
      clear hb2
      by_cases e0 : dutyE t c (dAt L k) = 0
      · have hst := Lib.hid (hval.out.trans (fstE_go hlt e0))
        have hall2 := Lib.hid (show ∀ j, j < k + 1 → dutyE t c (dAt L j) = 0 from fun j hj => by
          by_cases ej : j = k
          · subst ej; exact e0
          · exact hall.out j (by omega))
        rw [e0]
        clear e0
        go_wp2_with fail
        go_roundw
        case rel => exact ⟨k + 1, by omega, by go_num, hst, hall2, HB2⟩
        case measure => simp [intOf]; omega
      · have hst := hval.out.trans (fstE_bad hlt e0)
        have hr := Lib.hid (show pairE t c p L = dutyE t c (dAt L k) from Hv1.out.trans (by rw [if_pos (by rw [hst]; exact e0), hst]; rfl))
        have e0b : (dutyE t c (dAt L k) != 0) = true := by simpa using e0
        clear hst
        go_wp2_with fail
        go_ret
        exact ⟨ret_int hr.out.symm, Below.then HB1.out HB2.out⟩
    · obtain rfl : k = L.length := by omega
      have hst := hval.out.trans (fstE_end _ _)
      have Hv2 := Lib.hid (Hv1.out.trans (if_neg (by rw [hst]; simp)))
      clear hval hst hk hlt Hv1
      go_wp2_with fail
      have HB2 := Lib.hid hbel.out
      clear hbel
      go_loopw [8] (fun i wr => ∃ (k : Nat), 1 ≤ k ∧ k ≤ L.length ∧ i = .int .i64 k ∧ Hid (fstE (pfE t c L) 1 (L.length - 1) = fstE (pfE t c L) k (L.length - k)) ∧ Hid (Below w1.heap.size w1 wr)) (fun i _ => L.length - (intOf i).toNat)
      case atStart => exact ⟨1, by omega, by omega, rfl, Lib.hid rfl, HB2⟩
      clear HB2
      case round =>
        obtain ⟨k, hk1, hk, rfl, hval, hbel⟩ := hrel
        have q1r := below_cell q1 hz1 hbel.out
        have q0r := below_cell q0 hz1 hbel.out
        have hzr := Nat.lt_of_lt_of_le hz1 hbel.out.size
        have hbr := Nat.lt_of_lt_of_le hb0 hbel.out.size
        have HSr := Lib.hid (HS1.out.below hbel.out)
        have HCr := Lib.hid (HCS.out.below hb0 hbel.out)
        by_cases hlt : k < L.length
        · obtain ⟨m, rfl⟩ : ∃ m, k = m + 1 := ⟨k - 1, by omega⟩
          obtain ⟨xa, xc, c0, _, xw⟩ := HCr.out m (by omega)
          obtain ⟨ya, yc, c1, _, yw⟩ := HCr.out (m + 1) hlt
          have F1 := hall.out m (by omega)
          have F2 := hall.out (m + 1) hlt
          have C1 := Lib.hid (fun dd os => Calls.regrown_of (follows_any (grow (redrawn wr dd) os) sb t c P (HSr.out.below (below_regrown wr dd os)) (dAt L m) (dAt L (m + 1)) xa ya xc yc F1 F2 (xw.below (below_regrown wr dd os)) (yw.below (below_regrown wr dd os))))
          have em : IntKind.i64.wrap (((m + 1 : Nat) : Int) - 1) = (m : Int) := by rw [IntKind.wrap_i64]; omega
          have ec : ((m + 1 : Nat) : Int) = (m : Int) + 1 := by omega
          clear F1 F2 xw yw
          go_wp2_with fail
          have r0 := fun dd os => cell_regrown c0 dd os
          have r1 := fun dd os => cell_regrown c1 dd os
          have r2 := fun dd os => cell_regrown q1r dd os
          refine wp_region_quiet_below (by kernel_rfl) (by kernel_rfl) ?_
          repeat (first | go_big_quiet_step (first | (with_reducible exact C1.out _ _)) | quiet_step (first | (with_reducible exact C1.out _ _)))
          refine wpQuiet_nil ?_
          intro _ hw'
          obtain ⟨⟨dq, osq⟩, hw''⟩ := hw'
          subst hw''
          have HB2 := Lib.hid (Below.then hbel.out (below_regrown wr dq osq))
          have hce : follB t c (dAt L m) (dAt L (m + 1)) = follB t c (dAt L (m + 1 - 1)) (dAt L (m + 1)) := rfl
          clear r0 r1 r2 C1 c0 c1 em ec q1r q0r
          generalize grow (redrawn wr dq) osq = W2 at *
          cases e0 : follB t c (dAt L m) (dAt L (m + 1))
          · have hch : pfE t c L (m + 1) = 14 := by rw [e0] at hce; simp [pfE, ← hce, e0]
            have hst := hval.out.trans (fstE_bad hlt (by rw [hch]; decide))
            have hr := Lib.hid (show pairE t c p L = 14 from Hv2.out.trans (if_pos (by rw [hst, hch]; decide)))
            clear hch hce hst
            go_wp2_with fail
            go_ret
            exact ⟨ret_int hr.out.symm, Below.then HB1.out HB2.out⟩
          · have hst := Lib.hid (hval.out.trans (fstE_go hlt (by rw [e0] at hce; simp [pfE, ← hce, e0])))
            clear hce
            go_wp2_with fail
            go_roundw
            case rel => exact ⟨m + 1 + 1, by omega, by omega, by go_num, hst, HB2⟩
            case measure => simp [intOf]; omega
        · obtain rfl : k = L.length := by omega
          have Hv3 := Lib.hid (Hv2.out.trans (if_neg (by rw [hval.out, fstE_end]; simp)))
          clear hval hk hlt Hv2
          obtain ⟨xa, xc, c0, _, xw⟩ := HCr.out 0 (by omega)
          rw [Nat.add_zero] at c0
          obtain ⟨n, hn⟩ : ∃ n, L.length = n + 1 := ⟨L.length - 1, by omega⟩
          obtain ⟨ya, yc, c1, _, yw⟩ := HCr.out n (by omega)
          have F1 := hall.out 0 (by omega)
          have F2 := hall.out n (by omega)
          have C1 := Lib.hid (fun dd os => Calls.regrown_of ((from_any (grow (redrawn wr dd) os) sb t c P (HSr.out.below (below_regrown wr dd os)) (dAt L 0) xa xc F1 (xw.below (below_regrown wr dd os))).mono (by rintro e w4 ⟨rfl, rfl⟩; exact ⟨rfl, Below.refl _ _⟩)))
          have C2 := Lib.hid (fun dd os => Calls.regrown_of ((to_any (grow (redrawn wr dd) os) sb t c P (HSr.out.below (below_regrown wr dd os)) (dAt L n) ya yc F2 (yw.below (below_regrown wr dd os))).mono (by rintro e w4 ⟨rfl, rfl⟩; exact ⟨rfl, Below.refl _ _⟩)))
          have em : IntKind.i64.wrap ((L.length : Int) - 1) = (n : Int) := by rw [IntKind.wrap_i64]; omega
          have en : (n : Int) < (L.length : Int) := by omega
          have ez : (0 : Int) < (L.length : Int) := by omega
          have hme : homeB t p L = (((fAt t.fls (fstN (dAt L 0))).frm.toList == p.toList) && ((fAt t.fls (lstN (dAt L n))).to.toList == p.toList)) := by rw [homeB, show L.length - 1 = n by omega]
          have Hme := Lib.hid hme
          have Hn := Lib.hid hn
          clear F1 F2 xw yw hme hn
          go_wp2_with fail
          have r0 := fun dd os => cell_regrown c0 dd os
          have r1 := fun dd os => cell_regrown c1 dd os
          have r2 := fun dd os => cell_regrown q1r dd os
          have r3 := fun dd os => cell_regrown q0r dd os
          have hex : ∀ (v : Bool), homeB t p L = v → True := fun _ _ => trivial
          cases e0 : ((fAt t.fls (fstN (dAt L 0))).frm.toList == p.toList)
          · have hh := Lib.hid (show homeB t p L = false by rw [Hme.out, e0]; rfl)
            refine wp_region_quiet_below (by kernel_rfl) (by kernel_rfl) ?_
            repeat (first | go_big_quiet_step (first | (with_reducible exact C1.out _ _) | (with_reducible exact C2.out _ _)) | quiet_step (first | (with_reducible exact C1.out _ _) | (with_reducible exact C2.out _ _)))
            refine wpQuiet_nil ?_
            intro _ hw'
            obtain ⟨⟨dq, osq⟩, hw''⟩ := hw'
            subst hw''
            have HB2 := Lib.hid (Below.then hbel.out (below_regrown wr dq osq))
            clear r0 r1 r2 r3 C1 C2 c0 c1 em en q1r q0r
            generalize grow (redrawn wr dq) osq = W2 at *
            have hr := Lib.hid (Hv3.out.trans (if_pos hh.out))
            go_wp2_with fail
            go_ret
            exact ⟨ret_int hr.out.symm, Below.then HB1.out HB2.out⟩
          cases e1 : ((fAt t.fls (lstN (dAt L n))).to.toList == p.toList)
          · have hh := Lib.hid (show homeB t p L = false by rw [Hme.out, e0, e1]; rfl)
            refine wp_region_quiet_below (by kernel_rfl) (by kernel_rfl) ?_
            repeat (first | go_big_quiet_step (first | (with_reducible exact C1.out _ _) | (with_reducible exact C2.out _ _)) | quiet_step (first | (with_reducible exact C1.out _ _) | (with_reducible exact C2.out _ _)))
            refine wpQuiet_nil ?_
            intro _ hw'
            obtain ⟨⟨dq, osq⟩, hw''⟩ := hw'
            subst hw''
            have HB2 := Lib.hid (Below.then hbel.out (below_regrown wr dq osq))
            clear r0 r1 r2 r3 C1 C2 c0 c1 em en q1r q0r
            generalize grow (redrawn wr dq) osq = W2 at *
            have hr := Lib.hid (Hv3.out.trans (if_pos hh.out))
            go_wp2_with fail
            go_ret
            exact ⟨ret_int hr.out.symm, Below.then HB1.out HB2.out⟩
          have Hv4 := Lib.hid (Hv3.out.trans (if_neg (by rw [Hme.out, e0, e1]; decide)))
          refine wp_region_quiet_below (by kernel_rfl) (by kernel_rfl) ?_
          repeat (first | go_big_quiet_step (first | (with_reducible exact C1.out _ _) | (with_reducible exact C2.out _ _)) | quiet_step (first | (with_reducible exact C1.out _ _) | (with_reducible exact C2.out _ _)))
          refine wpQuiet_nil ?_
          intro _ hw'
          obtain ⟨⟨dq, osq⟩, hw''⟩ := hw'
          subst hw''
          have HB2 := Lib.hid (Below.then hbel.out (below_regrown wr dq osq))
          have q1s := below_cell q1r hzr (below_regrown wr dq osq)
          clear r0 r1 r2 r3 C1 C2 c0 c1 em en q1r q0r hex
          generalize grow (redrawn wr dq) osq = W2 at *
          clear hbel hbr HSr HCr hzr Hv3 Hme
          go_wp2_with fail
          go_loopw [88] (fun i wr => ∃ (k : Nat), k ≤ L.length ∧ i = .int .i64 k ∧ Hid (poB L = poF L k (L.length - k)) ∧ Hid (Below w1.heap.size w1 wr)) (fun i _ => L.length - (intOf i).toNat)
          case atStart => exact ⟨0, by omega, rfl, Lib.hid rfl, HB2⟩
          clear HB2
          case round =>
            obtain ⟨k, hk, rfl, hval, hbel⟩ := hrel
            by_cases hlt : k < L.length
            · obtain ⟨da, dc, c0, dl, dw⟩ := (HCS.out.below hb0 hbel.out) k hlt
              have hbr := Nat.lt_of_lt_of_le hb0 hbel.out.size
              have DW := Lib.hid dw
              clear dw
              go_wp2_with fail
              refine (operates_any (dAt L k) da dc _ dl DW.out).mono ?_
              rintro e w2 ⟨rfl, hb2⟩
              have HB2 := Lib.hid (Below.then hbel.out hb2)
              clear hb2
              cases e2 : operB (dAt L k)
              · have hst := Lib.hid (hval.out.trans (poF_go hlt e2))
                go_wp2_with fail
                go_roundw
                case rel => exact ⟨k + 1, by omega, by go_num, hst, HB2⟩
                case measure => simp [intOf]; omega
              · have hst := hval.out.trans (poF_hit hlt e2)
                have hr := Lib.hid (show pairE t c p L = 0 from Hv4.out.trans (if_pos hst))
                clear hst
                go_wp2_with fail
                go_ret
                exact ⟨ret_int hr.out.symm, Below.then HB1.out HB2.out⟩
            · obtain rfl : k = L.length := by omega
              have hr := Lib.hid (show pairE t c p L = 14 from Hv4.out.trans (if_neg (by rw [hval.out, poF_end]; decide)))
              clear hval hk hlt
              go_wp2_with fail
              go_ret
              exact ⟨ret_int hr.out.symm, Below.then HB1.out hbel.out⟩
end Go.Proofs.YtpgbckgjlgecpaaGreat
/- contracts: slices.Index and slices.Contains at []string -/
namespace Go.Proofs.YtpgbckgjlgecpaaGreat
open Go.RowKit Go.Sort
set_option linter.unusedVariables false
set_option linter.unusedSimpArgs false
set_option maxRecDepth 100000
theorem ba_toList_eq (a b : ByteArray) : (a.toList == b.toList) = decide (a = b) := by
  rw [Bool.eq_iff_iff, decide_eq_true_eq]
  constructor
  · intro h
    have h1 := word_eq h
    rw [h1, Lib.toList_data]
  · rintro rfl
    exact beq_self_eq_true _
def IdxPost (l : List ByteArray) (s : ByteArray) (w : World) (e : Ending) (w' : World) : Prop := ∃ n : Int, e = .returned (.int .i64 n) ∧ ((0 ≤ n ∧ hasB l s = true) ∨ (n < 0 ∧ hasB l s = false)) ∧ w = w'
theorem hasB_at {l : List ByteArray} {k : Nat} (h : k < l.length) {s : ByteArray} (e : s = sAt l k) : hasB l s = true := by
  unfold hasB
  rw [List.any_eq_true]
  refine ⟨sAt l k, ?_, by simpa using e⟩
  unfold sAt
  rw [List.getD_eq_getElem?_getD, List.getElem?_eq_getElem h]
  exact List.getElem_mem h
theorem hasB_none {l : List ByteArray} {s : ByteArray} (h : ∀ i, i < l.length → s ≠ sAt l i) : hasB l s = false := by
  unfold hasB
  rw [List.any_eq_false]
  intro x hx
  obtain ⟨i, hi, rfl⟩ := List.mem_iff_getElem.1 hx
  have := h i hi
  unfold sAt at this
  rw [List.getD_eq_getElem?_getD, List.getElem?_eq_getElem hi] at this
  simpa using this
set_option maxHeartbeats 400000 in
theorem indexS_any (l : List ByteArray) (s : ByteArray) (a : Option Addr) (cap : Nat) (w : World) (ha : StrAt w a l) (hl : l.length ≤ 1000000) : Calls Tryz.prog 144 #[.slice a l.length cap, .string s] w (IdxPost l s w) := by
  have HA := Lib.hid ha
  clear ha
  go_enter Tryz.func144, Tryz.ntmps144
  go_wp2_with fail
  go_loop [5, 8] (fun _ i => ∃ k : Nat, k ≤ l.length ∧ i = .int .i64 k ∧ Hid (∀ i, i < k → s ≠ sAt l i)) (fun _ i => l.length - (intOf i).toNat)
  case atStart => exact ⟨0, Nat.zero_le _, rfl, Lib.hid (fun i hi => absurd hi (Nat.not_lt_zero _))⟩
  case round =>
    obtain ⟨k, hk, rfl, hN⟩ := hrel
    by_cases hlt : k < l.length
    · obtain ⟨b, off, rfl, hb, hcs⟩ := HA.out.cells (by omega)
      have c0 := hcs k hlt
      clear hcs
      by_cases e : s = sAt l k
      · have e' : (s.toList == (sAt l k).toList) = true := by rw [ba_toList_eq]; simpa using e
        have HE := Lib.hid e
        clear e
        go_wp2_with fail
        go_ret
        exact ⟨_, rfl, .inl ⟨by omega, hasB_at hlt HE.out⟩, rfl⟩
      · have e' : (s.toList == (sAt l k).toList) = false := by rw [ba_toList_eq]; simpa using e
        have HE := Lib.hid e
        clear e
        go_wp2_with fail
        go_round
        case rel => exact ⟨k + 1, by omega, by go_num, Lib.hid (fun i hi => if e : i = k then by subst e; exact HE.out else hN.out i (by omega))⟩
        case measure => simp [intOf]; omega
    · obtain rfl : k = l.length := by omega
      go_wp2_with fail
      go_ret
      exact ⟨_, rfl, .inr ⟨by decide, hasB_none hN.out⟩, rfl⟩
set_option maxHeartbeats 400000 in
theorem containsS_any (l : List ByteArray) (s : ByteArray) (a : Option Addr) (cap : Nat) (w : World) (ha : StrAt w a l) (hl : l.length ≤ 1000000) : Calls Tryz.prog 110 #[.slice a l.length cap, .string s] w fun e w' => e = .returned (.bool (hasB l s)) ∧ w = w' := by
  go_enter Tryz.func110, Tryz.ntmps110
  go_wp2_with fail
  refine (indexS_any l s a cap w ha hl).mono ?_
  rintro e w1 ⟨n, rfl, h, rfl⟩
  rcases h with ⟨h1, h2⟩ | ⟨h1, h2⟩
  · have H2 := Lib.hid h2
    clear h2
    go_wp2_with fail
    go_ret
    exact ⟨ret_boolE (by rw [H2.out] <;> simp [h1]), rfl⟩
  · have H2 := Lib.hid h2
    clear h2
    go_wp2_with fail
    go_ret
    exact ⟨ret_boolE (by rw [H2.out] <;> simp [h1]), rfl⟩
end Go.Proofs.YtpgbckgjlgecpaaGreat
/- contract of measure.Attribute -/
namespace Go.Proofs.YtpgbckgjlgecpaaGreat
open Go.RowKit Go.Sort
set_option linter.unusedVariables false
set_option linter.unusedSimpArgs false
set_option maxRecDepth 100000
def arAt (l : List (ByteArray × Int)) (k : Nat) : ByteArray × Int := l.getD k (ByteArray.empty, 0)
def AttrCells (w : World) (b off : Nat) (l : List (ByteArray × Int)) : Prop := ∀ i, i < l.length → w.cell? ⟨b, off + i * 2, none⟩ = some (.string (arAt l i).1) ∧ w.cell? ⟨b, off + i * 2 + 1, none⟩ = some (.int .i64 (arAt l i).2)
def AttrAt (w : World) (a : Option Addr) (l : List (ByteArray × Int)) : Prop := l = [] ∨ ∃ b off, a = some ⟨b, off, none⟩ ∧ b < w.heap.size ∧ AttrCells w b off l
theorem AttrAt.below {w w' : World} {a : Option Addr} {l : List (ByteArray × Int)} (h : AttrAt w a l) (hw : Below w.heap.size w w') : AttrAt w' a l := by
  rcases h with h | ⟨b, off, h, hb, hc⟩
  · exact .inl h
  · exact .inr ⟨b, off, h, Nat.lt_of_lt_of_le hb hw.size, fun i hi => ⟨below_cell (hc i hi).1 hb hw, below_cell (hc i hi).2 hb hw⟩⟩
theorem AttrAt.cells {w : World} {a : Option Addr} {l : List (ByteArray × Int)} (h : AttrAt w a l) (hl : 0 < l.length) : ∃ b off, a = some ⟨b, off, none⟩ ∧ b < w.heap.size ∧ AttrCells w b off l := by
  rcases h with rfl | h
  · simp at hl
  · exact h
/-- the first value with a name -/
def atF : List (ByteArray × Int) → ByteArray → Int × Int
  | [], _ => (0, 6)
  | x :: l, s => if x.1 = s then (x.2, 0) else atF l s
theorem ar_drop (l : List (ByteArray × Int)) (k : Nat) (h : k < l.length) : l.drop k = arAt l k :: l.drop (k + 1) := by
  rw [arAt, List.drop_eq_getElem_cons h, List.getD_eq_getElem?_getD, List.getElem?_eq_getElem h]; rfl
theorem atF_hit {l : List (ByteArray × Int)} {k : Nat} {s : ByteArray} (h : k < l.length) (e : (arAt l k).1 = s) : atF (l.drop k) s = ((arAt l k).2, 0) := by rw [ar_drop l k h, atF, if_pos e]
theorem atF_go {l : List (ByteArray × Int)} {k : Nat} {s : ByteArray} (h : k < l.length) (e : ¬ (arAt l k).1 = s) : atF (l.drop k) s = atF (l.drop (k + 1)) s := by rw [ar_drop l k h, atF, if_neg e]
theorem atF_end {l : List (ByteArray × Int)} {k : Nat} {s : ByteArray} (h : ¬ k < l.length) : atF (l.drop k) s = (0, 6) := by rw [List.drop_of_length_le (by omega), atF]
set_option maxHeartbeats 800000 in
theorem attribute_any (l : List (ByteArray × Int)) (s : ByteArray) (a : Option Addr) (cap : Nat) (w : World) (ha : AttrAt w a l) (hl : l.length ≤ 140737488355328) : Calls Tryz.prog 50 #[.slice a l.length cap, .string s] w fun e w' => e = .returned (.tuple #[.int .i64 (atF l s).1, .int .i64 (atF l s).2]) ∧ Below w.heap.size w w' := by
  have HA := Lib.hid ha
  clear ha
  go_enter Tryz.func50, Tryz.ntmps50
  go_wp2_with fail
  go_loopw [10] (fun i wr => ∃ k : Nat, k ≤ l.length ∧ i = .int .i64 k ∧ Hid (atF l s = atF (l.drop k) s) ∧ Hid (Below w.heap.size w wr)) (fun i _ => l.length - (intOf i).toNat)
  case atStart => exact ⟨0, Nat.zero_le _, rfl, Lib.hid rfl, Lib.hid (Below.refl _ _)⟩
  case round =>
    obtain ⟨k, hk, rfl, hF, hB⟩ := hrel
    by_cases hlt : k < l.length
    · obtain ⟨b, off, rfl, hb, hcs⟩ := HA.out.cells (by omega)
      have c0 := below_cell (hcs k hlt).1 hb hB.out
      have c1 := below_cell (hcs k hlt).2 hb hB.out
      have hbr := Nat.lt_of_lt_of_le hb hB.out.size
      clear hcs
      by_cases e : (arAt l k).1 = s
      · have e' : ((arAt l k).1.toList == s.toList) = true := by rw [ba_toList_eq]; simpa using e
        have HE := Lib.hid (hF.out.trans (atF_hit hlt e))
        clear e
        go_wp2_with fail
        go_ret2
        exact ⟨ret_int2 (by rw [HE.out]) (by rw [HE.out]), Below.then hB.out (below_new _ _)⟩
      · have e' : ((arAt l k).1.toList == s.toList) = false := by rw [ba_toList_eq]; simpa using e
        have HE := Lib.hid (hF.out.trans (atF_go hlt e))
        have HB2 := Lib.hid (Below.then hB.out (below_new wr (Obj.cells #[.string (arAt l k).1, .int .i64 (arAt l k).2] 104)))
        clear e
        go_wp2_with fail
        go_roundw
        case rel => exact ⟨k + 1, by omega, by go_num, HE, HB2⟩
        case measure => simp [intOf]; omega
    · have HE := Lib.hid (hF.out.trans (atF_end hlt))
      obtain rfl : k = l.length := by omega
      go_wp2_with fail
      go_ret2
      exact ⟨ret_int2 (by rw [HE.out]) (by rw [HE.out]), hB.out⟩
end Go.Proofs.YtpgbckgjlgecpaaGreat
/- contract of the reference's find -/
namespace Go.Proofs.YtpgbckgjlgecpaaGreat
open Go.RowKit Go.Sort
set_option linter.unusedVariables false
set_option linter.unusedSimpArgs false
set_option maxRecDepth 100000
def FindPost (l : List (ByteArray × Int)) (s : ByteArray) (w : World) (e : Ending) (w' : World) : Prop := ∃ n : Int, e = .returned (.int .i64 n) ∧ ((n < 0 ∧ atF l s = (0, 6)) ∨ ∃ k : Nat, n = k ∧ k < l.length ∧ atF l s = ((arAt l k).2, 0)) ∧ w = w'
set_option maxHeartbeats 400000 in
theorem find_any (l : List (ByteArray × Int)) (s : ByteArray) (a : Option Addr) (cap : Nat) (w : World) (ha : AttrAt w a l) (hl : l.length ≤ 140737488355328) : Calls Tryz.prog 115 #[.slice a l.length cap, .string s] w (FindPost l s w) := by
  have HA := Lib.hid ha
  clear ha
  go_enter Tryz.func115, Tryz.ntmps115
  go_wp2_with fail
  go_loop [5] (fun i => ∃ k : Nat, k ≤ l.length ∧ i = .int .i64 k ∧ Hid (atF l s = atF (l.drop k) s)) (fun i => l.length - (intOf i).toNat)
  case atStart => exact ⟨0, Nat.zero_le _, rfl, Lib.hid rfl⟩
  case round =>
    obtain ⟨k, hk, rfl, hF⟩ := hrel
    by_cases hlt : k < l.length
    · obtain ⟨b, off, rfl, hb, hcs⟩ := HA.out.cells (by omega)
      have c0 := (hcs k hlt).1
      clear hcs
      by_cases e : (arAt l k).1 = s
      · have e' : ((arAt l k).1.toList == s.toList) = true := by rw [ba_toList_eq]; simpa using e
        have HE := Lib.hid (hF.out.trans (atF_hit hlt e))
        clear e
        go_wp2_with fail
        go_ret
        exact ⟨_, rfl, .inr ⟨k, rfl, hlt, HE.out⟩, rfl⟩
      · have e' : ((arAt l k).1.toList == s.toList) = false := by rw [ba_toList_eq]; simpa using e
        have HE := Lib.hid (hF.out.trans (atF_go hlt e))
        clear e
        go_wp2_with fail
        go_round
        case rel => exact ⟨k + 1, by omega, by go_num, HE⟩
        case measure => simp [intOf]; omega
    · have HE := Lib.hid (hF.out.trans (atF_end hlt))
      obtain rfl : k = l.length := by omega
      go_wp2_with fail
      go_ret
      exact ⟨_, rfl, .inl ⟨by decide, HE.out⟩, rfl⟩
end Go.Proofs.YtpgbckgjlgecpaaGreat
