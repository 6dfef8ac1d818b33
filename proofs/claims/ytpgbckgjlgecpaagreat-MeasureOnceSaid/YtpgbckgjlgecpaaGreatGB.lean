/- merged texts: Nw1 Nw2 Nw3 Nw4 Nw5 Nw6 Hz NwA -/
import Derived.Laws.OwnMore
import Derived.OrdersHeld
import Derived.StillTail
import Derived.Lib.Hide
import Derived.BigCall
import Derived.RegionTactic
import Derived.Deep.DeepCutAuto
import Derived.StillTailTactics
import Derived.Test.YtpgbckgjlgecpaaGreatG6
import Derived.Test.YtpgbckgjlgecpaaGreatG1
/- rows of compiled rules and costs, in memory -/
namespace Go.Proofs.YtpgbckgjlgecpaaGreat
open Go.RowKit Go.Sort
set_option linter.unusedVariables false
set_option linter.unusedSimpArgs false
set_option maxRecDepth 100000
/-- the cells of rules, one behind the other -/
inductive RRow (X : Nat → Prop) (w : World) : List Value → List (ByteArray × FormM) → Prop
  | nil : RRow X w [] []
  | snoc {cs : List Value} {rs : List (ByteArray × FormM)} {s : ByteArray} {f : FormM} {a : Option Addr} {cap : Nat} (h : RRow X w cs rs) (hs : s.size ≤ 140737488355328) (hl : f.args.length ≤ 140737488355328) (ha : FArgsAt X w a f.args) : RRow X w (cs ++ [.string s, .int .i64 f.op, .int .i64 f.num, .slice a f.args.length cap]) (rs ++ [(s, f)])
theorem RRow.len {X : Nat → Prop} {w : World} {cs : List Value} {rs : List (ByteArray × FormM)} (h : RRow X w cs rs) : cs.length = rs.length * 4 := by
  induction h with
  | nil => rfl
  | snoc h hs hl ha ih => simp [ih]; omega
theorem RRow.step {X X' : Nat → Prop} {w w' : World} {cs : List Value} {rs : List (ByteArray × FormM)} (h : RRow X w cs rs) (hs : w.heap.size ≤ w'.heap.size) (hw : ∀ b, b < w.heap.size → ¬ X b → w'.heap[b]? = w.heap[b]?) (hX : ∀ b, b < w.heap.size → X' b → X b) : RRow X' w' cs rs := by
  induction h with
  | nil => exact .nil
  | snoc h h1 h2 ha ih => exact .snoc ih h1 h2 (ha.step hs hw hX)
theorem ruAt_snoc_lt {rs : List (ByteArray × FormM)} {x : ByteArray × FormM} {i : Nat} (h : i < rs.length) : ruAt (rs ++ [x]) i = ruAt rs i := by
  unfold ruAt; rw [List.getD_eq_getElem?_getD, List.getD_eq_getElem?_getD, List.getElem?_append_left h]
theorem ruAt_snoc_eq {rs : List (ByteArray × FormM)} {x : ByteArray × FormM} : ruAt (rs ++ [x]) rs.length = x := by
  unfold ruAt; rw [List.getD_eq_getElem?_getD, List.getElem?_append_right (Nat.le_refl _), Nat.sub_self]; rfl
theorem RRow.at {X : Nat → Prop} {w : World} {cs : List Value} {rs : List (ByteArray × FormM)} (h : RRow X w cs rs) {b : Nat} {C : Array Value} {t : TypeId} (hC : w.heap[b]? = some (.cells C t (0, 0))) (hX : ¬ X b) (hcs : C.toList.take cs.length = cs) : ∀ i, i < rs.length → w.cell? ⟨b, 0 + i * 4, none⟩ = some (.string (ruAt rs i).1) ∧ (ruAt rs i).1.size ≤ 140737488355328 ∧ FormsAt X w b (0 + i * 4 + 1) [(ruAt rs i).2] := by
  have hb := lt_of_block hC
  induction h with
  | nil => intro i hi; simp at hi
  | @snoc cs rs s f a cap h h1 h2 ha ih =>
    have hlen := h.len
    have hpre : C.toList.take cs.length = cs := by
      have := congrArg (List.take cs.length) hcs
      rw [List.take_take] at this
      simpa using this
    have hg : ∀ j v, [Value.string s, .int .i64 f.op, .int .i64 f.num, .slice a f.args.length cap][j]? = some v → C[cs.length + j]? = some v := fun j v hv => by
      have hj : j < 4 := by
        have := (List.getElem?_eq_some_iff.1 hv).1
        simpa using this
      have e : (C.toList.take (cs ++ [Value.string s, .int .i64 f.op, .int .i64 f.num, .slice a f.args.length cap]).length)[cs.length + j]? = some v := by
        rw [hcs, List.getElem?_append_right (by omega), Nat.add_sub_cancel_left]; exact hv
      rw [List.getElem?_take, if_pos (by simp; omega)] at e
      simpa using e
    intro i hi
    by_cases e : i < rs.length
    · rw [ruAt_snoc_lt e]; exact ih hpre i e
    · obtain rfl : i = rs.length := by simp at hi; omega
      rw [ruAt_snoc_eq, Nat.zero_add, ← hlen]
      exact ⟨cellW (j := cs.length) hC (hg 0 _ rfl), h1, FormsAt.mk1 hb hX (cellW (j := cs.length + 1) hC (hg 1 _ rfl)) (cellW (j := cs.length + 2) hC (hg 2 _ rfl)) (cellW (j := cs.length + 3) hC (hg 3 _ rfl)) h2 ha⟩
/-- at the end: a row of rules that the call owns -/
theorem RRow.rules {w : World} {B : Nat} {T : TypeId} {v : Value} {cs : List Value} {rs : List (ByteArray × FormM)} (ho : w.ownsRow B T 4 v rs.length cs) (h : RRow noX w cs rs) : ∃ a cap, v = .slice a rs.length cap ∧ RulesRow w a rs := by
  rcases ho.2 with ⟨rfl, e⟩ | ⟨g, cap, cur, rfl, hb, hg, hn, hm, hs, ht⟩
  · exact ⟨none, 0, by rw [e], .inl (List.length_eq_zero_iff.1 e)⟩
  · refine ⟨_, cap, rfl, .inr ⟨g, 0, rfl, lt_of_block hg, h.at hg (fun h => h) ?_⟩⟩
    rw [h.len]; exact ht
theorem FRow.rows {w : World} {B : Nat} {T : TypeId} {v : Value} {cs : List Value} {fs : List FormM} (ho : w.ownsRow B T 3 v fs.length cs) (h : FRow noX w cs fs) : ∃ a cap, v = .slice a fs.length cap ∧ FArgsAt noX w a fs := by
  rcases ho.2 with ⟨rfl, e⟩ | ⟨g, cap, cur, rfl, hb, hg, hn, hm, hs, ht⟩
  · have e2 := List.length_eq_zero_iff.1 e
    subst e2
    exact ⟨none, 0, rfl, 0, 0, fun h => absurd rfl h, .nil _ _⟩
  · refine ⟨_, cap, rfl, g, 0, fun _ => rfl, h.forms hg (fun h => h) ?_⟩
    rw [h.len]; exact ht
theorem rulesL_snoc (c : ConM) (l : List RuleM) (r : RuleM) (k : Nat) : rulesL c (l ++ [r]) k = if r.scope = (k : Int) then rulesL c l k ++ [(r.name, cmpX c k r.ex)] else rulesL c l k := by
  unfold rulesL
  rw [List.filter_append]
  by_cases e : r.scope = (k : Int) <;> simp [e]
theorem costsL_snoc (c : ConM) (l : List CostM) (r : CostM) (k : Nat) : costsL c (l ++ [r]) k = if r.scope = (k : Int) then costsL c l k ++ [cmpX c k r.ex] else costsL c l k := by
  unfold costsL
  rw [List.filter_append]
  by_cases e : r.scope = (k : Int) <;> simp [e]
/-- blocks that the rows of compiled formulas do not use: old ones, and those of the four slices -/
def XV (B : Nat) (V : Nat → Value) (b : Nat) : Prop := b < B ∨ ∃ k, k < 9 ∧ (V k).ownBlock = some b
def upd (V : Nat → Value) (k : Nat) (v : Value) : Nat → Value := fun i => if i = k then v else V i
theorem upd_eq (V : Nat → Value) (k : Nat) (v : Value) : upd V k v k = v := if_pos rfl
theorem upd_ne (V : Nat → Value) {k i : Nat} (v : Value) (h : i ≠ k) : upd V k v i = V i := if_neg h
/-- the four slices lie apart -/
def ApartV (V : Nat → Value) : Prop := ∀ i j b, i < 9 → j < 9 → (V i).ownBlock = some b → (V j).ownBlock = some b → i = j
theorem XV_upd {B H : Nat} {V : Nat → Value} {k : Nat} {v : Value} (hk : k < 9) (hv : v.ownBlock = (V k).ownBlock ∨ v.ownBlock = some H) {b : Nat} (hb : b < H) (h : XV B (upd V k v) b) : XV B V b := by
  rcases h with h | ⟨i, hi, h⟩
  · exact .inl h
  · by_cases e : i = k
    · subst e
      rw [upd_eq] at h
      rcases hv with hv | hv
      · exact .inr ⟨i, hi, hv ▸ h⟩
      · rw [hv] at h; cases h; omega
    · rw [upd_ne _ _ e] at h; exact .inr ⟨i, hi, h⟩
theorem ApartV.upd {V : Nat → Value} {k H : Nat} {v : Value} (h : ApartV V) (hk : k < 9) (hlt : ∀ i b, i < 9 → (V i).ownBlock = some b → b < H) (hv : v.ownBlock = (V k).ownBlock ∨ v.ownBlock = some H) : ApartV (upd V k v) := by
  intro i j b hi hj h1 h2
  by_cases e1 : i = k
  · by_cases e2 : j = k
    · omega
    · subst e1
      rw [upd_eq] at h1
      rw [upd_ne _ _ e2] at h2
      rcases hv with hv | hv
      · rw [hv] at h1; exact h i j b hi hj h1 h2
      · rw [hv] at h1; cases h1
        have := hlt j _ hj h2; omega
  · by_cases e2 : j = k
    · subst e2
      rw [upd_eq] at h2
      rw [upd_ne _ _ e1] at h1
      rcases hv with hv | hv
      · rw [hv] at h2; exact h i j b hi hj h1 h2
      · rw [hv] at h2; cases h2
        have := hlt i _ hi h1; omega
    · rw [upd_ne _ _ e1] at h1
      rw [upd_ne _ _ e2] at h2
      exact h i j b hi hj h1 h2
end Go.Proofs.YtpgbckgjlgecpaaGreat
/- what the validation of a contract gives for its rules, costs and credit -/
namespace Go.Proofs.YtpgbckgjlgecpaaGreat
open Go.RowKit Go.Sort
set_option linter.unusedVariables false
set_option linter.unusedSimpArgs false
set_option maxRecDepth 100000
theorem expE_zero {r : Int × Int} {k : Int} (h : expE r k = 0) : r.2 = 0 ∧ r.1 = k := by
  unfold expE at h
  by_cases h1 : r.2 = 0
  · rw [if_pos h1] at h
    by_cases h2 : r.1 = k
    · exact ⟨h1, h2⟩
    · rw [if_neg h2] at h; omega
  · rw [if_neg h1] at h; exact absurd h h1
theorem typX_zero {l : List ConstM} {n : Nat} {sc : Int} {x : ExprM} (h : (typX l n sc x).2 = 0) : valE x = 0 ∧ typX l n sc x = tyE (lkC l n) sc x ∧ (tyE (lkC l n) sc x).2 = 0 := by
  unfold typX at *
  by_cases h1 : valE x ≠ 0
  · rw [if_pos h1] at h; exact absurd h h1
  · rw [if_neg h1] at h ⊢
    exact ⟨Classical.not_not.1 h1, rfl, h⟩
structure ValT (c : ConM) : Prop where
  g : valG c = 0
  r : ∀ i, i < c.rules.length → rErr c i = 0
  k : ∀ i, i < c.costs.length → kErr c i = 0
  x : ∀ i, i < c.credit.length → xErr c i = 0
theorem valT_parts {c : ConM} (h : valT c = 0) : ValT c := by
  unfold valT at h
  by_cases h1 : valG c ≠ 0
  · rw [if_pos h1] at h; exact absurd h h1
  rw [if_neg h1] at h
  by_cases h2 : fstE (cErr c.consts) 0 (c.consts.length - 0) ≠ 0
  · rw [if_pos h2] at h; exact absurd h h2
  rw [if_neg h2] at h
  by_cases h3 : fstE (rErr c) 0 (c.rules.length - 0) ≠ 0
  · rw [if_pos h3] at h; exact absurd h h3
  rw [if_neg h3] at h
  by_cases h4 : fstE (kErr c) 0 (c.costs.length - 0) ≠ 0
  · rw [if_pos h4] at h; exact absurd h h4
  rw [if_neg h4] at h
  exact ⟨Classical.not_not.1 h1, fun i hi => fstE_zero _ _ (Classical.not_not.1 h3) i (Nat.zero_le _) (by omega), fun i hi => fstE_zero _ _ (Classical.not_not.1 h4) i (Nat.zero_le _) (by omega), fun i hi => fstE_zero _ _ h i (Nat.zero_le _) (by omega)⟩
theorem valG_parts {c : ConM} (h : valG c = 0) : sizeB c = true ∧ valRs [] c.rules = 0 ∧ valKs c.costs = 0 ∧ valXs c.credit = 0 := by
  unfold valG at h
  by_cases h1 : rangeB c = false
  · rw [if_pos h1] at h; omega
  rw [if_neg h1] at h
  by_cases h2 : sizeB c = false
  · rw [if_pos h2] at h; omega
  rw [if_neg h2] at h
  by_cases h3 : valCs [] c.consts ≠ 0
  · rw [if_pos h3] at h; exact absurd h h3
  rw [if_neg h3] at h
  by_cases h4 : valRs [] c.rules ≠ 0
  · rw [if_pos h4] at h; exact absurd h h4
  rw [if_neg h4] at h
  by_cases h5 : valKs c.costs ≠ 0
  · rw [if_pos h5] at h; exact absurd h h5
  rw [if_neg h5] at h
  by_cases h6 : valXs c.credit ≠ 0
  · rw [if_pos h6] at h; exact absurd h h6
  exact ⟨by simpa using h2, Classical.not_not.1 h4, Classical.not_not.1 h5, Classical.not_not.1 h6⟩
theorem valRs_all : ∀ {l : List RuleM} {acc : List (Int × ByteArray)}, valRs acc l = 0 → ∀ r ∈ l, 1 ≤ r.scope ∧ r.scope ≤ 3
  | [], _, _, r, hr => by simp at hr
  | x :: l, acc, h, r, hr => by
    rw [valRs] at h
    by_cases h1 : (btwB x.scope 1 3 && isNameB x.name) = false
    · rw [if_pos h1] at h; omega
    rw [if_neg h1] at h
    by_cases h2 : hasR acc x.scope x.name = true
    · rw [if_pos h2] at h; omega
    rw [if_neg h2] at h
    by_cases h3 : valE x.ex ≠ 0
    · rw [if_pos h3] at h; exact absurd h h3
    rw [if_neg h3] at h
    rcases List.mem_cons.1 hr with rfl | hr
    · have : (btwB r.scope 1 3 && isNameB r.name) = true := by simpa using h1
      simp only [Bool.and_eq_true, btwB_iff] at this
      exact this.1
    · exact valRs_all h r hr
theorem valKs_all : ∀ {l : List CostM}, valKs l = 0 → ∀ r ∈ l, 1 ≤ r.scope ∧ r.scope ≤ 3
  | [], _, r, hr => by simp at hr
  | x :: l, h, r, hr => by
    rw [valKs] at h
    by_cases h1 : btwB x.scope 1 3 = false
    · rw [if_pos h1] at h; omega
    rw [if_neg h1] at h
    by_cases h3 : valE x.ex ≠ 0
    · rw [if_pos h3] at h; exact absurd h h3
    rw [if_neg h3] at h
    rcases List.mem_cons.1 hr with rfl | hr
    · have : btwB r.scope 1 3 = true := by simpa using h1
      exact btwB_iff.1 this
    · exact valKs_all h r hr
theorem rlAt_mem {l : List RuleM} {k : Nat} (h : k < l.length) : rlAt l k ∈ l := by
  unfold rlAt; rw [List.getD_eq_getElem?_getD, List.getElem?_eq_getElem h]; exact List.getElem_mem h
theorem coAt_mem {l : List CostM} {k : Nat} (h : k < l.length) : coAt l k ∈ l := by
  unfold coAt; rw [List.getD_eq_getElem?_getD, List.getElem?_eq_getElem h]; exact List.getElem_mem h
theorem take_rl (l : List RuleM) (k : Nat) (h : k < l.length) : l.take (k + 1) = l.take k ++ [rlAt l k] := by
  rw [List.take_succ_eq_append_getElem h, rlAt, List.getD_eq_getElem?_getD, List.getElem?_eq_getElem h]; rfl
theorem take_co (l : List CostM) (k : Nat) (h : k < l.length) : l.take (k + 1) = l.take k ++ [coAt l k] := by
  rw [List.take_succ_eq_append_getElem h, coAt, List.getD_eq_getElem?_getD, List.getElem?_eq_getElem h]; rfl
/-- what Compile asks of a rule's expression -/
theorem rule_ok {c : ConM} (h : valT c = 0) {i : Nat} (hi : i < c.rules.length) : ∃ k : Nat, (rlAt c.rules i).scope = k ∧ 1 ≤ k ∧ k ≤ 3 ∧ wfE (rlAt c.rules i).ex = true ∧ cntE (rlAt c.rules i).ex ≤ 200 ∧ (tyE (lkC c.consts c.consts.length) k (rlAt c.rules i).ex).2 = 0 := by
  have hp := valT_parts h
  have hs := valRs_all (valG_parts hp.g).2.1 _ (rlAt_mem hi)
  obtain ⟨h1, h2⟩ := expE_zero (hp.r i hi)
  obtain ⟨h3, _, h4⟩ := typX_zero h1
  obtain ⟨k, hk⟩ := Int.eq_ofNat_of_zero_le (show 0 ≤ (rlAt c.rules i).scope by omega)
  rw [hk] at h4
  exact ⟨k, hk, by omega, by omega, (valE_ok h3).1, (valE_ok h3).2.1, h4⟩
theorem cost_ok {c : ConM} (h : valT c = 0) {i : Nat} (hi : i < c.costs.length) : ∃ k : Nat, (coAt c.costs i).scope = k ∧ 1 ≤ k ∧ k ≤ 3 ∧ wfE (coAt c.costs i).ex = true ∧ cntE (coAt c.costs i).ex ≤ 200 ∧ (tyE (lkC c.consts c.consts.length) k (coAt c.costs i).ex).2 = 0 := by
  have hp := valT_parts h
  have hs := valKs_all (valG_parts hp.g).2.2.1 _ (coAt_mem hi)
  obtain ⟨h1, h2⟩ := expE_zero (hp.k i hi)
  obtain ⟨h3, _, h4⟩ := typX_zero h1
  obtain ⟨k, hk⟩ := Int.eq_ofNat_of_zero_le (show 0 ≤ (coAt c.costs i).scope by omega)
  rw [hk] at h4
  exact ⟨k, hk, by omega, by omega, (valE_ok h3).1, (valE_ok h3).2.1, h4⟩
theorem credit_ok {c : ConM} (h : valT c = 0) {i : Nat} (hi : i < c.credit.length) : wfE (eAt c.credit i) = true ∧ cntE (eAt c.credit i) ≤ 200 ∧ (tyE (lkC c.consts c.consts.length) 1 (eAt c.credit i)).2 = 0 := by
  have hp := valT_parts h
  obtain ⟨h1, h2⟩ := expE_zero (hp.x i hi)
  obtain ⟨h3, _, h4⟩ := typX_zero h1
  exact ⟨(valE_ok h3).1, (valE_ok h3).2.1, h4⟩
end Go.Proofs.YtpgbckgjlgecpaaGreat
/- the invariant of New's loops -/
namespace Go.Proofs.YtpgbckgjlgecpaaGreat
open Go.RowKit Go.Sort
set_option linter.unusedVariables false
set_option linter.unusedSimpArgs false
set_option maxRecDepth 100000
/-- what New has at hand -/
structure NwP where
  t : TTM
  c : ConM
  za : Option Addr
  zc : Nat
  aa : Option Addr
  ac : Nat
  fa : Option Addr
  fc : Nat
  p : ConP
  zb : Nat
  sb : Nat
  cb : Nat
  kp : Nat
  ib : Nat
  vb : Nat
  ps : List Nat
  B : Nat
  BASE : Nat
def sbA (n : NwP) (U : Nat → Value) (nb : Bool) : Array Value := #[.slice n.za n.t.zones.length n.zc, .slice n.aa n.t.airs.length n.ac, .slice n.fa n.t.fls.length n.fc, .int .i64 n.c.report, .int .i64 n.c.release, .int .i64 n.c.connect, .int .i64 n.c.sit, .int .i64 n.c.layover, .int .i64 n.c.nf, .int .i64 n.c.nt, .slice n.p.ca n.c.consts.length n.p.cc, .slice n.p.ra n.c.rules.length n.p.rc, .slice n.p.ka n.c.costs.length n.p.kc, .slice n.p.xa n.c.credit.length n.p.xc, .slice n.p.la n.c.lims.length n.p.lc, .slice n.p.oa n.c.offs.length n.p.oc, .int .i64 n.c.guar, .map (some n.zb), U 0, U 1, U 2, U 3, U 4, U 5, U 6, U 7, U 8, .bool nb]
theorem sbA_set (n : NwP) (U : Nat → Value) (nb : Bool) {k : Nat} (hk : k < 9) (v : Value) : (sbA n U nb).setIfInBounds (18 + k) v = sbA n (upd U k v) nb := by
  rcases k with _ | _ | _ | _ | _ | _ | _ | _ | _ | k
  all_goals first | omega | (simp [sbA, upd])
theorem sbA_at (n : NwP) (U : Nat → Value) (nb : Bool) {k : Nat} (hk : k < 9) : (sbA n U nb)[18 + k]? = some (U k) := by
  rcases k with _ | _ | _ | _ | _ | _ | _ | _ | _ | k
  all_goals first | omega | rfl
structure NInv (n : NwP) (w w6 wr : World) (U : Nat → Value) (L : Nat → List (ByteArray × FormM)) (M : Nat → List FormM) (nb : Bool) : Prop where
  box : wr.heap[n.sb]? = some (.cells (sbA n U nb) 146 (0, 0))
  rul : ∀ k, k < 4 → ∃ cs, wr.ownsRow n.BASE 153 4 (U k) (L k).length cs ∧ RRow (XV n.BASE U) wr cs (L k)
  cos : ∀ k, k < 5 → ∃ cs, wr.ownsRow n.BASE 150 3 (U (4 + k)) (M k).length cs ∧ FRow (XV n.BASE U) wr cs (M k)
  apart : ApartV U
  cmp : CompAt n.B wr n.kp n.ib n.vb n.ps n.c.consts n.p.ca n.p.cc
  con : wr.heap[n.cb]? = some (.cells (conVals n.c n.p) 34 (0, 0))
  mz : wr.heap[n.zb]? = w6.heap[n.zb]?
  zlt : n.zb < n.BASE
  bel : Below n.B w wr
  size : n.BASE ≤ wr.heap.size
  bs : n.B ≤ n.BASE
  fix : n.sb < n.BASE ∧ n.cb < n.BASE ∧ n.kp < n.BASE ∧ n.ib < n.BASE ∧ n.vb < n.BASE ∧ (∀ k, k < 4 → pAt n.ps k < n.BASE) ∧ n.B ≤ n.sb ∧ n.B ≤ n.vb
  ne : n.sb ≠ n.vb ∧ n.sb ≠ n.cb ∧ n.sb ≠ n.zb ∧ n.sb ≠ n.kp ∧ n.sb ≠ n.ib ∧ (∀ k, k < 4 → pAt n.ps k ≠ n.sb) ∧ n.cb ≠ n.vb ∧ n.zb ≠ n.vb
theorem NInv.owns {n : NwP} {w w6 wr : World} {U : Nat → Value} {L : Nat → List (ByteArray × FormM)} {M : Nat → List FormM} {nb : Bool} (h : NInv n w w6 wr U L M nb) {k : Nat} (hk : k < 9) {b : Nat} (hb : (U k).ownBlock = some b) : n.BASE ≤ b ∧ b < wr.heap.size := by
  by_cases e : k < 4
  · obtain ⟨cs, ho, _⟩ := h.rul k e
    exact ho.lt b hb
  · obtain ⟨cs, ho, _⟩ := h.cos (k - 4) (by omega)
    rw [show 4 + (k - 4) = k by omega] at ho
    exact ho.lt b hb
/-- worlds that agree on the blocks that matter -/
theorem NInv.move {n : NwP} {w w6 wr w' : World} {U : Nat → Value} {L : Nat → List (ByteArray × FormM)} {M : Nat → List FormM} {nb : Bool} (h : NInv n w w6 wr U L M nb) (hg : wr.grownBy w' (some n.vb)) (hc : CompAt n.B w' n.kp n.ib n.vb n.ps n.c.consts n.p.ca n.p.cc) : NInv n w w6 w' U L M nb := by
  obtain ⟨f1, f2, f3, f4, f5, f6, f7, f8⟩ := h.fix
  obtain ⟨e1, e2, e3, e4, e5, e6, e7, e8⟩ := h.ne
  have hsz := h.size
  have hX : ∀ b, b < wr.heap.size → ¬ XV n.BASE U b → w'.heap[b]? = wr.heap[b]? := fun b hb hx => hg.block b hb (by simp; intro e; exact hx (.inl (by omega)))
  have hne : ∀ k, k < 9 → (U k).ownBlock = none ∨ (U k).ownBlock ≠ some n.vb := fun k hk => .inr (fun e => by have := h.owns hk e; omega)
  refine ⟨(hg.block _ (lt_of_block h.box) (by simp; omega)).trans h.box, fun k hk => ?_, fun k hk => ?_, h.apart, hc, (hg.block _ (lt_of_block h.con) (by simp; omega)).trans h.con, (hg.block _ (Nat.lt_of_lt_of_le h.zlt h.size) (by simp; omega)).trans h.mz, h.zlt, h.bel.grown hg (Nat.le_trans h.bs h.size) (fun j hj => by cases hj; exact f8), Nat.le_trans h.size hg.size, h.bs, h.fix, h.ne⟩
  · obtain ⟨cs, h1, h2⟩ := h.rul k hk
    exact ⟨cs, h1.kept hg (hne k (by omega)), h2.step hg.size hX (fun _ _ h => h)⟩
  · obtain ⟨cs, h1, h2⟩ := h.cos k hk
    exact ⟨cs, h1.kept hg (hne (4 + k) (by omega)), h2.step hg.size hX (fun _ _ h => h)⟩
theorem NInv.below {n : NwP} {w w6 wr w' : World} {U : Nat → Value} {L : Nat → List (ByteArray × FormM)} {M : Nat → List FormM} {nb : Bool} (h : NInv n w w6 wr U L M nb) (hb : Below wr.heap.size wr w') : NInv n w w6 w' U L M nb := h.move (grown_below _ hb) (h.cmp.below hb)
theorem XV_updG {B S : Nat} {V : Nat → Value} {k : Nat} {v : Value} (hk : k < 9) (hv : v.ownBlock = (V k).ownBlock ∨ ∃ H, S ≤ H ∧ v.ownBlock = some H) {b : Nat} (hb : b < S) (h : XV B (upd V k v) b) : XV B V b := by
  rcases hv with hv | ⟨H, hH, hv⟩
  · exact XV_upd (H := b + 1) hk (.inl hv) (by omega) h
  · exact XV_upd (H := H) hk (.inr hv) (by omega) h
theorem apart_updG {V : Nat → Value} {k S : Nat} {v : Value} (h : ApartV V) (hk : k < 9) (hlt : ∀ i b, i < 9 → (V i).ownBlock = some b → b < S) (hv : v.ownBlock = (V k).ownBlock ∨ ∃ H, S ≤ H ∧ v.ownBlock = some H) : ApartV (upd V k v) := by
  rcases hv with hv | ⟨H, hH, hv⟩
  · exact h.upd (H := S) hk hlt (.inl hv)
  · exact h.upd (H := H) hk (fun i b hi hb => by have := hlt i b hi hb; omega) (.inr hv)
/-- a slice grows, and its header is stored: what stays -/
structure Grew (n : NwP) (w2 w3 : World) (U : Nat → Value) (k : Nat) (v : Value) : Prop where
  grow : w2.grownBy w3 (U k).ownBlock
  at' : v.ownBlock = (U k).ownBlock ∨ ∃ H, w2.heap.size ≤ H ∧ v.ownBlock = some H
theorem Grew.block {n : NwP} {w w6 w2 w3 : World} {U : Nat → Value} {L : Nat → List (ByteArray × FormM)} {M : Nat → List FormM} {nb : Bool} {k : Nat} {v : Value} (h : NInv n w w6 w2 U L M nb) (hk : k < 9) (G : Grew n w2 w3 U k v) {b : Nat} (hb : b < w2.heap.size) (h1 : (U k).ownBlock ≠ some b) (h2 : b ≠ n.sb) : (w3.setCell ⟨n.sb, 18 + k, none⟩ v).heap[b]? = w2.heap[b]? := by
  rw [Below.heap_setCell _ _ _ _ h2, G.grow.block b hb (Ne.symm h1)]
theorem NInv.grew {n : NwP} {w w6 w2 w3 : World} {U : Nat → Value} {L L' : Nat → List (ByteArray × FormM)} {M M' : Nat → List FormM} {nb : Bool} {k : Nat} {v : Value} (h : NInv n w w6 w2 U L M nb) (hk : k < 9) (G : Grew n w2 w3 U k v)
    (hL : ∀ i, i < 4 → i ≠ k → L' i = L i) (hM : ∀ i, i < 5 → 4 + i ≠ k → M' i = M i)
    (hnewR : k < 4 → ∃ cs, (w3.setCell ⟨n.sb, 18 + k, none⟩ v).ownsRow n.BASE 153 4 v (L' k).length cs ∧ RRow (XV n.BASE (upd U k v)) (w3.setCell ⟨n.sb, 18 + k, none⟩ v) cs (L' k))
    (hnewF : 4 ≤ k → ∃ cs, (w3.setCell ⟨n.sb, 18 + k, none⟩ v).ownsRow n.BASE 150 3 v (M' (k - 4)).length cs ∧ FRow (XV n.BASE (upd U k v)) (w3.setCell ⟨n.sb, 18 + k, none⟩ v) cs (M' (k - 4))) :
    NInv n w w6 (w3.setCell ⟨n.sb, 18 + k, none⟩ v) (upd U k v) L' M' nb := by
  obtain ⟨f1, f2, f3, f4, f5, f6, f7, f8⟩ := h.fix
  obtain ⟨e1, e2, e3, e4, e5, e6, e7, e8⟩ := h.ne
  have hsz := h.size
  have hown : ∀ b, (U k).ownBlock = some b → n.BASE ≤ b ∧ b < w2.heap.size := fun b hb => h.owns hk hb
  have hold : ∀ b, b < n.BASE → (U k).ownBlock ≠ some b := fun b hb e => by have := hown b e; omega
  have hs3 : w2.heap.size ≤ w3.heap.size := G.grow.size
  have hs4 : w2.heap.size ≤ (w3.setCell ⟨n.sb, 18 + k, none⟩ v).heap.size := by simpa using hs3
  have hX : ∀ b, b < w2.heap.size → ¬ XV n.BASE U b → (w3.setCell ⟨n.sb, 18 + k, none⟩ v).heap[b]? = w2.heap[b]? := fun b hb hx => G.block h hk hb (fun e => hx (.inr ⟨k, hk, e⟩)) (fun e => hx (.inl (by omega)))
  have hX' : ∀ b, b < w2.heap.size → XV n.BASE (upd U k v) b → XV n.BASE U b := fun b hb hx => XV_updG hk G.at' hb hx
  have hg : w2.grownBy w3 (U k).ownBlock := G.grow
  have hgs : w3.grownBy (w3.setCell ⟨n.sb, 18 + k, none⟩ v) (some n.sb) := Lib.grownBy_setCell w3 n.sb (18 + k) v
  have hrow : ∀ i, i < 9 → i ≠ k → ∀ {T : TypeId} {s m : Nat} {cs : List Value}, w2.ownsRow n.BASE T s (U i) m cs → (w3.setCell ⟨n.sb, 18 + k, none⟩ v).ownsRow n.BASE T s (U i) m cs := by
    intro i hi hik T s m cs ho
    have h1 : w3.ownsRow n.BASE T s (U i) m cs := ho.kept hg (by
      cases hb : (U i).ownBlock with
      | none => exact .inl rfl
      | some b => exact .inr (fun e => hik (h.apart i k b hi hk hb e.symm)))
    exact h1.kept hgs (.inr (fun e => by have := h.owns hi e; omega))
  have hbox : w3.heap[n.sb]? = some (.cells (sbA n U nb) 146 (0, 0)) := by
    rw [hg.block _ (lt_of_block h.box) (Ne.symm (hold _ f1))]; exact h.box
  refine ⟨?_, fun i hi => ?_, fun i hi => ?_, apart_updG h.apart hk (fun i b hi hb => (h.owns hi hb).2) G.at', ?_, ?_, ?_, h.zlt, ?_, Nat.le_trans h.size hs4, h.bs, h.fix, h.ne⟩
  · rw [block_setCell hbox, sbA_set n U nb hk v]
  · by_cases e : i = k
    · subst e; rw [upd_eq]; exact hnewR hi
    · obtain ⟨cs, h1, h2⟩ := h.rul i hi
      rw [upd_ne _ _ e, hL i hi e]
      exact ⟨cs, hrow i (by omega) e h1, h2.step hs4 hX hX'⟩
  · by_cases e : 4 + i = k
    · have hk4 : k - 4 = i := by omega
      have := hnewF (by omega)
      rw [hk4] at this
      subst e; rw [upd_eq]; exact this
    · obtain ⟨cs, h1, h2⟩ := h.cos i hi
      rw [upd_ne _ _ e, hM i hi e]
      exact ⟨cs, hrow (4 + i) (by omega) e h1, h2.step hs4 hX hX'⟩
  · refine (h.cmp.other hg (fun j hj => by have := hown j hj; have := h.bs; omega) (Ne.symm (hold _ f3)) (Ne.symm (hold _ f4)) (Ne.symm (hold _ f5)) (fun k hk => Ne.symm (hold _ (f6 k hk)))).other hgs (fun j hj => by cases hj; exact f7) (by simp; omega) (by simp; omega) (by simp; omega) (fun k hk => by simp; exact e6 k hk)
  · rw [G.block h hk (lt_of_block h.con) (hold _ f2) (by omega)]; exact h.con
  · rw [G.block h hk (Nat.lt_of_lt_of_le h.zlt h.size) (hold _ h.zlt) (by omega)]; exact h.mz
  · exact (h.bel.grown hg (Nat.le_trans h.bs h.size) (fun j hj => by have := hown j hj; have := h.bs; omega)).setCell (p := ⟨n.sb, 18 + k, none⟩) f7 _
end Go.Proofs.YtpgbckgjlgecpaaGreat
/- the steps of New's loops -/
namespace Go.Proofs.YtpgbckgjlgecpaaGreat
open Go.RowKit Go.Sort
set_option linter.unusedVariables false
set_option linter.unusedSimpArgs false
set_option maxRecDepth 100000
def updL {A : Type} (L : Nat → List A) (k : Nat) (x : A) : Nat → List A := fun i => if i = k then L i ++ [x] else L i
theorem updL_eq {A : Type} (L : Nat → List A) (k : Nat) (x : A) : updL L k x k = L k ++ [x] := if_pos rfl
theorem updL_ne {A : Type} (L : Nat → List A) {k i : Nat} (x : A) (h : i ≠ k) : updL L k x i = L i := if_neg h
theorem NInv.rule {n : NwP} {w w6 w1 w2 w3 : World} {U : Nat → Value} {L : Nat → List (ByteArray × FormM)} {M : Nat → List FormM} {nb : Bool} {k : Nat} {v : Value} {f : FormM} {fa : Option Addr} {fc : Nat} {cs : List Value} {s : ByteArray} (h1 : NInv n w w6 w1 U L M nb) (hk : k < 4) (hs : s.size ≤ 140737488355328) (hg2 : w1.grownBy w2 (some n.vb)) (hC2 : CompAt n.B w2 n.kp n.ib n.vb n.ps n.c.consts n.p.ca n.p.cc) (hr : RRow (XV n.BASE U) w2 cs (L k)) (hFA : FArgsAt (fun b => b < w1.heap.size) w2 fa f.args) (hfl : f.args.length ≤ 200) (G : Grew n w2 w3 U k v) (hown : w3.ownsRow n.BASE 153 4 v ((L k).length + 1) (cs ++ [.string s, .int .i64 f.op, .int .i64 f.num, .slice fa f.args.length fc])) : NInv n w w6 (w3.setCell ⟨n.sb, 18 + k, none⟩ v) (upd U k v) (updL L k (s, f)) M nb := by
  have h2 := h1.move hg2 hC2
  have hk9 : k < 9 := by omega
  have hs2 := hg2.size
  have hsz1 := h1.size
  obtain ⟨f1, f2, f3, f4, f5, f6, f7, f8⟩ := h2.fix
  have hs3 : w2.heap.size ≤ w3.heap.size := G.grow.size
  have hs4 : w2.heap.size ≤ (w3.setCell ⟨n.sb, 18 + k, none⟩ v).heap.size := by simpa using hs3
  have hX : ∀ b, b < w2.heap.size → ¬ XV n.BASE U b → (w3.setCell ⟨n.sb, 18 + k, none⟩ v).heap[b]? = w2.heap[b]? := fun b hb hx => G.block h2 hk9 hb (fun e => hx (.inr ⟨k, hk9, e⟩)) (fun e => hx (.inl (by omega)))
  have hX' : ∀ b, b < w2.heap.size → XV n.BASE (upd U k v) b → XV n.BASE U b := fun b hb hx => XV_updG hk9 G.at' hb hx
  have hA := hFA.step (X' := XV n.BASE (upd U k v)) (w' := w3.setCell ⟨n.sb, 18 + k, none⟩ v) hs4 (fun b hb hx => G.block h2 hk9 hb (fun e => by have := (h1.owns hk9 e).2; omega) (fun e => by omega)) (fun b hb hx => by
    rcases hX' b hb hx with h | ⟨i, hi, h⟩
    · show b < w1.heap.size; omega
    · exact (h1.owns hi h).2)
  have hO := hown.kept (Lib.grownBy_setCell w3 n.sb (18 + k) v) (.inr (fun e => by
    rcases G.at' with h | ⟨H, hH, h⟩
    · rw [h] at e; have := h1.owns hk9 e; omega
    · rw [h] at e; have e' := Option.some.inj e; omega))
  refine h2.grew hk9 G (fun i hi hne => updL_ne L _ hne) (fun i hi hne => rfl) (fun hlt => ?_) (fun hge => ?_)
  · rw [updL_eq, List.length_append]
    exact ⟨_, hO, .snoc (hr.step hs4 hX hX') hs (by omega) hA⟩
  · omega
theorem NInv.cost {n : NwP} {w w6 w1 w2 w3 : World} {U : Nat → Value} {L : Nat → List (ByteArray × FormM)} {M : Nat → List FormM} {nb : Bool} {k : Nat} {v : Value} {f : FormM} {fa : Option Addr} {fc : Nat} {cs : List Value} (h1 : NInv n w w6 w1 U L M nb) (hk : k < 5) (hg2 : w1.grownBy w2 (some n.vb)) (hC2 : CompAt n.B w2 n.kp n.ib n.vb n.ps n.c.consts n.p.ca n.p.cc) (hr : FRow (XV n.BASE U) w2 cs (M k)) (hFA : FArgsAt (fun b => b < w1.heap.size) w2 fa f.args) (hfl : f.args.length ≤ 200) (G : Grew n w2 w3 U (4 + k) v) (hown : w3.ownsRow n.BASE 150 3 v ((M k).length + 1) (cs ++ [.int .i64 f.op, .int .i64 f.num, .slice fa f.args.length fc])) : NInv n w w6 (w3.setCell ⟨n.sb, 18 + (4 + k), none⟩ v) (upd U (4 + k) v) L (updL M k f) nb := by
  have h2 := h1.move hg2 hC2
  have hk9 : (4 + k) < 9 := by omega
  have hs2 := hg2.size
  have hsz1 := h1.size
  obtain ⟨f1, f2, f3, f4, f5, f6, f7, f8⟩ := h2.fix
  have hs3 : w2.heap.size ≤ w3.heap.size := G.grow.size
  have hs4 : w2.heap.size ≤ (w3.setCell ⟨n.sb, 18 + (4 + k), none⟩ v).heap.size := by simpa using hs3
  have hX : ∀ b, b < w2.heap.size → ¬ XV n.BASE U b → (w3.setCell ⟨n.sb, 18 + (4 + k), none⟩ v).heap[b]? = w2.heap[b]? := fun b hb hx => G.block h2 hk9 hb (fun e => hx (.inr ⟨(4 + k), hk9, e⟩)) (fun e => hx (.inl (by omega)))
  have hX' : ∀ b, b < w2.heap.size → XV n.BASE (upd U (4 + k) v) b → XV n.BASE U b := fun b hb hx => XV_updG hk9 G.at' hb hx
  have hA := hFA.step (X' := XV n.BASE (upd U (4 + k) v)) (w' := w3.setCell ⟨n.sb, 18 + (4 + k), none⟩ v) hs4 (fun b hb hx => G.block h2 hk9 hb (fun e => by have := (h1.owns hk9 e).2; omega) (fun e => by omega)) (fun b hb hx => by
    rcases hX' b hb hx with h | ⟨i, hi, h⟩
    · show b < w1.heap.size; omega
    · exact (h1.owns hi h).2)
  have hO := hown.kept (Lib.grownBy_setCell w3 n.sb (18 + (4 + k)) v) (.inr (fun e => by
    rcases G.at' with h | ⟨H, hH, h⟩
    · rw [h] at e; have := h1.owns hk9 e; omega
    · rw [h] at e; have e' := Option.some.inj e; omega))
  refine h2.grew hk9 G (fun i hi hne => rfl) (fun i hi hne => updL_ne M _ (by omega)) (fun hlt => ?_) (fun hge => ?_)
  · omega
  · rw [Nat.add_sub_cancel_left, updL_eq, List.length_append]
    exact ⟨_, hO, .snoc (hr.step hs4 hX hX') (by omega) hA⟩
end Go.Proofs.YtpgbckgjlgecpaaGreat
/- a row's last formula is filled in -/
namespace Go.Proofs.YtpgbckgjlgecpaaGreat
open Go.RowKit Go.Sort
set_option linter.unusedVariables false
set_option linter.unusedSimpArgs false
set_option maxRecDepth 100000
theorem modify_comm {A : Type} (xs : Array A) {i j : Nat} (f g : A → A) (h : i ≠ j) : (xs.modify i f).modify j g = (xs.modify j g).modify i f := by
  apply Array.ext
  · simp
  · intro k h1 h2
    simp only [Array.getElem_modify]
    by_cases e1 : i = k
    · subst e1; rw [if_neg (Ne.symm h), if_pos rfl, if_pos rfl, if_neg (Ne.symm h)]
    · by_cases e2 : j = k
      · rw [if_pos e2, if_neg e1, if_neg e1, if_pos e2]
      · rw [if_neg e2, if_neg e1, if_neg e1, if_neg e2]
theorem setCell_comm (w : World) {a b : Addr} (u v : Value) (h : a.block ≠ b.block) : (w.setCell a u).setCell b v = (w.setCell b v).setCell a u := by
  obtain ⟨F, hF⟩ : ∃ F : Obj → Obj, ∀ w : World, w.setCell a u = { w with heap := w.heap.modify a.block F } := ⟨_, fun w => rfl⟩
  obtain ⟨G, hG⟩ : ∃ G : Obj → Obj, ∀ w : World, w.setCell b v = { w with heap := w.heap.modify b.block G } := ⟨_, fun w => rfl⟩
  rw [hF, hG, hG, hF]
  show ({ w with heap := (w.heap.modify a.block F).modify b.block G } : World) = { w with heap := (w.heap.modify b.block G).modify a.block F }
  rw [modify_comm _ F G h]
theorem set3_sb (w : World) {g sb : Nat} (h : g ≠ sb) (a b c d : Nat) (x y z v : Value) : (((w.setCell ⟨g, a, none⟩ x).setCell ⟨g, b, none⟩ y).setCell ⟨g, c, none⟩ z).setCell ⟨sb, d, none⟩ v = (((w.setCell ⟨sb, d, none⟩ v).setCell ⟨g, a, none⟩ x).setCell ⟨g, b, none⟩ y).setCell ⟨g, c, none⟩ z := by
  rw [setCell_comm _ z v (a := ⟨g, c, none⟩) (b := ⟨sb, d, none⟩) h, setCell_comm _ y v (a := ⟨g, b, none⟩) (b := ⟨sb, d, none⟩) h, setCell_comm _ x v (a := ⟨g, a, none⟩) (b := ⟨sb, d, none⟩) h]
theorem FRow.last {X : Nat → Prop} {w : World} {cs : List Value} {fs : List FormM} {z : FormM} (h : FRow X w cs (fs ++ [z])) : ∃ cs0 a cap, cs = cs0 ++ [.int .i64 z.op, .int .i64 z.num, .slice a z.args.length cap] ∧ FRow X w cs0 fs := by
  generalize e : fs ++ [z] = l at h
  cases h with
  | nil => simp at e
  | @snoc cs fs' f a cap h hl ha =>
    obtain ⟨rfl, e2⟩ := List.append_inj' e rfl
    cases e2
    exact ⟨cs, a, cap, rfl, h⟩
theorem set3 (cs : List Value) (a b c x y z : Value) : (((cs ++ [a, b, c]).set cs.length x).set (cs.length + 1) y).set (cs.length + 2) z = cs ++ [x, y, z] := by
  simp [List.set_append]
theorem NInv.fill {n : NwP} {w w6 wr : World} {U : Nat → Value} {L : Nat → List (ByteArray × FormM)} {M : Nat → List FormM} {nb : Bool} {k g cap : Nat} {f : FormM} {fa : Option Addr} {fc : Nat} (h : NInv n w w6 wr U L (updL M k (.mk 0 0 [])) nb) (hk : k < 5) (hU : U (4 + k) = .slice (some ⟨g, 0, none⟩) ((M k).length + 1) cap) (hfl : f.args.length ≤ 200) (hFA : FArgsAt (XV n.BASE U) wr fa f.args) :
    NInv n w w6 (((wr.setCell ⟨g, (M k).length * 3, none⟩ (.int .i64 f.op)).setCell ⟨g, (M k).length * 3 + 1, none⟩ (.int .i64 f.num)).setCell ⟨g, (M k).length * 3 + 2, none⟩ (.slice fa f.args.length fc)) U L (updL M k f) nb := by
  obtain ⟨f1, f2, f3, f4, f5, f6, f7, f8⟩ := h.fix
  have hk9 : 4 + k < 9 := by omega
  have hob : (U (4 + k)).ownBlock = some g := by rw [hU]; rfl
  have hgo := h.owns hk9 hob
  have hsz := h.size
  obtain ⟨cs, hown, hrow⟩ := h.cos k hk
  rw [updL_eq] at hown hrow
  obtain ⟨cs0, za, zc, rfl, hrow0⟩ := hrow.last
  have hl0 := hrow0.len
  rw [hU, List.length_append, show ([FormM.mk 0 0 []] : List FormM).length = 1 from rfl] at hown
  have o1 := (hown.stored (cs0.length) (.int .i64 f.op)).1
  have o2 := (o1.stored (cs0.length + 1) (.int .i64 f.num)).1
  have o3 := (o2.stored (cs0.length + 2) (.slice fa f.args.length fc)).1
  rw [set3, hl0] at o3
  obtain ⟨w', hw'⟩ : ∃ w', w' = ((wr.setCell ⟨g, (M k).length * 3, none⟩ (.int .i64 f.op)).setCell ⟨g, (M k).length * 3 + 1, none⟩ (.int .i64 f.num)).setCell ⟨g, (M k).length * 3 + 2, none⟩ (.slice fa f.args.length fc) := ⟨_, rfl⟩
  have hg : wr.grownBy w' (some g) := by
    rw [hw']
    exact Lib.grownBy_trans (Lib.grownBy_trans (Lib.grownBy_setCell wr g _ _) (Lib.grownBy_setCell _ g _ _)) (Lib.grownBy_setCell _ g _ _)
  rw [← hw'] at o3 ⊢
  clear o1 o2 hw' hown hrow
  have hblk : ∀ b, b < wr.heap.size → b ≠ g → w'.heap[b]? = wr.heap[b]? := fun b hb e => hg.block b hb (by simpa using e)
  have hX : ∀ b, b < wr.heap.size → ¬ XV n.BASE U b → w'.heap[b]? = wr.heap[b]? := fun b hb hx => hblk b hb (fun e => hx (.inr ⟨4 + k, hk9, by rw [hob, e]⟩))
  have hkeep : ∀ i, i < 9 → i ≠ 4 + k → ∀ {T : TypeId} {s m : Nat} {xs : List Value}, wr.ownsRow n.BASE T s (U i) m xs → w'.ownsRow n.BASE T s (U i) m xs := fun i hi hne {T s m xs} ho => ho.kept hg (.inr (fun e => hne (h.apart i (4 + k) g hi hk9 e hob)))
  refine ⟨(hblk _ (lt_of_block h.box) (by omega)).trans h.box, fun i hi => ?_, fun i hi => ?_, h.apart, ?_, (hblk _ (lt_of_block h.con) (by omega)).trans h.con, (hblk _ (Nat.lt_of_lt_of_le h.zlt h.size) (by have := h.zlt; omega)).trans h.mz, h.zlt, h.bel.grown hg (Nat.le_trans h.bs h.size) (fun j hj => by cases hj; have := h.bs; omega), Nat.le_trans h.size hg.size, h.bs, h.fix, h.ne⟩
  · obtain ⟨cs, h1, h2⟩ := h.rul i hi
    exact ⟨cs, hkeep i (by omega) (by omega) h1, h2.step hg.size hX (fun _ _ h => h)⟩
  · by_cases e : i = k
    · subst e
      rw [updL_eq, List.length_append, hU]
      exact ⟨_, o3, .snoc (hrow0.step hg.size hX (fun _ _ h => h)) (by omega) (hFA.step hg.size hX (fun _ _ h => h))⟩
    · obtain ⟨cs, h1, h2⟩ := h.cos i hi
      rw [updL_ne _ _ e] at h1 h2
      rw [updL_ne _ _ e]
      exact ⟨cs, hkeep (4 + i) (by omega) (by omega) h1, h2.step hg.size hX (fun _ _ h => h)⟩
  · exact h.cmp.other hg (fun j hj => by cases hj; have := h.bs; omega) (by simp; omega) (by simp; omega) (by simp; omega) (fun i hi => by have := f6 i hi; simp; omega)
/-- what the compiled arguments need, behind the growth of a row and the store of its header -/
theorem FArgsAt.past {n : NwP} {w w6 w1 w2 w3 : World} {U : Nat → Value} {L : Nat → List (ByteArray × FormM)} {M : Nat → List FormM} {nb : Bool} {k : Nat} {v : Value} {fa : Option Addr} {l : List FormM} (h1 : NInv n w w6 w1 U L M nb) (h2 : NInv n w w6 w2 U L M nb) (hs : w1.heap.size ≤ w2.heap.size) (hk : k < 9) (G : Grew n w2 w3 U k v) (hFA : FArgsAt (fun b => b < w1.heap.size) w2 fa l) : FArgsAt (XV n.BASE (upd U k v)) (w3.setCell ⟨n.sb, 18 + k, none⟩ v) fa l := by
  have hs3 : w2.heap.size ≤ w3.heap.size := G.grow.size
  have hs4 : w2.heap.size ≤ (w3.setCell ⟨n.sb, 18 + k, none⟩ v).heap.size := by simpa using hs3
  have hsz := h1.size
  obtain ⟨f1, _⟩ := h1.fix
  refine hFA.step hs4 (fun b hb hx => G.block h2 hk hb (fun e => ?_) (fun e => hx (by show b < _; omega))) (fun b hb hx => ?_)
  · exact hx (h1.owns hk e).2
  · rcases XV_updG hk G.at' hb hx with h | ⟨i, hi, h⟩
    · show b < w1.heap.size; omega
    · exact (h1.owns hi h).2
end Go.Proofs.YtpgbckgjlgecpaaGreat
/- the end of New: the nights, the setting -/
namespace Go.Proofs.YtpgbckgjlgecpaaGreat
open Go.RowKit Go.Sort
set_option linter.unusedVariables false
set_option linter.unusedSimpArgs false
set_option maxRecDepth 100000
theorem sbA_night (n : NwP) (U : Nat → Value) (nb b : Bool) : (sbA n U nb).setIfInBounds 27 (.bool b) = sbA n U b := by simp [sbA]
theorem NInv.night {n : NwP} {w w6 wr : World} {U : Nat → Value} {L : Nat → List (ByteArray × FormM)} {M : Nat → List FormM} {nb : Bool} (h : NInv n w w6 wr U L M nb) (b : Bool) : NInv n w w6 (wr.setCell ⟨n.sb, 27, none⟩ (.bool b)) U L M b := by
  obtain ⟨f1, f2, f3, f4, f5, f6, f7, f8⟩ := h.fix
  obtain ⟨e1, e2, e3, e4, e5, e6, e7, e8⟩ := h.ne
  have hsz := h.size
  have hg : wr.grownBy (wr.setCell ⟨n.sb, 27, none⟩ (.bool b)) (some n.sb) := Lib.grownBy_setCell wr n.sb 27 (.bool b)
  have hblk : ∀ k, k ≠ n.sb → (wr.setCell ⟨n.sb, 27, none⟩ (.bool b)).heap[k]? = wr.heap[k]? := fun k hk => Below.heap_setCell _ _ _ _ hk
  have hX : ∀ k, k < wr.heap.size → ¬ XV n.BASE U k → (wr.setCell ⟨n.sb, 27, none⟩ (.bool b)).heap[k]? = wr.heap[k]? := fun k hk hx => hblk k (fun e => hx (.inl (by omega)))
  have hne : ∀ k, k < 9 → (U k).ownBlock = none ∨ (U k).ownBlock ≠ some n.sb := fun k hk => .inr (fun e => by have := h.owns hk e; omega)
  refine ⟨?_, fun k hk => ?_, fun k hk => ?_, h.apart, ?_, (hblk _ (by omega)).trans h.con, (hblk _ (by omega)).trans h.mz, h.zlt, h.bel.setCell (p := ⟨n.sb, 27, none⟩) f7 _, by simpa using hsz, h.bs, h.fix, h.ne⟩
  · rw [block_setCell h.box, sbA_night]
  · obtain ⟨cs, h1, h2⟩ := h.rul k hk
    exact ⟨cs, h1.kept hg (hne k (by omega)), h2.step hg.size hX (fun _ _ h => h)⟩
  · obtain ⟨cs, h1, h2⟩ := h.cos k hk
    exact ⟨cs, h1.kept hg (hne (4 + k) (by omega)), h2.step hg.size hX (fun _ _ h => h)⟩
  · exact h.cmp.other hg (fun j hj => by cases hj; exact f7) (by simp; omega) (by simp; omega) (by simp; omega) (fun k hk => by simp; exact e6 k hk)
theorem NInv.rules {n : NwP} {w w6 wr : World} {U : Nat → Value} {L : Nat → List (ByteArray × FormM)} {M : Nat → List FormM} {nb : Bool} (h : NInv n w w6 wr U L M nb) {k : Nat} (hk : k < 4) : ∃ a cap, U k = .slice a (L k).length cap ∧ RulesRow wr a (L k) := by
  obtain ⟨cs, h1, h2⟩ := h.rul k hk
  exact RRow.rules h1 (h2.step (X' := noX) (Nat.le_refl _) (fun _ _ _ => rfl) (fun _ _ h => h.elim))
theorem NInv.rows {n : NwP} {w w6 wr : World} {U : Nat → Value} {L : Nat → List (ByteArray × FormM)} {M : Nat → List FormM} {nb : Bool} (h : NInv n w w6 wr U L M nb) {k : Nat} (hk : k < 5) : ∃ a cap, U (4 + k) = .slice a (M k).length cap ∧ FArgsAt noX wr a (M k) := by
  obtain ⟨cs, h1, h2⟩ := h.cos k hk
  exact FRow.rows h1 (h2.step (X' := noX) (Nat.le_refl _) (fun _ _ _ => rfl) (fun _ _ h => h.elim))
def pick4 {A : Type} (a b c d : A) : Nat → A
  | 0 => a
  | 1 => b
  | 2 => c
  | _ => d
/-- the invariant at the end is the setting -/
theorem NInv.set {n : NwP} {w w6 wr : World} {U : Nat → Value} {L : Nat → List (ByteArray × FormM)} {M : Nat → List FormM} {nb : Bool} {N : List (Value × Value)} (h : NInv n w w6 wr U L M nb) (hB : n.B = w.heap.size) (okT : valTT n.t = 0) (okC : valT n.c = 0) (hL : ∀ k, L k = rulesOf n.c k) (hM : ∀ k, k < 4 → M k = costsOf n.c k) (hM4 : M 4 = creditOf n.c) (hf : SlAt flightRT w n.fa n.t.fls) (hz : MapOf Tryz.prog w6 n.zb .string N) (ha : AMapOf w N n.t.zones n.t.airs) : ∃ P : SetP, P.nights = nb ∧ SetAt wr n.sb n.t n.c P := by
  obtain ⟨ra0, rc0, u0, r0⟩ := h.rules (k := 0) (by omega)
  obtain ⟨ra1, rc1, u1, r1⟩ := h.rules (k := 1) (by omega)
  obtain ⟨ra2, rc2, u2, r2⟩ := h.rules (k := 2) (by omega)
  obtain ⟨ra3, rc3, u3, r3⟩ := h.rules (k := 3) (by omega)
  obtain ⟨ka0, kc0, u4, k0⟩ := h.rows (k := 0) (by omega)
  obtain ⟨ka1, kc1, u5, k1⟩ := h.rows (k := 1) (by omega)
  obtain ⟨ka2, kc2, u6, k2⟩ := h.rows (k := 2) (by omega)
  obtain ⟨ka3, kc3, u7, k3⟩ := h.rows (k := 3) (by omega)
  obtain ⟨xa, xc, u8, x0⟩ := h.rows (k := 4) (by omega)
  rw [hL] at u0 u1 u2 u3 r0 r1 r2 r3
  rw [hM _ (by omega)] at u4 u5 u6 u7 k0 k1 k2 k3
  rw [hM4] at u8 x0
  have hbel : Below w.heap.size w wr := hB ▸ h.bel
  have hmz : MapOf Tryz.prog wr n.zb .string N := by
    obtain ⟨h1, h2⟩ := hz
    refine ⟨?_, h2⟩
    unfold MapAt at h1 ⊢
    rw [h.mz]; exact h1
  refine ⟨⟨n.za, n.zc, n.aa, n.ac, n.fa, n.fc, n.p, n.zb, pick4 ra0 ra1 ra2 ra3, pick4 rc0 rc1 rc2 rc3, pick4 ka0 ka1 ka2 ka3, pick4 kc0 kc1 kc2 kc3, xa, xc, nb⟩, rfl, ?_, okT, okC, hf.below hbel, ha.zones hmz hbel, fun k hk => ?_, fun k hk => ?_, x0⟩
  · rw [h.box]
    have e4 : U 4 = _ := u4
    have e5 : U 5 = _ := u5
    have e6 : U 6 = _ := u6
    have e7 : U 7 = _ := u7
    have e8 : U 8 = _ := u8
    unfold sbA setVals
    rw [u0, u1, u2, u3, e4, e5, e6, e7, e8]
    rfl
  · rcases k with _ | _ | _ | _ | k
    · exact r0
    · exact r1
    · exact r2
    · exact r3
    · omega
  · rcases k with _ | _ | _ | _ | k
    · exact k0
    · exact k1
    · exact k2
    · exact k3
    · omega
theorem usesR_succ {l : List (ByteArray × FormM)} {k : Nat} (h : k < l.length) : usesR (l.take (k + 1)) = (usesR (l.take k) || usesB 1 (ruAt l k).2) := by
  unfold usesR
  rw [List.take_succ_eq_append_getElem h, List.any_append, ruAt, List.getD_eq_getElem?_getD, List.getElem?_eq_getElem h]
  simp
theorem usesK_succ {l : List FormM} {k : Nat} (h : k < l.length) : usesK (l.take (k + 1)) = (usesK (l.take k) || usesB 1 (gAt l k)) := by
  unfold usesK
  rw [List.take_succ_eq_append_getElem h, List.any_append, gAt, List.getD_eq_getElem?_getD, List.getElem?_eq_getElem h]
  simp
end Go.Proofs.YtpgbckgjlgecpaaGreat
/- regions that draw their order: the loads first, where the last stores hit what was loaded -/
namespace Go.Proofs.YtpgbckgjlgecpaaGreat
open Go.RowKit
set_option linter.unusedVariables false
section
variable {P : Program} {ops : Array Oper} {Q : Exit → Act → World → Prop} {md : Region.Mode} {S : World → Prop} {Z : List Nat}
/-- whatever order comes: each operation but those of Z keeps S -/
def anyZ (P : Program) (md : Region.Mode) (ops : Array Oper) (Q : Exit → Act → World → Prop) (S : World → Prop) (Z : List Nat) : Nat → Array Bool → Act → World → Prop
  | 0, listed, a, w => Region.ready md ops listed = [] ∧ Q .normal a w
  | n + 1, listed, a, w => (Region.ready md ops listed = [] → Q .normal a w) ∧ ∀ i ∈ Region.ready md ops listed, wpOp P ops Q i (fun a' w' => (i ∉ Z → S w → S w') ∧ anyZ P md ops Q S Z n (listed.setIfInBounds i true) a' w') a w
theorem anyZ_any : ∀ (n : Nat) (listed : Array Bool) (a : Act) (w : World), anyZ P md ops Q S Z n listed a w → wpAny P md ops Q n listed a w
  | 0, _, _, _, h => h
  | n + 1, _, _, _, h => ⟨h.1, fun i hi => wpOp_mono (fun a' w' hh => anyZ_any n _ a' w' hh.2) (h.2 i hi)⟩
theorem unl {listed : Array Bool} {i : Nat} (h0 : listed.getD i true = false) (h1 : listed.getD i false = true) : False := by
  rcases Nat.lt_or_ge i listed.size with h | h
  · simp [h] at h0 h1
    rw [h0] at h1
    cases h1
  · simp [Array.getElem?_eq_none h] at h1
theorem not_ready {z i : Nat} {listed : Array Bool} (hz : Region.waitsFor md ops z i = true) (hi : i ∈ Region.ready md ops listed) : z ∉ Region.ready md ops listed := by
  intro hr
  obtain ⟨oz, ho, e, he, hb, rfl⟩ := Region.waitsFor_spec hz
  obtain ⟨_, o', ho', hall⟩ := mem_ready.1 hr
  rw [ho] at ho'
  cases ho'
  exact unl (mem_ready.1 hi).1 (hall e he hb)
theorem anyZ_take {i : Nat} {oi : Oper} {v : Value} (hi : ops[i]? = some oi) (hs : Region.noSelect ops = true) (hZ : Z.all (fun z => Region.waitsFor md ops z i) = true)
    (hQ : ∀ c a w, Q (.panic c) (a.put oi.dst v) w → Q (.panic c) a w) : ∀ (n : Nat) (listed : Array Bool) (a : Act) (w : World),
      (∀ j oj, ops[j]? = some oj → j ≠ i → listed.getD j true = false → (∀ e ∈ oj.after, Region.binds md e = true → e.on ≠ i) → oi.apart ops oj = true) →
      i ∈ Region.ready md ops listed → YieldsIf P ops S oi v a → S w →
      anyZ P md ops Q S Z n (listed.setIfInBounds i true) (a.put oi.dst v) w → anyZ P md ops Q S Z (n + 1) listed a w := by
  have hsel := Region.noSelect_spec hs
  intro n
  induction n with
  | zero =>
    intro listed a w _ hr hy hS H
    refine ⟨fun h => (by rw [h] at hr; cases hr), fun j hj => ?_⟩
    by_cases e : j = i
    · subst e; exact hy.wpOp hi hS ⟨fun _ h => h, H⟩
    · have h1 := ready_mono hj e
      rw [H.1] at h1
      cases h1
  | succ n ih =>
    intro listed a w hfree hr hy hS H
    refine ⟨fun h => (by rw [h] at hr; cases hr), fun j hj => ?_⟩
    by_cases e : j = i
    · subst e; exact hy.wpOp hi hS ⟨fun _ h => h, H⟩
    · have hjZ : j ∉ Z := fun hz => not_ready (List.all_eq_true.1 hZ j hz) hr hj
      obtain ⟨hun, oj, hoj, hall⟩ := mem_ready.1 hj
      have hno : ∀ b ∈ oj.after, Region.binds md b = true → b.on ≠ i := fun b hb hbb hon => by
        have h1 := hall b hb hbb
        rw [hon] at h1
        exact unl (mem_ready.1 hr).1 h1
      have h2 := wpOp_putIf hoj (hfree j oj hoj e hun hno) (fun cs b => hsel i oi cs b hi) (fun cs b => hsel j oj cs b hoj) hQ hy (H.2 j (ready_mono hj e))
      refine wpOp_mono (fun a' w' h3 => ?_) h2
      have hS' : S w' := h3.2.1 hjZ hS
      refine ⟨fun _ _ => hS', ih (listed.setIfInBounds j true) a' w' (fun k ok hk hki hu hn => ?_) (ready_mono hr (Ne.symm e)) h3.1 hS' ?_⟩
      · refine hfree k ok hk hki ?_ hn
        by_cases e2 : j = k
        · subst e2; exact hun
        · rw [getD_set_ne true e2] at hu; exact hu
      · rw [Array.setIfInBounds_comm _ _ e]
        exact h3.2.2
/-- an operation that yields its value in every world -/
theorem anyZ_pure {i : Nat} {oi : Oper} {v : Value} (hi : ops[i]? = some oi) (hs : Region.noSelect ops = true)
    (hQ : ∀ c a w, Q (.panic c) (a.put oi.dst v) w → Q (.panic c) a w) : ∀ (n : Nat) (listed : Array Bool) (a : Act) (w : World),
      (∀ j oj, ops[j]? = some oj → j ≠ i → listed.getD j true = false → (∀ e ∈ oj.after, Region.binds md e = true → e.on ≠ i) → oi.apart ops oj = true) →
      i ∈ Region.ready md ops listed → YieldsIf P ops (fun _ => True) oi v a →
      anyZ P md ops Q S Z n (listed.setIfInBounds i true) (a.put oi.dst v) w → anyZ P md ops Q S Z (n + 1) listed a w := by
  have hsel := Region.noSelect_spec hs
  intro n
  induction n with
  | zero =>
    intro listed a w _ hr hy H
    refine ⟨fun h => (by rw [h] at hr; cases hr), fun j hj => ?_⟩
    by_cases e : j = i
    · subst e; exact hy.wpOp hi trivial ⟨fun _ h => h, H⟩
    · have h1 := ready_mono hj e
      rw [H.1] at h1
      cases h1
  | succ n ih =>
    intro listed a w hfree hr hy H
    refine ⟨fun h => (by rw [h] at hr; cases hr), fun j hj => ?_⟩
    by_cases e : j = i
    · subst e; exact hy.wpOp hi trivial ⟨fun _ h => h, H⟩
    · obtain ⟨hun, oj, hoj, hall⟩ := mem_ready.1 hj
      have hno : ∀ b ∈ oj.after, Region.binds md b = true → b.on ≠ i := fun b hb hbb hon => by
        have h1 := hall b hb hbb
        rw [hon] at h1
        exact unl (mem_ready.1 hr).1 h1
      have h2 := wpOp_putIf hoj (hfree j oj hoj e hun hno) (fun cs b => hsel i oi cs b hi) (fun cs b => hsel j oj cs b hoj) hQ hy (H.2 j (ready_mono hj e))
      refine wpOp_mono (fun a' w' h3 => ?_) h2
      refine ⟨h3.2.1, ih (listed.setIfInBounds j true) a' w' (fun k ok hk hki hu hn => ?_) (ready_mono hr (Ne.symm e)) h3.1 ?_⟩
      · refine hfree k ok hk hki ?_ hn
        by_cases e2 : j = k
        · subst e2; exact hun
        · rw [getD_set_ne true e2] at hu; exact hu
      · rw [Array.setIfInBounds_comm _ _ e]
        exact h3.2.2
theorem anyZ_pure1 {i n : Nat} {oi : Oper} {v : Value} {listed : Array Bool} {a : Act} {w : World} (hi : ops[i]? = some oi) (hs : Region.noSelect ops = true) (hf : Region.free md ops listed i = true) (hr : (Region.ready md ops listed).contains i = true)
    (hQ : ∀ c a w, Q (.panic c) (a.put oi.dst v) w → Q (.panic c) a w) (hw : Region.wanted oi (yielded ops a.tmps) = true) (hy : ∀ w, (execOp a.eval oi).run P w = .ok (.value v) w)
    (h : anyZ P md ops Q S Z n (listed.setIfInBounds i true) (a.put oi.dst v) w) : anyZ P md ops Q S Z (n + 1) listed a w :=
  anyZ_pure hi hs hQ n listed a w (Region.free_spec hi hf) (by simpa using hr) (.inl ⟨hw, fun w _ => hy w⟩) h
theorem anyZ_take1 {i n : Nat} {oi : Oper} {v : Value} {listed : Array Bool} {a : Act} {w : World} (hi : ops[i]? = some oi) (hs : Region.noSelect ops = true) (hZ : Z.all (fun z => Region.waitsFor md ops z i) = true) (hf : Region.free md ops listed i = true) (hr : (Region.ready md ops listed).contains i = true)
    (hQ : ∀ c a w, Q (.panic c) (a.put oi.dst v) w → Q (.panic c) a w) (hw : Region.wanted oi (yielded ops a.tmps) = true) (hy : ∀ w, S w → (execOp a.eval oi).run P w = .ok (.value v) w) (hS : S w)
    (h : anyZ P md ops Q S Z n (listed.setIfInBounds i true) (a.put oi.dst v) w) : anyZ P md ops Q S Z (n + 1) listed a w :=
  anyZ_take hi hs hZ hQ n listed a w (Region.free_spec hi hf) (by simpa using hr) (.inl ⟨hw, hy⟩) hS h
theorem anyZ_one {i n : Nat} {o : Oper} {listed : Array Bool} {a : Act} {w : World} (hr : Region.ready md ops listed = [i]) (hi : ops[i]? = some o) (hw : Region.wanted o (yielded ops a.tmps) = true)
    (h : ∀ K : Act → World → Prop, Hid (∀ a' w', (i ∉ Z → S w → S w') → anyZ P md ops Q S Z n (listed.setIfInBounds i true) a' w' → K a' w') → Oper.wp P o a w K Q) : anyZ P md ops Q S Z (n + 1) listed a w := by
  refine ⟨fun h0 => (by rw [hr] at h0; cases h0), fun j hj => ?_⟩
  rw [hr] at hj
  obtain rfl : j = i := by simpa using hj
  unfold wpOp
  rw [hi]
  simp only [hw, if_true]
  exact .inl (h _ (Lib.hid (fun a' w' h1 h2 => ⟨h1, h2⟩)))
theorem anyZ_two {i j n : Nat} {oi oj : Oper} {listed : Array Bool} {a : Act} {w : World} (hr : Region.ready md ops listed = [i, j]) (hi : ops[i]? = some oi) (hj : ops[j]? = some oj) (hwi : Region.wanted oi (yielded ops a.tmps) = true) (hwj : Region.wanted oj (yielded ops a.tmps) = true)
    (h1 : ∀ K : Act → World → Prop, Hid (∀ a' w', (i ∉ Z → S w → S w') → anyZ P md ops Q S Z n (listed.setIfInBounds i true) a' w' → K a' w') → Oper.wp P oi a w K Q)
    (h2 : ∀ K : Act → World → Prop, Hid (∀ a' w', (j ∉ Z → S w → S w') → anyZ P md ops Q S Z n (listed.setIfInBounds j true) a' w' → K a' w') → Oper.wp P oj a w K Q) : anyZ P md ops Q S Z (n + 1) listed a w := by
  refine ⟨fun h0 => (by rw [hr] at h0; cases h0), fun m hm => ?_⟩
  rw [hr] at hm
  rcases (by simpa using hm : m = i ∨ m = j) with rfl | rfl
  · unfold wpOp
    rw [hi]
    simp only [hwi, if_true]
    exact .inl (h1 _ (Lib.hid (fun a' w' h1 h2 => ⟨h1, h2⟩)))
  · unfold wpOp
    rw [hj]
    simp only [hwj, if_true]
    exact .inl (h2 _ (Lib.hid (fun a' w' h1 h2 => ⟨h1, h2⟩)))
theorem anyZ_done {n : Nat} {listed : Array Bool} {a : Act} {w : World} (hr : Region.ready md ops listed = []) (h : Q .normal a w) : anyZ P md ops Q S Z n listed a w := by
  cases n with
  | zero => exact ⟨hr, h⟩
  | succ n => exact ⟨fun _ => h, by rw [hr]; simp⟩
theorem region_Z {id : Nat} {a : Act} {w : World} (S : World → Prop) (Z : List Nat) (hm : P.follows .mixedOrders = true) (h : anyZ P .any ops Q S Z ops.size (Array.replicate ops.size false) a w.drew) : (Code.region id ops true).wp P Q a w :=
  wp_region_any hm (anyZ_any _ _ _ _ h)
end
end Go.Proofs.YtpgbckgjlgecpaaGreat
/- contract: setting.New -/
namespace Go.Proofs.YtpgbckgjlgecpaaGreat
open Go.RowKit Go.Sort
set_option linter.unusedVariables false
set_option linter.unusedSimpArgs false
set_option maxRecDepth 100000
theorem rulesL_len (c : ConM) (l : List RuleM) (k : Nat) : (rulesL c l k).length ≤ l.length := by unfold rulesL; rw [List.length_map]; exact List.length_filter_le _ _
theorem rulesL_upd (c : ConM) (l : List RuleM) (r : RuleM) {k : Nat} (h : r.scope = (k : Int)) : rulesL c (l ++ [r]) = updL (rulesL c l) k (r.name, cmpX c k r.ex) := by
  funext i
  rw [rulesL_snoc]
  unfold updL
  by_cases e : i = k
  · subst e; rw [if_pos h, if_pos rfl]
  · rw [if_neg (by rw [h]; intro hh; exact e (by omega)), if_neg e]
theorem costsL_len (c : ConM) (l : List CostM) (k : Nat) : (costsL c l k).length ≤ l.length := by unfold costsL; rw [List.length_map]; exact List.length_filter_le _ _
theorem costsL_upd (c : ConM) (l : List CostM) (r : CostM) {k : Nat} (h : r.scope = (k : Int)) : costsL c (l ++ [r]) = updL (costsL c l) k (cmpX c k r.ex) := by
  funext i
  rw [costsL_snoc]
  unfold updL
  by_cases e : i = k
  · subst e; rw [if_pos h, if_pos rfl]
  · rw [if_neg (by rw [h]; intro hh; exact e (by omega)), if_neg e]
theorem row_form {w : World} {B : Nat} {T : TypeId} {s : Nat} {v : Value} {n : Nat} {cs : List Value} (ho : w.ownsRow B T s v n cs) : ∃ ua uc, v = .slice ua n uc := by
  rcases ho.2 with ⟨rfl, e⟩ | ⟨g, cap, cur, rfl, _⟩
  · exact ⟨none, 0, by rw [e]⟩
  · exact ⟨_, cap, rfl⟩
theorem block_cells {w : World} {b : Nat} {news : List Value} {T : TypeId} (hb : w.heap[b]? = some (.cells news.toArray T (0, 0))) : ∀ j u, news[j]? = some u → w.cell? (Addr.add ⟨b, 0, none⟩ j) = some u := by
  intro j u h
  have hj : (Addr.add ⟨b, 0, none⟩ j) = ⟨b, j, none⟩ := by
    unfold Addr.add; split
    · next h => rw [h]
    · simp
  rw [hj]
  exact cellW (j := j) hb (by simpa using h)
/-- the costs, and the credit behind them -/
def creM (c : ConM) (j : Nat) : Nat → List FormM := fun i => if i = 4 then (c.credit.take j).map (cmpX c 1) else costsL c c.costs i
theorem costs4 {c : ConM} (h : valT c = 0) : costsL c c.costs 4 = [] := by
  unfold costsL
  rw [List.filter_eq_nil_iff.2 (fun r hr => ?_)]
  · rfl
  · have := valKs_all (valG_parts (valT_parts h).g).2.2.1 r hr
    simp; omega
theorem creM_zero {c : ConM} (h : valT c = 0) : creM c 0 = costsL c c.costs := by
  funext i
  unfold creM
  by_cases e : i = 4
  · subst e; rw [if_pos rfl, costs4 h]; rfl
  · rw [if_neg e]
theorem take_e (l : List ExprM) (k : Nat) (h : k < l.length) : l.take (k + 1) = l.take k ++ [eAt l k] := by
  rw [List.take_succ_eq_append_getElem h, eAt, List.getD_eq_getElem?_getD, List.getElem?_eq_getElem h]; rfl
theorem creM_succ {c : ConM} {j : Nat} (h : j < c.credit.length) : creM c (j + 1) = updL (creM c j) 4 (cmpX c 1 (eAt c.credit j)) := by
  funext i
  by_cases e : i = 4
  · subst e
    rw [updL_eq]
    show (c.credit.take (j + 1)).map (cmpX c 1) = (c.credit.take j).map (cmpX c 1) ++ _
    rw [take_e _ _ h, List.map_append]; rfl
  · rw [updL_ne _ _ e]
    show (if i = 4 then _ else _) = (if i = 4 then _ else _)
    rw [if_neg e, if_neg e]
theorem creM_lt (c : ConM) (n : Nat) {k : Nat} (h : k < 4) : creM c n k = costsOf c k := if_neg (by omega)
theorem creM_four (c : ConM) : creM c c.credit.length 4 = creditOf c := by
  show (c.credit.take c.credit.length).map (cmpX c 1) = _
  rw [List.take_length]; rfl
theorem nights_eq (c : ConM) : (usesR (rulesL c c.rules 2) || usesK (creM c c.credit.length 2)) = nightsB c := rfl
theorem info_rule : (Tryz.prog.info? 153).map (fun i => (i.zero, i.size, i.bytes)) = some (some (.agg #[.string ByteArray.empty, .int .i64 0, .int .i64 0, .slice none 0 0]), 4, 56) := by kernel_rfl
set_option maxHeartbeats 64000000 in
theorem new_any (t : TTM) (za aa fa : Option Addr) (zc ac fc : Nat) (c : ConM) (p : ConP) :
    NewS t c za zc aa ac fa fc p := by
  intro w hT
  obtain ⟨hz, ha, hf, hc⟩ := hT
  have HZ := Lib.hid hz
  have HA := Lib.hid ha
  have HF := Lib.hid hf
  have HC := Lib.hid hc
  clear hz ha hf hc
  have mkZ := mkMapZ
  obtain ⟨ri0, hri, hrz0, hrz1, hrz2⟩ := info_parts info_rule
  obtain ⟨fi0, hfi, hfz0, hfz1, hfz2⟩ := info_parts info_form
  go_enter Tryz.func47, Tryz.ntmps47
  go_wp2_with fail
  have HB0 := Lib.hid (Below.then (below_new w (Obj.cells #[Value.slice za t.zones.length zc, Value.slice aa t.airs.length ac, Value.slice fa t.fls.length fc] 26)) (below_new _ (Obj.cells #[Value.int .i64 c.report, Value.int .i64 c.release, Value.int .i64 c.connect, Value.int .i64 c.sit, Value.int .i64 c.layover, Value.int .i64 c.nf, Value.int .i64 c.nt, Value.slice p.ca c.consts.length p.cc, Value.slice p.ra c.rules.length p.rc, Value.slice p.ka c.costs.length p.kc, Value.slice p.xa c.credit.length p.xc, Value.slice p.la c.lims.length p.lc, Value.slice p.oa c.offs.length p.oc, Value.int .i64 c.guar] 34)))
  have T0 := Lib.hid (one_alloc (o' := Obj.cells #[Value.int .i64 c.report, Value.int .i64 c.release, Value.int .i64 c.connect, Value.int .i64 c.sit, Value.int .i64 c.layover, Value.int .i64 c.nf, Value.int .i64 c.nt, Value.slice p.ca c.consts.length p.cc, Value.slice p.ra c.rules.length p.rc, Value.slice p.ka c.costs.length p.kc, Value.slice p.xa c.credit.length p.xc, Value.slice p.la c.lims.length p.lc, Value.slice p.oa c.offs.length p.oc, Value.int .i64 c.guar] 34) (heap_new w (Obj.cells #[Value.slice za t.zones.length zc, Value.slice aa t.airs.length ac, Value.slice fa t.fls.length fc] 26)))
  have C0 := Lib.hid (heap_new (w.alloc (Obj.cells #[Value.slice za t.zones.length zc, Value.slice aa t.airs.length ac, Value.slice fa t.fls.length fc] 26)) (Obj.cells #[Value.int .i64 c.report, Value.int .i64 c.release, Value.int .i64 c.connect, Value.int .i64 c.sit, Value.int .i64 c.layover, Value.int .i64 c.nf, Value.int .i64 c.nt, Value.slice p.ca c.consts.length p.cc, Value.slice p.ra c.rules.length p.rc, Value.slice p.ka c.costs.length p.kc, Value.slice p.xa c.credit.length p.xc, Value.slice p.la c.lims.length p.lc, Value.slice p.oa c.offs.length p.oc, Value.int .i64 c.guar] 34))
  rw [alloc_size] at C0
  obtain ⟨tb, htb⟩ : ∃ tb, tb = w.heap.size := ⟨_, rfl⟩
  obtain ⟨cb, hcb⟩ : ∃ cb, cb = w.heap.size + 1 := ⟨_, rfl⟩
  rw [← htb] at T0
  rw [← hcb] at C0
  simp only [← hcb]
  simp only [← htb]
  have HTB := Lib.hid htb
  have HCB := Lib.hid hcb
  clear htb hcb
  generalize (w.alloc (Obj.cells #[Value.slice za t.zones.length zc, Value.slice aa t.airs.length ac, Value.slice fa t.fls.length fc] 26)).alloc (Obj.cells #[Value.int .i64 c.report, Value.int .i64 c.release, Value.int .i64 c.connect, Value.int .i64 c.sit, Value.int .i64 c.layover, Value.int .i64 c.nf, Value.int .i64 c.nt, Value.slice p.ca c.consts.length p.cc, Value.slice p.ra c.rules.length p.rc, Value.slice p.ka c.costs.length p.kc, Value.slice p.xa c.credit.length p.xc, Value.slice p.la c.lims.length p.lc, Value.slice p.oa c.offs.length p.oc, Value.int .i64 c.guar] 34) = W0 at *
  refine (validateTT_any t za aa fa zc ac fc W0 (HZ.out.below HB0.out) (HA.out.below HB0.out) (HF.out.below HB0.out)).mono ?_
  rintro e w1 ⟨rfl, hb1⟩
  by_cases hv : valTT t = 0
  case neg =>
    have hv' : (valTT t != 0) = true := by simpa using hv
    have HV := Lib.hid hv
    have HB1 := Lib.hid (Below.then HB0.out hb1)
    clear hv hb1
    go_wp2_with fail
    go_ret2
    exact ⟨.badT HV.out rfl, HB1.out⟩
  case pos =>
    have HV := Lib.hid hv
    have HB1 := Lib.hid (Below.then HB0.out hb1)
    have T1 := Lib.hid ((hb1.block _ (lt_of_block T0.out)).trans T0.out)
    have C1 := Lib.hid ((hb1.block _ (lt_of_block C0.out)).trans C0.out)
    rw [hv]
    clear hv hb1 T0 C0 HB0
    clear W0
    have c1_0 : w1.cell? ⟨cb, 0, none⟩ = some (Value.int .i64 c.report) := cellW (j := 0) C1.out rfl
    have c1_1 : w1.cell? ⟨cb, 1, none⟩ = some (Value.int .i64 c.release) := cellW (j := 1) C1.out rfl
    have c1_2 : w1.cell? ⟨cb, 2, none⟩ = some (Value.int .i64 c.connect) := cellW (j := 2) C1.out rfl
    have c1_3 : w1.cell? ⟨cb, 3, none⟩ = some (Value.int .i64 c.sit) := cellW (j := 3) C1.out rfl
    have c1_4 : w1.cell? ⟨cb, 4, none⟩ = some (Value.int .i64 c.layover) := cellW (j := 4) C1.out rfl
    have c1_5 : w1.cell? ⟨cb, 5, none⟩ = some (Value.int .i64 c.nf) := cellW (j := 5) C1.out rfl
    have c1_6 : w1.cell? ⟨cb, 6, none⟩ = some (Value.int .i64 c.nt) := cellW (j := 6) C1.out rfl
    have c1_7 : w1.cell? ⟨cb, 7, none⟩ = some (Value.slice p.ca c.consts.length p.cc) := cellW (j := 7) C1.out rfl
    have c1_8 : w1.cell? ⟨cb, 8, none⟩ = some (Value.slice p.ra c.rules.length p.rc) := cellW (j := 8) C1.out rfl
    have c1_9 : w1.cell? ⟨cb, 9, none⟩ = some (Value.slice p.ka c.costs.length p.kc) := cellW (j := 9) C1.out rfl
    have c1_10 : w1.cell? ⟨cb, 10, none⟩ = some (Value.slice p.xa c.credit.length p.xc) := cellW (j := 10) C1.out rfl
    have c1_11 : w1.cell? ⟨cb, 11, none⟩ = some (Value.slice p.la c.lims.length p.lc) := cellW (j := 11) C1.out rfl
    have c1_12 : w1.cell? ⟨cb, 12, none⟩ = some (Value.slice p.oa c.offs.length p.oc) := cellW (j := 12) C1.out rfl
    have c1_13 : w1.cell? ⟨cb, 13, none⟩ = some (Value.int .i64 c.guar) := cellW (j := 13) C1.out rfl
    have hcl := lt_of_block C1.out
    go_wp2_with fail
    refine (validateT_any c p w1 w.heap.size HB1.out.size (HC.out.keep HB1.out)).mono ?_
    rintro e w2 ⟨rfl, hb2⟩
    clear c1_0 c1_1 c1_2 c1_3 c1_4 c1_5 c1_6 c1_7 c1_8 c1_9 c1_10 c1_11 c1_12 c1_13 hcl
    by_cases hv : valT c = 0
    case neg =>
      have hv' : (valT c != 0) = true := by simpa using hv
      have HV2 := Lib.hid hv
      have HB2 := Lib.hid (Below.then HB1.out hb2)
      clear hv hb2
      go_wp2_with fail
      go_ret2
      exact ⟨.badC HV.out HV2.out rfl, HB2.out⟩
    case pos =>
      have HV2 := Lib.hid hv
      have HB2 := Lib.hid (Below.then HB1.out hb2)
      have T2 := Lib.hid ((hb2.block _ (lt_of_block T1.out)).trans T1.out)
      have C2 := Lib.hid ((hb2.block _ (lt_of_block C1.out)).trans C1.out)
      rw [hv]
      clear hv hb2 T1 C1 HB1
      clear w1
      have c2_0 : w2.cell? ⟨cb, 0, none⟩ = some (Value.int .i64 c.report) := cellW (j := 0) C2.out rfl
      have c2_1 : w2.cell? ⟨cb, 1, none⟩ = some (Value.int .i64 c.release) := cellW (j := 1) C2.out rfl
      have c2_2 : w2.cell? ⟨cb, 2, none⟩ = some (Value.int .i64 c.connect) := cellW (j := 2) C2.out rfl
      have c2_3 : w2.cell? ⟨cb, 3, none⟩ = some (Value.int .i64 c.sit) := cellW (j := 3) C2.out rfl
      have c2_4 : w2.cell? ⟨cb, 4, none⟩ = some (Value.int .i64 c.layover) := cellW (j := 4) C2.out rfl
      have c2_5 : w2.cell? ⟨cb, 5, none⟩ = some (Value.int .i64 c.nf) := cellW (j := 5) C2.out rfl
      have c2_6 : w2.cell? ⟨cb, 6, none⟩ = some (Value.int .i64 c.nt) := cellW (j := 6) C2.out rfl
      have c2_7 : w2.cell? ⟨cb, 7, none⟩ = some (Value.slice p.ca c.consts.length p.cc) := cellW (j := 7) C2.out rfl
      have c2_8 : w2.cell? ⟨cb, 8, none⟩ = some (Value.slice p.ra c.rules.length p.rc) := cellW (j := 8) C2.out rfl
      have c2_9 : w2.cell? ⟨cb, 9, none⟩ = some (Value.slice p.ka c.costs.length p.kc) := cellW (j := 9) C2.out rfl
      have c2_10 : w2.cell? ⟨cb, 10, none⟩ = some (Value.slice p.xa c.credit.length p.xc) := cellW (j := 10) C2.out rfl
      have c2_11 : w2.cell? ⟨cb, 11, none⟩ = some (Value.slice p.la c.lims.length p.lc) := cellW (j := 11) C2.out rfl
      have c2_12 : w2.cell? ⟨cb, 12, none⟩ = some (Value.slice p.oa c.offs.length p.oc) := cellW (j := 12) C2.out rfl
      have c2_13 : w2.cell? ⟨cb, 13, none⟩ = some (Value.int .i64 c.guar) := cellW (j := 13) C2.out rfl
      have t2_0 : w2.cell? ⟨tb, 0, none⟩ = some (Value.slice za t.zones.length zc) := cellW (j := 0) T2.out rfl
      have t2_1 : w2.cell? ⟨tb, 1, none⟩ = some (Value.slice aa t.airs.length ac) := cellW (j := 1) T2.out rfl
      have t2_2 : w2.cell? ⟨tb, 2, none⟩ = some (Value.slice fa t.fls.length fc) := cellW (j := 2) T2.out rfl
      have hcl := lt_of_block C2.out
      have htl := lt_of_block T2.out
      go_upto_region 9 with fail
      have HB3 := Lib.hid (Below.then HB2.out (Below.then (Below.then (below_new w2 (Obj.map #[] 0)) (below_new _ (Obj.cells #[Value.slice za t.zones.length zc, Value.slice aa t.airs.length ac, Value.slice fa t.fls.length fc, Value.int .i64 c.report, Value.int .i64 c.release, Value.int .i64 c.connect, Value.int .i64 c.sit, Value.int .i64 c.layover, Value.int .i64 c.nf, Value.int .i64 c.nt, Value.slice p.ca c.consts.length p.cc, Value.slice p.ra c.rules.length p.rc, Value.slice p.ka c.costs.length p.kc, Value.slice p.xa c.credit.length p.xc, Value.slice p.la c.lims.length p.lc, Value.slice p.oa c.offs.length p.oc, Value.int .i64 c.guar, Value.map (some w2.heap.size), Value.slice none 0 0, Value.slice none 0 0, Value.slice none 0 0, Value.slice none 0 0, Value.slice none 0 0, Value.slice none 0 0, Value.slice none 0 0, Value.slice none 0 0, Value.slice none 0 0, Value.bool false] 146))) (below_new _ (Obj.map #[] 0))))
      have T3 := Lib.hid (one_alloc (o' := Obj.map #[] 0) (one_alloc (o' := Obj.cells #[Value.slice za t.zones.length zc, Value.slice aa t.airs.length ac, Value.slice fa t.fls.length fc, Value.int .i64 c.report, Value.int .i64 c.release, Value.int .i64 c.connect, Value.int .i64 c.sit, Value.int .i64 c.layover, Value.int .i64 c.nf, Value.int .i64 c.nt, Value.slice p.ca c.consts.length p.cc, Value.slice p.ra c.rules.length p.rc, Value.slice p.ka c.costs.length p.kc, Value.slice p.xa c.credit.length p.xc, Value.slice p.la c.lims.length p.lc, Value.slice p.oa c.offs.length p.oc, Value.int .i64 c.guar, Value.map (some w2.heap.size), Value.slice none 0 0, Value.slice none 0 0, Value.slice none 0 0, Value.slice none 0 0, Value.slice none 0 0, Value.slice none 0 0, Value.slice none 0 0, Value.slice none 0 0, Value.slice none 0 0, Value.bool false] 146) (one_alloc (o' := Obj.map #[] 0) T2.out)))
      have C3 := Lib.hid (one_alloc (o' := Obj.map #[] 0) (one_alloc (o' := Obj.cells #[Value.slice za t.zones.length zc, Value.slice aa t.airs.length ac, Value.slice fa t.fls.length fc, Value.int .i64 c.report, Value.int .i64 c.release, Value.int .i64 c.connect, Value.int .i64 c.sit, Value.int .i64 c.layover, Value.int .i64 c.nf, Value.int .i64 c.nt, Value.slice p.ca c.consts.length p.cc, Value.slice p.ra c.rules.length p.rc, Value.slice p.ka c.costs.length p.kc, Value.slice p.xa c.credit.length p.xc, Value.slice p.la c.lims.length p.lc, Value.slice p.oa c.offs.length p.oc, Value.int .i64 c.guar, Value.map (some w2.heap.size), Value.slice none 0 0, Value.slice none 0 0, Value.slice none 0 0, Value.slice none 0 0, Value.slice none 0 0, Value.slice none 0 0, Value.slice none 0 0, Value.slice none 0 0, Value.slice none 0 0, Value.bool false] 146) (one_alloc (o' := Obj.map #[] 0) C2.out)))
      have S3 := Lib.hid (one_alloc (o' := Obj.map #[] 0) (heap_new (w2.alloc (Obj.map #[] 0)) (Obj.cells #[Value.slice za t.zones.length zc, Value.slice aa t.airs.length ac, Value.slice fa t.fls.length fc, Value.int .i64 c.report, Value.int .i64 c.release, Value.int .i64 c.connect, Value.int .i64 c.sit, Value.int .i64 c.layover, Value.int .i64 c.nf, Value.int .i64 c.nt, Value.slice p.ca c.consts.length p.cc, Value.slice p.ra c.rules.length p.rc, Value.slice p.ka c.costs.length p.kc, Value.slice p.xa c.credit.length p.xc, Value.slice p.la c.lims.length p.lc, Value.slice p.oa c.offs.length p.oc, Value.int .i64 c.guar, Value.map (some w2.heap.size), Value.slice none 0 0, Value.slice none 0 0, Value.slice none 0 0, Value.slice none 0 0, Value.slice none 0 0, Value.slice none 0 0, Value.slice none 0 0, Value.slice none 0 0, Value.slice none 0 0, Value.bool false] 146)))
      have MZ := Lib.hid (((MapOf.made Tryz.prog w2 .string).alloc (Obj.cells #[Value.slice za t.zones.length zc, Value.slice aa t.airs.length ac, Value.slice fa t.fls.length fc, Value.int .i64 c.report, Value.int .i64 c.release, Value.int .i64 c.connect, Value.int .i64 c.sit, Value.int .i64 c.layover, Value.int .i64 c.nf, Value.int .i64 c.nt, Value.slice p.ca c.consts.length p.cc, Value.slice p.ra c.rules.length p.rc, Value.slice p.ka c.costs.length p.kc, Value.slice p.xa c.credit.length p.xc, Value.slice p.la c.lims.length p.lc, Value.slice p.oa c.offs.length p.oc, Value.int .i64 c.guar, Value.map (some w2.heap.size), Value.slice none 0 0, Value.slice none 0 0, Value.slice none 0 0, Value.slice none 0 0, Value.slice none 0 0, Value.slice none 0 0, Value.slice none 0 0, Value.slice none 0 0, Value.slice none 0 0, Value.bool false] 146)).alloc (Obj.map #[] 0))
      have MN := Lib.hid (MapOf.made Tryz.prog ((w2.alloc (Obj.map #[] 0)).alloc (Obj.cells #[Value.slice za t.zones.length zc, Value.slice aa t.airs.length ac, Value.slice fa t.fls.length fc, Value.int .i64 c.report, Value.int .i64 c.release, Value.int .i64 c.connect, Value.int .i64 c.sit, Value.int .i64 c.layover, Value.int .i64 c.nf, Value.int .i64 c.nt, Value.slice p.ca c.consts.length p.cc, Value.slice p.ra c.rules.length p.rc, Value.slice p.ka c.costs.length p.kc, Value.slice p.xa c.credit.length p.xc, Value.slice p.la c.lims.length p.lc, Value.slice p.oa c.offs.length p.oc, Value.int .i64 c.guar, Value.map (some w2.heap.size), Value.slice none 0 0, Value.slice none 0 0, Value.slice none 0 0, Value.slice none 0 0, Value.slice none 0 0, Value.slice none 0 0, Value.slice none 0 0, Value.slice none 0 0, Value.slice none 0 0, Value.bool false] 146)) .string)
      rw [alloc_size] at S3
      rw [alloc_size, alloc_size] at MN
      obtain ⟨zb, hzb⟩ : ∃ zb, zb = w2.heap.size := ⟨_, rfl⟩
      obtain ⟨sb, hsb⟩ : ∃ sb, sb = w2.heap.size + 1 := ⟨_, rfl⟩
      obtain ⟨nb, hnb⟩ : ∃ nb, nb = w2.heap.size + 1 + 1 := ⟨_, rfl⟩
      rw [← hnb] at MN
      rw [← hsb] at S3
      simp only [← hnb]
      simp only [← hsb]
      have hw2 := HB2.out.size
      have ht0 := HTB.out
      have hc0 := HCB.out
      have o1 : tb < zb := by omega
      have o2 : cb < zb := by omega
      have o3 : w.heap.size ≤ zb := by omega
      have o4 : zb < sb := by omega
      have o5 : sb < nb := by omega
      have hg2 : w2.alloc (Obj.map #[] 0) = w2.alloc (Obj.map #[] 0) := rfl
      generalize hW3 : ((w2.alloc (Obj.map #[] 0)).alloc (Obj.cells #[Value.slice za t.zones.length zc, Value.slice aa t.airs.length ac, Value.slice fa t.fls.length fc, Value.int .i64 c.report, Value.int .i64 c.release, Value.int .i64 c.connect, Value.int .i64 c.sit, Value.int .i64 c.layover, Value.int .i64 c.nf, Value.int .i64 c.nt, Value.slice p.ca c.consts.length p.cc, Value.slice p.ra c.rules.length p.rc, Value.slice p.ka c.costs.length p.kc, Value.slice p.xa c.credit.length p.xc, Value.slice p.la c.lims.length p.lc, Value.slice p.oa c.offs.length p.oc, Value.int .i64 c.guar, Value.map (some w2.heap.size), Value.slice none 0 0, Value.slice none 0 0, Value.slice none 0 0, Value.slice none 0 0, Value.slice none 0 0, Value.slice none 0 0, Value.slice none 0 0, Value.slice none 0 0, Value.slice none 0 0, Value.bool false] 146)).alloc (Obj.map #[] 0) = W3 at *
      simp only [← hzb] at *
      clear hW3 hg2 hzb hsb hnb ht0 hc0 hw2 c2_0 c2_1 c2_2 c2_3 c2_4 c2_5 c2_6 c2_7 c2_8 c2_9 c2_10 c2_11 c2_12 c2_13 t2_0 t2_1 t2_2 hcl htl T2 C2 HB2
      clear w2
      have t3_0 : W3.cell? ⟨tb, 0, none⟩ = some (.slice za t.zones.length zc) := cellW (j := 0) T3.out rfl
      have htl := lt_of_block T3.out
      have hzl := (valTT_len HV.out).1
      have hal := (valTT_len HV.out).2.1
      go_wp2_with fail
      clear t3_0 htl
      go_loopw [42] (fun i wr => ∃ (k : Nat) (M : List (Value × Value)), k ≤ t.zones.length ∧ i = .int .i64 k ∧ Hid (MapOf Tryz.prog wr nb .string M) ∧ Hid (ZMapOf w M (t.zones.take k)) ∧ Hid (W3.grownBy wr (some nb))) (fun i _ => t.zones.length - (intOf i).toNat)
      case atStart => exact ⟨0, [], Nat.zero_le _, rfl, MN, Lib.hid (ZMapOf.nil w), Lib.hid (grown_below _ (Below.refl _ _))⟩
      clear MN
      case round =>
        obtain ⟨k, M, hk, rfl, hM, hZM, hgr⟩ := hrel
        have HBr := Lib.hid (HB3.out.grown hgr.out HB3.out.size (fun j hj => by cases hj; omega))
        by_cases hlt : k < t.zones.length
        · obtain ⟨b, off, rfl, hb, hcs⟩ := zone_cells HZ.out (by omega)
          obtain ⟨sa, scap, c0, c1, c2, hn0, hn1, hsh⟩ := hcs k hlt
          have d0 := below_cell c0 hb HBr.out
          have d1 := below_cell c1 hb HBr.out
          have d2 := below_cell c2 hb HBr.out
          have hbr := Nat.lt_of_lt_of_le hb HBr.out.size
          obtain ⟨w4, P1, M4, g4⟩ := put_zone (hM.out.alloc (Obj.cells #[.string (zAt t.zones k).name, .int .i64 (zAt t.zones k).off, .slice sa (zAt t.zones k).sh.length scap] 85)) (zAt t.zones k).name (.agg #[.string (zAt t.zones k).name, .int .i64 (zAt t.zones k).off, .slice sa (zAt t.zones k).sh.length scap])
          have HM4 := Lib.hid M4
          have HZ4 := Lib.hid (show ZMapOf w (mput M (.string (zAt t.zones k).name) (.agg #[.string (zAt t.zones k).name, .int .i64 (zAt t.zones k).off, .slice sa (zAt t.zones k).sh.length scap])) (t.zones.take (k + 1)) by rw [take_z _ _ hlt]; exact hZM.out.put _ ⟨sa, scap, rfl, hsh, hn0, hn1⟩)
          have HG4 := Lib.hid (Lib.grownBy_trans (Lib.grownBy_trans hgr.out (grown_below (some nb) (below_new wr (Obj.cells #[.string (zAt t.zones k).name, .int .i64 (zAt t.zones k).off, .slice sa (zAt t.zones k).sh.length scap] 85)))) g4)
          clear M4 g4 hcs c0 c1 c2 hsh hM hZM hgr
          go_wp2_with fail
          go_roundw
          case rel => exact ⟨k + 1, _, by omega, by go_num, HM4, HZ4, HG4⟩
          case measure => simp [intOf]; omega
        · obtain rfl : k = t.zones.length := by omega
          rw [List.take_length] at hZM
          have T4 := Lib.hid ((hgr.out.block _ (lt_of_block T3.out) (by simp; omega)).trans T3.out)
          have C4 := Lib.hid ((hgr.out.block _ (lt_of_block C3.out) (by simp; omega)).trans C3.out)
          have S4 := Lib.hid ((hgr.out.block _ (lt_of_block S3.out) (by simp; omega)).trans S3.out)
          have MZ4 := Lib.hid (MZ.out.grown hgr.out (by simp; omega))
          clear T3 C3 S3 MZ HB3 hgr
          obtain ⟨W4, rfl⟩ : ∃ W4 : World, W4 = wr := ⟨_, rfl⟩
          have t4_1 : W4.cell? ⟨tb, 1, none⟩ = some (.slice aa t.airs.length ac) := cellW (j := 1) T4.out rfl
          have htl := lt_of_block T4.out
          go_wp2_with fail
          clear t4_1 htl
          go_loopw [54] (fun i wr => ∃ (k : Nat) (N : List (Value × Value)), k ≤ t.airs.length ∧ i = .int .i64 k ∧ Hid (MapOf Tryz.prog wr zb .string N) ∧ Hid (AMapOf w N t.zones (t.airs.take k)) ∧ Hid (W4.grownBy wr (some zb))) (fun i _ => t.airs.length - (intOf i).toNat)
          case atStart => exact ⟨0, [], Nat.zero_le _, rfl, MZ4, Lib.hid (AMapOf.nil w _), Lib.hid (grown_below _ (Below.refl _ _))⟩
          clear MZ4
          case round =>
            obtain ⟨k, N, hk, rfl, hN, hAM, hgr⟩ := hrel
            have HB5 := Lib.hid (HBr.out.grown hgr.out HBr.out.size (fun j hj => by cases hj; omega))
            by_cases hlt : k < t.airs.length
            · obtain ⟨b, off, rfl, hb, hcs⟩ := air_cells HA.out (by omega)
              obtain ⟨c0, c1, hn0, hn1⟩ := hcs k hlt
              have d0 := below_cell c0 hb HB5.out
              have d1 := below_cell c1 hb HB5.out
              have hbr := Nat.lt_of_lt_of_le hb HB5.out.size
              clear hcs c0 c1
              have G1 := Lib.grownBy_trans hgr.out (grown_below (some zb) (below_new wr (Obj.cells #[.string (aAt t.airs k).code, .string (aAt t.airs k).zone] 88)))
              have A1 := Lib.hid (heap_new wr (Obj.cells #[.string (aAt t.airs k).code, .string (aAt t.airs k).zone] 88))
              have N1 := Lib.hid (hN.out.alloc (Obj.cells #[.string (aAt t.airs k).code, .string (aAt t.airs k).zone] 88))
              have S5 := Lib.hid ((G1.block _ (lt_of_block S4.out) (by simp; omega)).trans S4.out)
              have M5 := Lib.hid (hM.out.grown G1 (by simp; omega))
              have HG1 := Lib.hid G1
              clear G1 hN hgr
              go_wp2_with fail
              generalize wr.alloc (Obj.cells #[.string (aAt t.airs k).code, .string (aAt t.airs k).zone] 88) = W5 at *
              have z1 : W5.drew.cell? ⟨sb, 17, none⟩ = some (.map (some zb)) := cellW S5.out rfl
              have z2 : W5.drew.cell? ⟨wr.heap.size, 0, none⟩ = some (.string (aAt t.airs k).code) := cellW A1.out rfl
              have z3 : W5.drew.cell? ⟨wr.heap.size, 1, none⟩ = some (.string (aAt t.airs k).zone) := cellW A1.out rfl
              have z1' : W5.cell? ⟨sb, 17, none⟩ = some (.map (some zb)) := cellW S5.out rfl
              have z2' : W5.cell? ⟨wr.heap.size, 0, none⟩ = some (.string (aAt t.airs k).code) := cellW A1.out rfl
              have z3' : W5.cell? ⟨wr.heap.size, 1, none⟩ = some (.string (aAt t.airs k).zone) := cellW A1.out rfl
              obtain ⟨v, L1, hv⟩ := look_name (w := W5.drew) (M5.out.below (Below.refl _ _).drew) hZM.out (aAt t.airs k).zone
              obtain ⟨w6, P1, N6, g6⟩ := put_zone (w := W5.drew) (N1.out.below (Below.refl _ _).drew) (aAt t.airs k).code v
              have HN6 := Lib.hid N6
              have HA6 := Lib.hid (show AMapOf w (mput N (.string (aAt t.airs k).code) v) t.zones (t.airs.take (k + 1)) by rw [take_a _ _ hlt]; exact hAM.out.put _ hv)
              have HG6 := Lib.hid (Lib.grownBy_trans (grownBy_drewn HG1.out) g6)
              clear N6 g6 hv hAM
              go_still_tail 10, (by kernel_rfl)
              change wpList _ _ _ _ _ W5.drew
              go_wp2_with fail
              go_roundw
              case rel => exact ⟨k + 1, _, by omega, by go_num, HN6, HA6, HG6⟩
              case measure => simp [intOf]; omega
            · obtain rfl : k = t.airs.length := by omega
              rw [List.take_length] at hAM
              have C5 := Lib.hid ((hgr.out.block _ (lt_of_block C4.out) (by simp; omega)).trans C4.out)
              have S5 := Lib.hid ((hgr.out.block _ (lt_of_block S4.out) (by simp; omega)).trans S4.out)
              have hnbl := Nat.lt_of_lt_of_le hM.out.lt hgr.out.size
              have MZ5 := hN
              have AM := hAM
              clear T4 C4 S4 HBr hgr hN hAM hM hZM
              obtain ⟨W5, rfl⟩ : ∃ W5 : World, W5 = wr := ⟨_, rfl⟩
              have c5_7 : W5.cell? ⟨cb, 7, none⟩ = some (.slice p.ca c.consts.length p.cc) := cellW (j := 7) C5.out rfl
              have hcl := lt_of_block C5.out
              go_wp2_with fail
              refine (newCompiler_any c.consts p.ca p.cc W5 w.heap.size HB5.out.size (HC.out.keep HB5.out).consts).mono ?_
              rintro e w6 ⟨kp, ib, vb, ps, rfl, hCp, ⟨hf1, hf2, hf3, hf4⟩, hb6⟩
              have C6 := Lib.hid ((hb6.block _ (lt_of_block C5.out)).trans C5.out)
              have S6 := Lib.hid ((hb6.block _ (lt_of_block S5.out)).trans S5.out)
              have MZ6 := Lib.hid (MZ5.out.below hb6)
              have HB6 := Lib.hid (Below.then HB5.out hb6)
              have CP6 := Lib.hid hCp
              have hsz6 := hb6.size
              have hW5 : nb < W5.heap.size := hnbl
              clear hCp hb6 c5_7 hcl C5 S5 MZ5 HB5
              have I0 := Lib.hid (show NInv (⟨t, c, za, zc, aa, ac, fa, fc, p, zb, sb, cb, kp, ib, vb, ps, w.heap.size, w6.heap.size⟩ : NwP) w w6 w6 (fun _ => .slice none 0 0) (fun _ => []) (fun _ => []) false from ⟨S6.out, fun k hk => ⟨[], World.ownsRow_nil _ _ _ _, .nil⟩, fun k hk => ⟨[], World.ownsRow_nil _ _ _ _, .nil⟩, fun i j b _ _ h => by simp [Value.ownBlock] at h, CP6.out, C6.out, rfl, by show zb < w6.heap.size; omega, HB6.out, Nat.le_refl _, HB6.out.size, ⟨by show sb < w6.heap.size; omega, by show cb < w6.heap.size; omega, CP6.out.lt.1, CP6.out.lt.2.1, CP6.out.lt.2.2, fun k hk => (CP6.out.places k hk).lt, by show w.heap.size ≤ sb; omega, CP6.out.bv⟩, ⟨by show sb ≠ vb; omega, by show sb ≠ cb; omega, by show sb ≠ zb; omega, by show sb ≠ kp; omega, by show sb ≠ ib; omega, fun k hk => by have := hf4 k hk; show pAt ps k ≠ sb; omega, by show cb ≠ vb; omega, by show zb ≠ vb; omega⟩⟩)
              have HMZ := MZ6
              have HOK := Lib.hid (fun i (hi : i < c.rules.length) => rule_ok HV2.out hi)
              have HCMP := Lib.hid (compile_any w.heap.size kp ib vb ps c.consts p.ca p.cc c.consts.length)
              have c6_8 : w6.cell? ⟨cb, 8, none⟩ = some (.slice p.ra c.rules.length p.rc) := cellW (j := 8) C6.out rfl
              have hcl := lt_of_block C6.out
              have hrl := (HC.out.rules).1
              have hRN : c.rules.length ≤ 10000 := by have h := (valG_parts (valT_parts HV2.out).g).1; simp [sizeB] at h; omega
              clear S6 CP6 hf4
              go_wp2_with fail
              clear c6_8 hcl C6
              go_loopw [75] (fun i wr => ∃ (j : Nat) (U : Nat → Value), j ≤ c.rules.length ∧ i = .int .i64 j ∧ Hid (NInv (⟨t, c, za, zc, aa, ac, fa, fc, p, zb, sb, cb, kp, ib, vb, ps, w.heap.size, w6.heap.size⟩ : NwP) w w6 wr U (rulesL c (c.rules.take j)) (fun _ => []) false)) (fun i _ => c.rules.length - (intOf i).toNat)
              case atStart => exact ⟨0, (fun _ => .slice none 0 0), Nat.zero_le _, rfl, I0⟩
              clear I0
              case round =>
                obtain ⟨j, U, hj, rfl, hI⟩ := hrel
                by_cases hlt : j < c.rules.length
                · obtain ⟨k, hsc, hk1, hk3, hwf, hcnt, hty⟩ := HOK.out j hlt
                  obtain ⟨b, off, hra, hb, hcs⟩ := ((HC.out.keep hI.out.bel).rules).cells (by omega)
                  obtain ⟨r0, r1, hrn, _, xa, xc, ⟨r2, r3, r4, r5⟩, hfit, hargs⟩ := hcs j hlt
                  rw [hsc] at r0
                  have hbw : b < wr.heap.size := Nat.lt_of_lt_of_le hb (Nat.le_trans hI.out.bs hI.out.size)
                  have HW := Lib.hid hwf
                  have HTY := Lib.hid hty
                  have HSC := Lib.hid hsc
                  rw [hra]
                  clear hcs hra hsc hwf hty
                  go_wp2_with fail
                  have I1 := Lib.hid (hI.out.below (below_new wr (Obj.cells #[.int .i64 (k : Int), .string (rlAt c.rules j).name, .int .i64 (rlAt c.rules j).ex.op, .int .i64 (rlAt c.rules j).ex.num, .string (rlAt c.rules j).ex.name, .slice xa (rlAt c.rules j).ex.args.length xc] 113)))
                  have QB := Lib.hid (heap_new wr (Obj.cells #[.int .i64 (k : Int), .string (rlAt c.rules j).name, .int .i64 (rlAt c.rules j).ex.op, .int .i64 (rlAt c.rules j).ex.num, .string (rlAt c.rules j).ex.name, .slice xa (rlAt c.rules j).ex.args.length xc] 113))
                  have HAr := Lib.hid (hargs.keep ((below_new wr (Obj.cells #[.int .i64 (k : Int), .string (rlAt c.rules j).name, .int .i64 (rlAt c.rules j).ex.op, .int .i64 (rlAt c.rules j).ex.num, .string (rlAt c.rules j).ex.name, .slice xa (rlAt c.rules j).ex.args.length xc] 113)).mono (Nat.le_trans hI.out.bs hI.out.size)))
                  have HFit := Lib.hid hfit
                  obtain ⟨rb, hrb⟩ : ∃ rb, rb = wr.heap.size := ⟨_, rfl⟩
                  rw [← hrb] at QB
                  simp only [← hrb]
                  have HRB := Lib.hid hrb
                  clear hrb
                  generalize wr.alloc (Obj.cells #[.int .i64 (k : Int), .string (rlAt c.rules j).name, .int .i64 (rlAt c.rules j).ex.op, .int .i64 (rlAt c.rules j).ex.num, .string (rlAt c.rules j).ex.name, .slice xa (rlAt c.rules j).ex.args.length xc] 113) = W1 at *
                  have HSd : W1.drew.cell? ⟨rb, 0, none⟩ = some (.int .i64 (k : Int)) ∧ W1.drew.cell? ⟨rb, 1, none⟩ = some (.string (rlAt c.rules j).name) ∧ W1.drew.cell? ⟨rb, 2, none⟩ = some (.int .i64 (rlAt c.rules j).ex.op) ∧ W1.drew.cell? ⟨rb, 3, none⟩ = some (.int .i64 (rlAt c.rules j).ex.num) ∧ W1.drew.cell? ⟨rb, 4, none⟩ = some (.string (rlAt c.rules j).ex.name) ∧ W1.drew.cell? ⟨rb, 5, none⟩ = some (.slice xa (rlAt c.rules j).ex.args.length xc) ∧ W1.drew.cell? ⟨sb, 18 + k, none⟩ = some (U k) := ⟨cellW (j := 0) QB.out rfl, cellW (j := 1) QB.out rfl, cellW (j := 2) QB.out rfl, cellW (j := 3) QB.out rfl, cellW (j := 4) QB.out rfl, cellW (j := 5) QB.out rfl, cellW I1.out.box (sbA_at _ U false (by omega))⟩
                  have k0 : (0 : Int) ≤ (k : Int) := by omega
                  have k4 : (k : Int) < 4 := by omega
                  have lrb : rb < W1.drew.heap.size := lt_of_block QB.out
                  have lsb : sb < W1.drew.heap.size := lt_of_block I1.out.box
                  have F1 : sb < w6.heap.size := I1.out.fix.1
                  have F5 : vb < w6.heap.size := I1.out.fix.2.2.2.2.1
                  have hszb : w6.heap.size ≤ wr.heap.size := hI.out.size
                  have hrb := HRB.out
                  have Hrbv : rb ≠ vb := by omega
                  have Hsbv : sb ≠ vb := I1.out.ne.1
                  have Hrbs : rb ≠ sb := by omega
                  have Hown := Lib.hid (fun b (hb : (U k).ownBlock = some b) => hI.out.owns (k := k) (by omega) hb)
                  clear hrb
                  refine region_Z (fun w' => w'.cell? ⟨rb, 0, none⟩ = some (.int .i64 (k : Int)) ∧ w'.cell? ⟨rb, 1, none⟩ = some (.string (rlAt c.rules j).name) ∧ w'.cell? ⟨rb, 2, none⟩ = some (.int .i64 (rlAt c.rules j).ex.op) ∧ w'.cell? ⟨rb, 3, none⟩ = some (.int .i64 (rlAt c.rules j).ex.num) ∧ w'.cell? ⟨rb, 4, none⟩ = some (.string (rlAt c.rules j).ex.name) ∧ w'.cell? ⟨rb, 5, none⟩ = some (.slice xa (rlAt c.rules j).ex.args.length xc) ∧ w'.cell? ⟨sb, 18 + k, none⟩ = some (U k)) [24] (by kernel_rfl) ?_
                  refine anyZ_take1 (i := 0) (v := .pointer (some ⟨sb, 0, none⟩)) rfl (by kernel_rfl) (by kernel_rfl) (by kernel_rfl) (by kernel_rfl) (fun _ _ _ h => h) (by rfl) (fun w' hS' => ?_) HSd ?_
                  · obtain ⟨g0, g1, g2, g3, g4, g5, g6⟩ := hS'
                    go_simp
                  simp only [Act.put, List.setIfInBounds_toArray, List.set_cons_zero, List.set_cons_succ]
                  refine anyZ_take1 (i := 1) (v := .pointer (some ⟨rb, 0, none⟩)) rfl (by kernel_rfl) (by kernel_rfl) (by kernel_rfl) (by kernel_rfl) (fun _ _ _ h => h) (by rfl) (fun w' hS' => ?_) HSd ?_
                  · obtain ⟨g0, g1, g2, g3, g4, g5, g6⟩ := hS'
                    go_simp
                  simp only [Act.put, List.setIfInBounds_toArray, List.set_cons_zero, List.set_cons_succ]
                  refine anyZ_take1 (i := 2) (v := .int .i64 (k : Int)) rfl (by kernel_rfl) (by kernel_rfl) (by kernel_rfl) (by kernel_rfl) (fun _ _ _ h => h) (by rfl) (fun w' hS' => ?_) HSd ?_
                  · obtain ⟨g0, g1, g2, g3, g4, g5, g6⟩ := hS'
                    go_simp
                  simp only [Act.put, List.setIfInBounds_toArray, List.set_cons_zero, List.set_cons_succ]
                  refine anyZ_take1 (i := 3) (v := .pointer (some ⟨sb, 0, none⟩)) rfl (by kernel_rfl) (by kernel_rfl) (by kernel_rfl) (by kernel_rfl) (fun _ _ _ h => h) (by rfl) (fun w' hS' => ?_) HSd ?_
                  · obtain ⟨g0, g1, g2, g3, g4, g5, g6⟩ := hS'
                    go_simp
                  simp only [Act.put, List.setIfInBounds_toArray, List.set_cons_zero, List.set_cons_succ]
                  refine anyZ_take1 (i := 4) (v := .pointer (some ⟨rb, 0, none⟩)) rfl (by kernel_rfl) (by kernel_rfl) (by kernel_rfl) (by kernel_rfl) (fun _ _ _ h => h) (by rfl) (fun w' hS' => ?_) HSd ?_
                  · obtain ⟨g0, g1, g2, g3, g4, g5, g6⟩ := hS'
                    go_simp
                  simp only [Act.put, List.setIfInBounds_toArray, List.set_cons_zero, List.set_cons_succ]
                  refine anyZ_take1 (i := 5) (v := .int .i64 (k : Int)) rfl (by kernel_rfl) (by kernel_rfl) (by kernel_rfl) (by kernel_rfl) (fun _ _ _ h => h) (by rfl) (fun w' hS' => ?_) HSd ?_
                  · obtain ⟨g0, g1, g2, g3, g4, g5, g6⟩ := hS'
                    go_simp
                  simp only [Act.put, List.setIfInBounds_toArray, List.set_cons_zero, List.set_cons_succ]
                  refine anyZ_take1 (i := 6) (v := .pointer (some ⟨sb, 0, none⟩)) rfl (by kernel_rfl) (by kernel_rfl) (by kernel_rfl) (by kernel_rfl) (fun _ _ _ h => h) (by rfl) (fun w' hS' => ?_) HSd ?_
                  · obtain ⟨g0, g1, g2, g3, g4, g5, g6⟩ := hS'
                    go_simp
                  simp only [Act.put, List.setIfInBounds_toArray, List.set_cons_zero, List.set_cons_succ]
                  refine anyZ_take1 (i := 7) (v := .pointer (some ⟨sb, 18, none⟩)) rfl (by kernel_rfl) (by kernel_rfl) (by kernel_rfl) (by kernel_rfl) (fun _ _ _ h => h) (by rfl) (fun w' hS' => ?_) HSd ?_
                  · obtain ⟨g0, g1, g2, g3, g4, g5, g6⟩ := hS'
                    go_simp
                  simp only [Act.put, List.setIfInBounds_toArray, List.set_cons_zero, List.set_cons_succ]
                  refine anyZ_take1 (i := 8) (v := .pointer (some ⟨sb, 18 + k, none⟩)) rfl (by kernel_rfl) (by kernel_rfl) (by kernel_rfl) (by kernel_rfl) (fun _ _ _ h => h) (by rfl) (fun w' hS' => ?_) HSd ?_
                  · obtain ⟨g0, g1, g2, g3, g4, g5, g6⟩ := hS'
                    go_simp
                  simp only [Act.put, List.setIfInBounds_toArray, List.set_cons_zero, List.set_cons_succ]
                  refine anyZ_take1 (i := 9) (v := U k) rfl (by kernel_rfl) (by kernel_rfl) (by kernel_rfl) (by kernel_rfl) (fun _ _ _ h => h) (by rfl) (fun w' hS' => ?_) HSd ?_
                  · obtain ⟨g0, g1, g2, g3, g4, g5, g6⟩ := hS'
                    go_simp
                  simp only [Act.put, List.setIfInBounds_toArray, List.set_cons_zero, List.set_cons_succ]
                  refine anyZ_take1 (i := 10) (v := .pointer (some ⟨rb, 1, none⟩)) rfl (by kernel_rfl) (by kernel_rfl) (by kernel_rfl) (by kernel_rfl) (fun _ _ _ h => h) (by rfl) (fun w' hS' => ?_) HSd ?_
                  · obtain ⟨g0, g1, g2, g3, g4, g5, g6⟩ := hS'
                    go_simp
                  simp only [Act.put, List.setIfInBounds_toArray, List.set_cons_zero, List.set_cons_succ]
                  refine anyZ_take1 (i := 11) (v := .string (rlAt c.rules j).name) rfl (by kernel_rfl) (by kernel_rfl) (by kernel_rfl) (by kernel_rfl) (fun _ _ _ h => h) (by rfl) (fun w' hS' => ?_) HSd ?_
                  · obtain ⟨g0, g1, g2, g3, g4, g5, g6⟩ := hS'
                    go_simp
                  simp only [Act.put, List.setIfInBounds_toArray, List.set_cons_zero, List.set_cons_succ]
                  refine anyZ_take1 (i := 12) (v := .pointer (some ⟨kp, 0, none⟩)) rfl (by kernel_rfl) (by kernel_rfl) (by kernel_rfl) (by kernel_rfl) (fun _ _ _ h => h) (by rfl) (fun w' hS' => ?_) HSd ?_
                  · obtain ⟨g0, g1, g2, g3, g4, g5, g6⟩ := hS'
                    go_simp
                  simp only [Act.put, List.setIfInBounds_toArray, List.set_cons_zero, List.set_cons_succ]
                  refine anyZ_take1 (i := 13) (v := .pointer (some ⟨rb, 0, none⟩)) rfl (by kernel_rfl) (by kernel_rfl) (by kernel_rfl) (by kernel_rfl) (fun _ _ _ h => h) (by rfl) (fun w' hS' => ?_) HSd ?_
                  · obtain ⟨g0, g1, g2, g3, g4, g5, g6⟩ := hS'
                    go_simp
                  simp only [Act.put, List.setIfInBounds_toArray, List.set_cons_zero, List.set_cons_succ]
                  refine anyZ_take1 (i := 14) (v := .int .i64 (k : Int)) rfl (by kernel_rfl) (by kernel_rfl) (by kernel_rfl) (by kernel_rfl) (fun _ _ _ h => h) (by rfl) (fun w' hS' => ?_) HSd ?_
                  · obtain ⟨g0, g1, g2, g3, g4, g5, g6⟩ := hS'
                    go_simp
                  simp only [Act.put, List.setIfInBounds_toArray, List.set_cons_zero, List.set_cons_succ]
                  refine anyZ_take1 (i := 15) (v := .pointer (some ⟨rb, 2, none⟩)) rfl (by kernel_rfl) (by kernel_rfl) (by kernel_rfl) (by kernel_rfl) (fun _ _ _ h => h) (by rfl) (fun w' hS' => ?_) HSd ?_
                  · obtain ⟨g0, g1, g2, g3, g4, g5, g6⟩ := hS'
                    go_simp
                  simp only [Act.put, List.setIfInBounds_toArray, List.set_cons_zero, List.set_cons_succ]
                  refine anyZ_take1 (i := 16) (v := .agg #[.int .i64 (rlAt c.rules j).ex.op, .int .i64 (rlAt c.rules j).ex.num, .string (rlAt c.rules j).ex.name, .slice xa (rlAt c.rules j).ex.args.length xc]) rfl (by kernel_rfl) (by kernel_rfl) (by kernel_rfl) (by kernel_rfl) (fun _ _ _ h => h) (by rfl) (fun w' hS' => ?_) HSd ?_
                  · obtain ⟨g0, g1, g2, g3, g4, g5, g6⟩ := hS'
                    go_simp
                  simp only [Act.put, List.setIfInBounds_toArray, List.set_cons_zero, List.set_cons_succ]
                  refine anyZ_pure1 (i := 21) (v := .pointer (some ⟨sb, 0, none⟩)) rfl (by kernel_rfl) (by kernel_rfl) (by kernel_rfl) (fun _ _ _ h => h) (by rfl) (fun w' => ?_) ?_
                  · go_simp
                  simp only [Act.put, List.setIfInBounds_toArray, List.set_cons_zero, List.set_cons_succ]
                  refine anyZ_pure1 (i := 22) (v := .pointer (some ⟨sb, 18, none⟩)) rfl (by kernel_rfl) (by kernel_rfl) (by kernel_rfl) (fun _ _ _ h => h) (by rfl) (fun w' => ?_) ?_
                  · go_simp
                  simp only [Act.put, List.setIfInBounds_toArray, List.set_cons_zero, List.set_cons_succ]
                  refine anyZ_one (i := 17) (o := { dst := some 96, op := Op.call { callee := Callee.value (Operand.func 94), args := #[Operand.tmp 91, Operand.tmp 93, Operand.tmp 95], argTypes := #[147, 3, 111] }, type := 150, pos := "setting.go:87", after := _, guard := none }) (by kernel_rfl) rfl (by rfl) (fun K hK => ?_)
                  go_simp
                  refine (HCMP.out k (rlAt c.rules j).ex xa xc W1.drew (by omega) (I1.out.cmp.below ((Below.refl _ W1).drew)) HFit.out HW.out hcnt HTY.out (HAr.out.keep ((Below.refl _ W1).drew))).mono ?_
                  rintro e w2 ⟨ya, yc, rfl, hFA, hFl, hC2, hg2⟩
                  obtain ⟨fm, hfm⟩ : ∃ fm, fm = cmpE (cvC c.consts c.consts.length) k (rlAt c.rules j).ex := ⟨_, rfl⟩
                  rw [← hfm] at hFA hFl
                  simp only [← hfm]
                  have HFM := Lib.hid hfm
                  have HFA := Lib.hid hFA
                  have HC2 := Lib.hid hC2
                  have HG2 := Lib.hid hg2
                  clear hfm hFA hC2
                  have HS2 : w2.cell? ⟨rb, 0, none⟩ = some (.int .i64 (k : Int)) ∧ w2.cell? ⟨rb, 1, none⟩ = some (.string (rlAt c.rules j).name) ∧ w2.cell? ⟨rb, 2, none⟩ = some (.int .i64 (rlAt c.rules j).ex.op) ∧ w2.cell? ⟨rb, 3, none⟩ = some (.int .i64 (rlAt c.rules j).ex.num) ∧ w2.cell? ⟨rb, 4, none⟩ = some (.string (rlAt c.rules j).ex.name) ∧ w2.cell? ⟨rb, 5, none⟩ = some (.slice xa (rlAt c.rules j).ex.args.length xc) ∧ w2.cell? ⟨sb, 18 + k, none⟩ = some (U k) := ⟨(hg2.cell_far ⟨rb, 0, none⟩ lrb (by simp; omega)).trans HSd.1, (hg2.cell_far ⟨rb, 1, none⟩ lrb (by simp; omega)).trans HSd.2.1, (hg2.cell_far ⟨rb, 2, none⟩ lrb (by simp; omega)).trans HSd.2.2.1, (hg2.cell_far ⟨rb, 3, none⟩ lrb (by simp; omega)).trans HSd.2.2.2.1, (hg2.cell_far ⟨rb, 4, none⟩ lrb (by simp; omega)).trans HSd.2.2.2.2.1, (hg2.cell_far ⟨rb, 5, none⟩ lrb (by simp; omega)).trans HSd.2.2.2.2.2.1, (hg2.cell_far ⟨sb, 18 + k, none⟩ lsb (by simp; omega)).trans HSd.2.2.2.2.2.2⟩
                  clear hg2
                  refine hK.out _ _ (fun _ _ => HS2) ?_
                  clear hK K
                  try simp only [Act.put, List.setIfInBounds_toArray, List.set_cons_zero, List.set_cons_succ]
                  have HIR := Lib.hid (I1.out.below ((Below.refl _ W1).drew))
                  have I2 := Lib.hid (HIR.out.move HG2.out HC2.out)
                  have LL := (List.length_filter_le (fun r : RuleM => decide (r.scope = (k : Int))) (c.rules.take j))
                  obtain ⟨cs, hown2, hrow2⟩ := I2.out.rul k (by omega)
                  have HO2 := Lib.hid hown2
                  have HR2 := Lib.hid hrow2
                  clear hown2 hrow2
                  refine anyZ_one (i := 18) (o := { dst := some 97, op := Op.build 153 #[(0, Operand.tmp 90), (1, Operand.tmp 96)], type := 153, pos := "setting.go:87", after := _, guard := none }) (by kernel_rfl) rfl (by rfl) (fun K hK => ?_)
                  go_simp
                  refine hK.out _ _ (fun _ h => h) ?_
                  clear hK K
                  try simp only [Act.put, List.setIfInBounds_toArray, List.set_cons_zero, List.set_cons_succ]
                  refine anyZ_one (i := 19) (o := { dst := some 98, op := Op.buildSlice 141 1 #[(0, Operand.tmp 97)], type := 141, pos := "setting.go:87", after := _, guard := none }) (by kernel_rfl) rfl (by rfl) (fun K hK => ?_)
                  go_simp
                  have HS3 : (w2.alloc (Obj.cells #[.string (rlAt c.rules j).name, .int .i64 fm.op, .int .i64 fm.num, .slice ya fm.args.length yc] 153)).cell? ⟨rb, 0, none⟩ = some (.int .i64 (k : Int)) ∧ (w2.alloc (Obj.cells #[.string (rlAt c.rules j).name, .int .i64 fm.op, .int .i64 fm.num, .slice ya fm.args.length yc] 153)).cell? ⟨rb, 1, none⟩ = some (.string (rlAt c.rules j).name) ∧ (w2.alloc (Obj.cells #[.string (rlAt c.rules j).name, .int .i64 fm.op, .int .i64 fm.num, .slice ya fm.args.length yc] 153)).cell? ⟨rb, 2, none⟩ = some (.int .i64 (rlAt c.rules j).ex.op) ∧ (w2.alloc (Obj.cells #[.string (rlAt c.rules j).name, .int .i64 fm.op, .int .i64 fm.num, .slice ya fm.args.length yc] 153)).cell? ⟨rb, 3, none⟩ = some (.int .i64 (rlAt c.rules j).ex.num) ∧ (w2.alloc (Obj.cells #[.string (rlAt c.rules j).name, .int .i64 fm.op, .int .i64 fm.num, .slice ya fm.args.length yc] 153)).cell? ⟨rb, 4, none⟩ = some (.string (rlAt c.rules j).ex.name) ∧ (w2.alloc (Obj.cells #[.string (rlAt c.rules j).name, .int .i64 fm.op, .int .i64 fm.num, .slice ya fm.args.length yc] 153)).cell? ⟨rb, 5, none⟩ = some (.slice xa (rlAt c.rules j).ex.args.length xc) ∧ (w2.alloc (Obj.cells #[.string (rlAt c.rules j).name, .int .i64 fm.op, .int .i64 fm.num, .slice ya fm.args.length yc] 153)).cell? ⟨sb, 18 + k, none⟩ = some (U k) := ⟨below_cell HS2.1 (Nat.lt_of_lt_of_le lrb HG2.out.size) (below_new w2 _), below_cell HS2.2.1 (Nat.lt_of_lt_of_le lrb HG2.out.size) (below_new w2 _), below_cell HS2.2.2.1 (Nat.lt_of_lt_of_le lrb HG2.out.size) (below_new w2 _), below_cell HS2.2.2.2.1 (Nat.lt_of_lt_of_le lrb HG2.out.size) (below_new w2 _), below_cell HS2.2.2.2.2.1 (Nat.lt_of_lt_of_le lrb HG2.out.size) (below_new w2 _), below_cell HS2.2.2.2.2.2.1 (Nat.lt_of_lt_of_le lrb HG2.out.size) (below_new w2 _), below_cell HS2.2.2.2.2.2.2 (Nat.lt_of_lt_of_le lsb HG2.out.size) (below_new w2 _)⟩
                  refine hK.out _ _ (fun _ _ => HS3) ?_
                  clear hK K
                  try simp only [Act.put, List.setIfInBounds_toArray, List.set_cons_zero, List.set_cons_succ]
                  refine anyZ_one (i := 20) (o := { dst := some 99, op := Op.call { callee := Callee.builtin Builtin.append, args := #[Operand.tmp 88, Operand.tmp 98], argTypes := #[141, 141] }, type := 141, pos := "setting.go:87", after := _, guard := none }) (by kernel_rfl) rfl (by rfl) (fun K hK => ?_)
                  refine wp_append_lies _ (Operand.tmp 88) (Operand.tmp 98) 141 rfl w6.heap.size 153 ri0 (.agg #[.string ByteArray.empty, .int .i64 0, .int .i64 0, .slice none 0 0]) 4 56 Tryz.underlying141 hri hrz0 hrz1 hrz2 rfl (by decide) (U k) _ cs rfl (HO2.out.alloc _) ⟨w2.heap.size, 0, none⟩ 1 1 [.string (rlAt c.rules j).name, .int .i64 fm.op, .int .i64 fm.num, .slice ya fm.args.length yc] rfl rfl (fresh_cells w2 [.string (rlAt c.rules j).name, .int .i64 fm.op, .int .i64 fm.num, .slice ya fm.args.length yc] 153) ?q1 (by decide) ?q2 ?q3 ?q4 (w2.heap.size + 1) (by simp) ?q5
                  case q1 => intro u hu; simp at hu; rcases hu with rfl | rfl | rfl | rfl <;> rfl
                  case q2 => have := rulesL_len c (c.rules.take j) k; have := hRN; simp only [List.length_take] at *; unfold maxLen; omega
                  case q3 => have := rulesL_len c (c.rules.take j) k; have := hRN; simp only [List.length_take] at *; omega
                  case q4 => have := HG2.out.size; have := HIR.out.size; simp; exact Nat.le_succ_of_le (Nat.le_trans HIR.out.size HG2.out.size)
                  intro g cap w3 hown3 hgrow hat hlt3
                  have own_rb : (U k).ownBlock ≠ some rb := fun e => by have := (Hown.out rb e).2; have := HRB.out; omega
                  have own_sb : (U k).ownBlock ≠ some sb := fun e => by have h1 : w6.heap.size ≤ sb := (Hown.out sb e).1; omega
                  have HS4 : w3.cell? ⟨rb, 0, none⟩ = some (.int .i64 (k : Int)) ∧ w3.cell? ⟨rb, 1, none⟩ = some (.string (rlAt c.rules j).name) ∧ w3.cell? ⟨rb, 2, none⟩ = some (.int .i64 (rlAt c.rules j).ex.op) ∧ w3.cell? ⟨rb, 3, none⟩ = some (.int .i64 (rlAt c.rules j).ex.num) ∧ w3.cell? ⟨rb, 4, none⟩ = some (.string (rlAt c.rules j).ex.name) ∧ w3.cell? ⟨rb, 5, none⟩ = some (.slice xa (rlAt c.rules j).ex.args.length xc) ∧ w3.cell? ⟨sb, 18 + k, none⟩ = some (U k) := ⟨(hgrow.cell_far ⟨rb, 0, none⟩ (by simp; exact Nat.lt_succ_of_lt (Nat.lt_of_lt_of_le lrb HG2.out.size)) (Ne.symm own_rb)).trans HS3.1, (hgrow.cell_far ⟨rb, 1, none⟩ (by simp; exact Nat.lt_succ_of_lt (Nat.lt_of_lt_of_le lrb HG2.out.size)) (Ne.symm own_rb)).trans HS3.2.1, (hgrow.cell_far ⟨rb, 2, none⟩ (by simp; exact Nat.lt_succ_of_lt (Nat.lt_of_lt_of_le lrb HG2.out.size)) (Ne.symm own_rb)).trans HS3.2.2.1, (hgrow.cell_far ⟨rb, 3, none⟩ (by simp; exact Nat.lt_succ_of_lt (Nat.lt_of_lt_of_le lrb HG2.out.size)) (Ne.symm own_rb)).trans HS3.2.2.2.1, (hgrow.cell_far ⟨rb, 4, none⟩ (by simp; exact Nat.lt_succ_of_lt (Nat.lt_of_lt_of_le lrb HG2.out.size)) (Ne.symm own_rb)).trans HS3.2.2.2.2.1, (hgrow.cell_far ⟨rb, 5, none⟩ (by simp; exact Nat.lt_succ_of_lt (Nat.lt_of_lt_of_le lrb HG2.out.size)) (Ne.symm own_rb)).trans HS3.2.2.2.2.2.1, (hgrow.cell_far ⟨sb, 18 + k, none⟩ (by simp; exact Nat.lt_succ_of_lt (Nat.lt_of_lt_of_le lsb HG2.out.size)) (Ne.symm own_sb)).trans HS3.2.2.2.2.2.2⟩
                  refine hK.out _ _ (fun _ _ => HS4) ?_
                  clear hK K
                  try simp only [Act.put, List.setIfInBounds_toArray, List.set_cons_zero, List.set_cons_succ]
                  refine anyZ_one (i := 23) (o := { dst := some 102, op := Op.indexAddr 142 (Operand.tmp 101) (Operand.tmp 81), type := 0, pos := "setting.go:87", after := _, guard := none }) (by kernel_rfl) rfl (by rfl) (fun K hK => ?_)
                  go_simp
                  refine hK.out _ _ (fun _ h => h) ?_
                  clear hK K
                  try simp only [Act.put, List.setIfInBounds_toArray, List.set_cons_zero, List.set_cons_succ]
                  have GR := Lib.hid (Grew.mk (Lib.grownBy_trans (grown_below _ (below_new w2 _)) hgrow) (by show some g = (U k).ownBlock ∨ ∃ H, w2.heap.size ≤ H ∧ some g = some H; rcases hat with h | h; exact .inl h.symm; exact .inr ⟨_, Nat.le_succ _, by rw [h]⟩) : Grew (⟨t, c, za, zc, aa, ac, fa, fc, p, zb, sb, cb, kp, ib, vb, ps, w.heap.size, w6.heap.size⟩ : NwP) w2 w3 U k (.slice (some ⟨g, 0, none⟩) ((rulesL c (c.rules.take j) k).length + 1) cap))
                  have bx3 : w3.heap[sb]? = some (.cells (sbA (⟨t, c, za, zc, aa, ac, fa, fc, p, zb, sb, cb, kp, ib, vb, ps, w.heap.size, w6.heap.size⟩ : NwP) U false) 146 (0, 0)) := (hgrow.block sb (by simp; exact Nat.lt_succ_of_lt (Nat.lt_of_lt_of_le lsb HG2.out.size)) (Ne.symm own_sb)).trans (one_alloc I2.out.box)
                  have st6 : w3.cell? ⟨sb, 18 + k, none⟩ = some (U k) := HS4.2.2.2.2.2.2
                  have sfz : w3.frozen? ⟨sb, 18 + k, none⟩ = false := freeW bx3
                  have lsb3 := lt_of_block bx3
                  refine anyZ_one (i := 24) (o := { dst := none, op := Op.store 141 (Operand.tmp 102) (Operand.tmp 99), type := 0, pos := "setting.go:87", after := _, guard := none }) (by kernel_rfl) rfl (by rfl) (fun K hK => ?_)
                  go_simp
                  refine hK.out _ _ (fun h _ => absurd (by decide : (24 : Nat) ∈ [24]) h) ?_
                  clear hK K
                  try simp only [Act.put, List.setIfInBounds_toArray, List.set_cons_zero, List.set_cons_succ]
                  have I4 := Lib.hid (NInv.rule HIR.out (by omega) hrn HG2.out HC2.out HR2.out HFA.out hFl GR.out hown3)
                  refine anyZ_done (by kernel_rfl) ?_
                  clear bx3 st6 sfz lsb3 HS4 HS3 HS2 HSd GR hown3 hgrow hat hlt3 own_rb own_sb I2 HO2 HR2 HFA HC2 HG2 HIR
                  have HU := Lib.hid (show rulesL c (c.rules.take (j + 1)) = updL (rulesL c (c.rules.take j)) k ((rlAt c.rules j).name, fm) by rw [take_rl _ _ hlt, rulesL_upd c _ _ HSC.out, HFM.out]; rfl)
                  generalize w3.setCell ⟨sb, 18 + k, none⟩ (.slice (some ⟨g, 0, none⟩) ((rulesL c (c.rules.take j) k).length + 1) cap) = W4 at *
                  go_wp2_with fail
                  go_roundw
                  case rel => exact ⟨j + 1, _, by omega, by go_num, Lib.hid (by rw [HU.out]; exact I4.out)⟩
                  case measure => simp [intOf]; omega
                · obtain rfl : j = c.rules.length := by omega
                  rw [List.take_length] at hI
                  obtain ⟨W7, rfl⟩ : ∃ W7 : World, W7 = wr := ⟨_, rfl⟩
                  have HOK2 := Lib.hid (fun i (hi : i < c.costs.length) => cost_ok HV2.out hi)
                  have c7_9 : W7.cell? ⟨cb, 9, none⟩ = some (.slice p.ka c.costs.length p.kc) := cellW (j := 9) hI.out.con rfl
                  have hcl7 : cb < W7.heap.size := lt_of_block hI.out.con
                  have hcl2 := (HC.out.costs).1
                  have hKN : c.costs.length ≤ 10000 := by have h := (valG_parts (valT_parts HV2.out).g).1; simp [sizeB] at h; omega
                  clear HOK hj hlt
                  go_wp2_with fail
                  clear c7_9 hcl7
                  go_loopw [107] (fun i wr => ∃ (j : Nat) (U : Nat → Value), j ≤ c.costs.length ∧ i = .int .i64 j ∧ Hid (NInv (⟨t, c, za, zc, aa, ac, fa, fc, p, zb, sb, cb, kp, ib, vb, ps, w.heap.size, w6.heap.size⟩ : NwP) w w6 wr U (rulesL c c.rules) (costsL c (c.costs.take j)) false)) (fun i _ => c.costs.length - (intOf i).toNat)
                  case atStart => exact ⟨0, U, Nat.zero_le _, rfl, hI⟩
                  clear hI
                  case round =>
                    obtain ⟨j, U, hj, rfl, hI⟩ := hrel
                    by_cases hlt : j < c.costs.length
                    · obtain ⟨k, hsc, hk1, hk3, hwf, hcnt, hty⟩ := HOK2.out j hlt
                      obtain ⟨b, off, hka, hb, hcs⟩ := ((HC.out.keep hI.out.bel).costs).cells (by omega)
                      obtain ⟨r0, _, xa, xc, ⟨r1, r2, r3, r4⟩, hfit, hargs⟩ := hcs j hlt
                      rw [hsc] at r0
                      have hbw : b < wr.heap.size := Nat.lt_of_lt_of_le hb (Nat.le_trans hI.out.bs hI.out.size)
                      have HW := Lib.hid hwf
                      have HTY := Lib.hid hty
                      have HSC := Lib.hid hsc
                      rw [hka]
                      clear hcs hka hsc hwf hty
                      go_wp2_with fail
                      have I1 := Lib.hid (hI.out.below (below_new wr (Obj.cells #[.int .i64 (k : Int), .int .i64 (coAt c.costs j).ex.op, .int .i64 (coAt c.costs j).ex.num, .string (coAt c.costs j).ex.name, .slice xa (coAt c.costs j).ex.args.length xc] 115)))
                      have QB := Lib.hid (heap_new wr (Obj.cells #[.int .i64 (k : Int), .int .i64 (coAt c.costs j).ex.op, .int .i64 (coAt c.costs j).ex.num, .string (coAt c.costs j).ex.name, .slice xa (coAt c.costs j).ex.args.length xc] 115))
                      have HAr := Lib.hid (hargs.keep ((below_new wr (Obj.cells #[.int .i64 (k : Int), .int .i64 (coAt c.costs j).ex.op, .int .i64 (coAt c.costs j).ex.num, .string (coAt c.costs j).ex.name, .slice xa (coAt c.costs j).ex.args.length xc] 115)).mono (Nat.le_trans hI.out.bs hI.out.size)))
                      have HFit := Lib.hid hfit
                      obtain ⟨rb, hrb⟩ : ∃ rb, rb = wr.heap.size := ⟨_, rfl⟩
                      rw [← hrb] at QB
                      simp only [← hrb]
                      have HRB := Lib.hid hrb
                      clear hrb
                      generalize wr.alloc (Obj.cells #[.int .i64 (k : Int), .int .i64 (coAt c.costs j).ex.op, .int .i64 (coAt c.costs j).ex.num, .string (coAt c.costs j).ex.name, .slice xa (coAt c.costs j).ex.args.length xc] 115) = W1 at *
                      clear r0 r1 r2 r3 r4
                      go_region
                      · have HB8 := Below.then (below_new W1 (Obj.cells #[.bool false] 4)) ((Below.refl _ (W1.alloc (Obj.cells #[.bool false] 4))).drew)
                        have I2 := Lib.hid (I1.out.below HB8)
                        have QB2 := Lib.hid ((HB8.block _ (lt_of_block QB.out)).trans QB.out)
                        have HAr2 := Lib.hid (HAr.out.keep (HB8.mono (Nat.le_trans I1.out.bs I1.out.size)))
                        go_wp2_with fail
                        generalize (W1.alloc (Obj.cells #[.bool false] 4)).drew = W2 at *
                        clear HB8
                        have I3 := Lib.hid (I2.out.below ((Below.refl _ W2).drew))
                        have HAr3 := Lib.hid (HAr2.out.keep ((Below.refl _ W2).drew))
                        have HSd : W2.drew.cell? ⟨rb, 0, none⟩ = some (.int .i64 (k : Int)) ∧ W2.drew.cell? ⟨rb, 1, none⟩ = some (.int .i64 (coAt c.costs j).ex.op) ∧ W2.drew.cell? ⟨rb, 2, none⟩ = some (.int .i64 (coAt c.costs j).ex.num) ∧ W2.drew.cell? ⟨rb, 3, none⟩ = some (.string (coAt c.costs j).ex.name) ∧ W2.drew.cell? ⟨rb, 4, none⟩ = some (.slice xa (coAt c.costs j).ex.args.length xc) ∧ W2.drew.cell? ⟨sb, 22 + k, none⟩ = some (U (4 + k)) := ⟨cellW (j := 0) QB2.out rfl, cellW (j := 1) QB2.out rfl, cellW (j := 2) QB2.out rfl, cellW (j := 3) QB2.out rfl, cellW (j := 4) QB2.out rfl, cellW I2.out.box (by rw [show 22 + k = 18 + (4 + k) by omega]; exact sbA_at _ U false (by omega))⟩
                        have k0 : (0 : Int) ≤ (k : Int) := by omega
                        have k4 : (k : Int) < 4 := by omega
                        have lrb : rb < W2.drew.heap.size := lt_of_block QB2.out
                        have lsb : sb < W2.drew.heap.size := lt_of_block I2.out.box
                        have F1 : sb < w6.heap.size := I2.out.fix.1
                        have F5 : vb < w6.heap.size := I2.out.fix.2.2.2.2.1
                        have hszb : w6.heap.size ≤ wr.heap.size := hI.out.size
                        have hrb := HRB.out
                        have Hrbv : rb ≠ vb := by omega
                        have Hsbv : sb ≠ vb := I2.out.ne.1
                        have Hown := Lib.hid (fun b (hb : (U (4 + k)).ownBlock = some b) => hI.out.owns (k := 4 + k) (by omega) hb)
                        clear hrb
                        refine region_Z (fun w' => w'.cell? ⟨rb, 0, none⟩ = some (.int .i64 (k : Int)) ∧ w'.cell? ⟨rb, 1, none⟩ = some (.int .i64 (coAt c.costs j).ex.op) ∧ w'.cell? ⟨rb, 2, none⟩ = some (.int .i64 (coAt c.costs j).ex.num) ∧ w'.cell? ⟨rb, 3, none⟩ = some (.string (coAt c.costs j).ex.name) ∧ w'.cell? ⟨rb, 4, none⟩ = some (.slice xa (coAt c.costs j).ex.args.length xc) ∧ w'.cell? ⟨sb, 22 + k, none⟩ = some (U (4 + k))) [21] (by kernel_rfl) ?_
                        refine anyZ_take1 (i := 0) (v := .pointer (some ⟨sb, 0, none⟩)) rfl (by kernel_rfl) (by kernel_rfl) (by kernel_rfl) (by kernel_rfl) (fun _ _ _ h => h) (by rfl) (fun w' hS' => ?_) HSd ?_
                        · obtain ⟨g0, g1, g2, g3, g4, g6⟩ := hS'
                          go_simp
                        simp only [Act.put, List.setIfInBounds_toArray, List.set_cons_zero, List.set_cons_succ]
                        refine anyZ_take1 (i := 1) (v := .pointer (some ⟨rb, 0, none⟩)) rfl (by kernel_rfl) (by kernel_rfl) (by kernel_rfl) (by kernel_rfl) (fun _ _ _ h => h) (by rfl) (fun w' hS' => ?_) HSd ?_
                        · obtain ⟨g0, g1, g2, g3, g4, g6⟩ := hS'
                          go_simp
                        simp only [Act.put, List.setIfInBounds_toArray, List.set_cons_zero, List.set_cons_succ]
                        refine anyZ_take1 (i := 2) (v := .int .i64 (k : Int)) rfl (by kernel_rfl) (by kernel_rfl) (by kernel_rfl) (by kernel_rfl) (fun _ _ _ h => h) (by rfl) (fun w' hS' => ?_) HSd ?_
                        · obtain ⟨g0, g1, g2, g3, g4, g6⟩ := hS'
                          go_simp
                        simp only [Act.put, List.setIfInBounds_toArray, List.set_cons_zero, List.set_cons_succ]
                        refine anyZ_take1 (i := 3) (v := .pointer (some ⟨sb, 0, none⟩)) rfl (by kernel_rfl) (by kernel_rfl) (by kernel_rfl) (by kernel_rfl) (fun _ _ _ h => h) (by rfl) (fun w' hS' => ?_) HSd ?_
                        · obtain ⟨g0, g1, g2, g3, g4, g6⟩ := hS'
                          go_simp
                        simp only [Act.put, List.setIfInBounds_toArray, List.set_cons_zero, List.set_cons_succ]
                        refine anyZ_take1 (i := 4) (v := .pointer (some ⟨rb, 0, none⟩)) rfl (by kernel_rfl) (by kernel_rfl) (by kernel_rfl) (by kernel_rfl) (fun _ _ _ h => h) (by rfl) (fun w' hS' => ?_) HSd ?_
                        · obtain ⟨g0, g1, g2, g3, g4, g6⟩ := hS'
                          go_simp
                        simp only [Act.put, List.setIfInBounds_toArray, List.set_cons_zero, List.set_cons_succ]
                        refine anyZ_take1 (i := 5) (v := .int .i64 (k : Int)) rfl (by kernel_rfl) (by kernel_rfl) (by kernel_rfl) (by kernel_rfl) (fun _ _ _ h => h) (by rfl) (fun w' hS' => ?_) HSd ?_
                        · obtain ⟨g0, g1, g2, g3, g4, g6⟩ := hS'
                          go_simp
                        simp only [Act.put, List.setIfInBounds_toArray, List.set_cons_zero, List.set_cons_succ]
                        refine anyZ_take1 (i := 6) (v := .pointer (some ⟨sb, 0, none⟩)) rfl (by kernel_rfl) (by kernel_rfl) (by kernel_rfl) (by kernel_rfl) (fun _ _ _ h => h) (by rfl) (fun w' hS' => ?_) HSd ?_
                        · obtain ⟨g0, g1, g2, g3, g4, g6⟩ := hS'
                          go_simp
                        simp only [Act.put, List.setIfInBounds_toArray, List.set_cons_zero, List.set_cons_succ]
                        refine anyZ_take1 (i := 7) (v := .pointer (some ⟨sb, 22, none⟩)) rfl (by kernel_rfl) (by kernel_rfl) (by kernel_rfl) (by kernel_rfl) (fun _ _ _ h => h) (by rfl) (fun w' hS' => ?_) HSd ?_
                        · obtain ⟨g0, g1, g2, g3, g4, g6⟩ := hS'
                          go_simp
                        simp only [Act.put, List.setIfInBounds_toArray, List.set_cons_zero, List.set_cons_succ]
                        refine anyZ_take1 (i := 8) (v := .pointer (some ⟨sb, 22 + k, none⟩)) rfl (by kernel_rfl) (by kernel_rfl) (by kernel_rfl) (by kernel_rfl) (fun _ _ _ h => h) (by rfl) (fun w' hS' => ?_) HSd ?_
                        · obtain ⟨g0, g1, g2, g3, g4, g6⟩ := hS'
                          go_simp
                        simp only [Act.put, List.setIfInBounds_toArray, List.set_cons_zero, List.set_cons_succ]
                        refine anyZ_take1 (i := 9) (v := U (4 + k)) rfl (by kernel_rfl) (by kernel_rfl) (by kernel_rfl) (by kernel_rfl) (fun _ _ _ h => h) (by rfl) (fun w' hS' => ?_) HSd ?_
                        · obtain ⟨g0, g1, g2, g3, g4, g6⟩ := hS'
                          go_simp
                        simp only [Act.put, List.setIfInBounds_toArray, List.set_cons_zero, List.set_cons_succ]
                        refine anyZ_take1 (i := 10) (v := .pointer (some ⟨kp, 0, none⟩)) rfl (by kernel_rfl) (by kernel_rfl) (by kernel_rfl) (by kernel_rfl) (fun _ _ _ h => h) (by rfl) (fun w' hS' => ?_) HSd ?_
                        · obtain ⟨g0, g1, g2, g3, g4, g6⟩ := hS'
                          go_simp
                        simp only [Act.put, List.setIfInBounds_toArray, List.set_cons_zero, List.set_cons_succ]
                        refine anyZ_take1 (i := 11) (v := .pointer (some ⟨rb, 0, none⟩)) rfl (by kernel_rfl) (by kernel_rfl) (by kernel_rfl) (by kernel_rfl) (fun _ _ _ h => h) (by rfl) (fun w' hS' => ?_) HSd ?_
                        · obtain ⟨g0, g1, g2, g3, g4, g6⟩ := hS'
                          go_simp
                        simp only [Act.put, List.setIfInBounds_toArray, List.set_cons_zero, List.set_cons_succ]
                        refine anyZ_take1 (i := 12) (v := .int .i64 (k : Int)) rfl (by kernel_rfl) (by kernel_rfl) (by kernel_rfl) (by kernel_rfl) (fun _ _ _ h => h) (by rfl) (fun w' hS' => ?_) HSd ?_
                        · obtain ⟨g0, g1, g2, g3, g4, g6⟩ := hS'
                          go_simp
                        simp only [Act.put, List.setIfInBounds_toArray, List.set_cons_zero, List.set_cons_succ]
                        refine anyZ_take1 (i := 13) (v := .pointer (some ⟨rb, 1, none⟩)) rfl (by kernel_rfl) (by kernel_rfl) (by kernel_rfl) (by kernel_rfl) (fun _ _ _ h => h) (by rfl) (fun w' hS' => ?_) HSd ?_
                        · obtain ⟨g0, g1, g2, g3, g4, g6⟩ := hS'
                          go_simp
                        simp only [Act.put, List.setIfInBounds_toArray, List.set_cons_zero, List.set_cons_succ]
                        refine anyZ_take1 (i := 14) (v := .agg #[.int .i64 (coAt c.costs j).ex.op, .int .i64 (coAt c.costs j).ex.num, .string (coAt c.costs j).ex.name, .slice xa (coAt c.costs j).ex.args.length xc]) rfl (by kernel_rfl) (by kernel_rfl) (by kernel_rfl) (by kernel_rfl) (fun _ _ _ h => h) (by rfl) (fun w' hS' => ?_) HSd ?_
                        · obtain ⟨g0, g1, g2, g3, g4, g6⟩ := hS'
                          go_simp
                        simp only [Act.put, List.setIfInBounds_toArray, List.set_cons_zero, List.set_cons_succ]
                        refine anyZ_pure1 (i := 18) (v := .pointer (some ⟨sb, 0, none⟩)) rfl (by kernel_rfl) (by kernel_rfl) (by kernel_rfl) (fun _ _ _ h => h) (by rfl) (fun w' => ?_) ?_
                        · go_simp
                        simp only [Act.put, List.setIfInBounds_toArray, List.set_cons_zero, List.set_cons_succ]
                        refine anyZ_pure1 (i := 19) (v := .pointer (some ⟨sb, 22, none⟩)) rfl (by kernel_rfl) (by kernel_rfl) (by kernel_rfl) (fun _ _ _ h => h) (by rfl) (fun w' => ?_) ?_
                        · go_simp
                        simp only [Act.put, List.setIfInBounds_toArray, List.set_cons_zero, List.set_cons_succ]
                        refine anyZ_one (i := 15) (o := { dst := some 148, op := Op.call { callee := Callee.value (Operand.func 94), args := #[Operand.tmp 143, Operand.tmp 145, Operand.tmp 147], argTypes := #[147, 3, 111] }, type := 150, pos := "setting.go:90", after := _, guard := none }) (by kernel_rfl) rfl (by rfl) (fun K hK => ?_)
                        go_simp
                        refine (HCMP.out k (coAt c.costs j).ex xa xc W2.drew (by omega) I3.out.cmp HFit.out HW.out hcnt HTY.out HAr3.out).mono ?_
                        rintro e w2 ⟨ya, yc, rfl, hFA, hFl, hC2, hg2⟩
                        obtain ⟨fm, hfm⟩ : ∃ fm, fm = cmpE (cvC c.consts c.consts.length) k (coAt c.costs j).ex := ⟨_, rfl⟩
                        rw [← hfm] at hFA hFl
                        simp only [← hfm]
                        have HFM := Lib.hid hfm
                        have HFA := Lib.hid hFA
                        have HC2 := Lib.hid hC2
                        have HG2 := Lib.hid hg2
                        clear hfm hFA hC2
                        have HS2 : w2.cell? ⟨rb, 0, none⟩ = some (.int .i64 (k : Int)) ∧ w2.cell? ⟨rb, 1, none⟩ = some (.int .i64 (coAt c.costs j).ex.op) ∧ w2.cell? ⟨rb, 2, none⟩ = some (.int .i64 (coAt c.costs j).ex.num) ∧ w2.cell? ⟨rb, 3, none⟩ = some (.string (coAt c.costs j).ex.name) ∧ w2.cell? ⟨rb, 4, none⟩ = some (.slice xa (coAt c.costs j).ex.args.length xc) ∧ w2.cell? ⟨sb, 22 + k, none⟩ = some (U (4 + k)) := ⟨(hg2.cell_far ⟨rb, 0, none⟩ lrb (by simp; omega)).trans HSd.1, (hg2.cell_far ⟨rb, 1, none⟩ lrb (by simp; omega)).trans HSd.2.1, (hg2.cell_far ⟨rb, 2, none⟩ lrb (by simp; omega)).trans HSd.2.2.1, (hg2.cell_far ⟨rb, 3, none⟩ lrb (by simp; omega)).trans HSd.2.2.2.1, (hg2.cell_far ⟨rb, 4, none⟩ lrb (by simp; omega)).trans HSd.2.2.2.2.1, (hg2.cell_far ⟨sb, 22 + k, none⟩ lsb (by simp; omega)).trans HSd.2.2.2.2.2⟩
                        clear hg2
                        refine hK.out _ _ (fun _ _ => HS2) ?_
                        clear hK K
                        try simp only [Act.put, List.setIfInBounds_toArray, List.set_cons_zero, List.set_cons_succ]
                        have I4 := Lib.hid (I3.out.move HG2.out HC2.out)
                        obtain ⟨cs, hown2, hrow2⟩ := I4.out.cos k (by omega)
                        have HO2 := Lib.hid hown2
                        have HR2 := Lib.hid hrow2
                        clear hown2 hrow2
                        refine anyZ_one (i := 16) (o := { dst := some 149, op := Op.buildSlice 143 1 #[(0, Operand.tmp 148)], type := 143, pos := "setting.go:90", after := _, guard := none }) (by kernel_rfl) rfl (by rfl) (fun K hK => ?_)
                        go_simp
                        have HS3 : (w2.alloc (Obj.cells #[.int .i64 fm.op, .int .i64 fm.num, .slice ya fm.args.length yc] 150)).cell? ⟨rb, 0, none⟩ = some (.int .i64 (k : Int)) ∧ (w2.alloc (Obj.cells #[.int .i64 fm.op, .int .i64 fm.num, .slice ya fm.args.length yc] 150)).cell? ⟨rb, 1, none⟩ = some (.int .i64 (coAt c.costs j).ex.op) ∧ (w2.alloc (Obj.cells #[.int .i64 fm.op, .int .i64 fm.num, .slice ya fm.args.length yc] 150)).cell? ⟨rb, 2, none⟩ = some (.int .i64 (coAt c.costs j).ex.num) ∧ (w2.alloc (Obj.cells #[.int .i64 fm.op, .int .i64 fm.num, .slice ya fm.args.length yc] 150)).cell? ⟨rb, 3, none⟩ = some (.string (coAt c.costs j).ex.name) ∧ (w2.alloc (Obj.cells #[.int .i64 fm.op, .int .i64 fm.num, .slice ya fm.args.length yc] 150)).cell? ⟨rb, 4, none⟩ = some (.slice xa (coAt c.costs j).ex.args.length xc) ∧ (w2.alloc (Obj.cells #[.int .i64 fm.op, .int .i64 fm.num, .slice ya fm.args.length yc] 150)).cell? ⟨sb, 22 + k, none⟩ = some (U (4 + k)) := ⟨below_cell HS2.1 (Nat.lt_of_lt_of_le lrb HG2.out.size) (below_new w2 _), below_cell HS2.2.1 (Nat.lt_of_lt_of_le lrb HG2.out.size) (below_new w2 _), below_cell HS2.2.2.1 (Nat.lt_of_lt_of_le lrb HG2.out.size) (below_new w2 _), below_cell HS2.2.2.2.1 (Nat.lt_of_lt_of_le lrb HG2.out.size) (below_new w2 _), below_cell HS2.2.2.2.2.1 (Nat.lt_of_lt_of_le lrb HG2.out.size) (below_new w2 _), below_cell HS2.2.2.2.2.2 (Nat.lt_of_lt_of_le lsb HG2.out.size) (below_new w2 _)⟩
                        refine hK.out _ _ (fun _ _ => HS3) ?_
                        clear hK K
                        try simp only [Act.put, List.setIfInBounds_toArray, List.set_cons_zero, List.set_cons_succ]
                        refine anyZ_one (i := 17) (o := { dst := some 150, op := Op.call { callee := Callee.builtin Builtin.append, args := #[Operand.tmp 142, Operand.tmp 149], argTypes := #[143, 143] }, type := 143, pos := "setting.go:90", after := _, guard := none }) (by kernel_rfl) rfl (by rfl) (fun K hK => ?_)
                        refine wp_append_lies _ (Operand.tmp 142) (Operand.tmp 149) 143 rfl w6.heap.size 150 fi0 (.agg #[.int .i64 0, .int .i64 0, .slice none 0 0]) 3 40 Tryz.underlying143 hfi hfz0 hfz1 hfz2 rfl (by decide) (U (4 + k)) _ cs rfl (HO2.out.alloc _) ⟨w2.heap.size, 0, none⟩ 1 1 [.int .i64 fm.op, .int .i64 fm.num, .slice ya fm.args.length yc] rfl rfl (fresh_cells w2 [.int .i64 fm.op, .int .i64 fm.num, .slice ya fm.args.length yc] 150) ?p1 (by decide) ?p2 ?p3 ?p4 (w2.heap.size + 1) (by simp) ?p5
                        case p1 => intro u hu; simp at hu; rcases hu with rfl | rfl | rfl <;> rfl
                        case p2 => have := costsL_len c (c.costs.take j) k; have := hKN; simp only [List.length_take] at *; unfold maxLen; omega
                        case p3 => have := costsL_len c (c.costs.take j) k; have := hKN; simp only [List.length_take] at *; omega
                        case p4 => simp; exact Nat.le_succ_of_le (Nat.le_trans I3.out.size HG2.out.size)
                        intro g cap w3 hown3 hgrow hat hlt3
                        have own_rb : (U (4 + k)).ownBlock ≠ some rb := fun e => by have := (Hown.out rb e).2; have := HRB.out; omega
                        have own_sb : (U (4 + k)).ownBlock ≠ some sb := fun e => by have h1 : w6.heap.size ≤ sb := (Hown.out sb e).1; omega
                        have HS4 : w3.cell? ⟨rb, 0, none⟩ = some (.int .i64 (k : Int)) ∧ w3.cell? ⟨rb, 1, none⟩ = some (.int .i64 (coAt c.costs j).ex.op) ∧ w3.cell? ⟨rb, 2, none⟩ = some (.int .i64 (coAt c.costs j).ex.num) ∧ w3.cell? ⟨rb, 3, none⟩ = some (.string (coAt c.costs j).ex.name) ∧ w3.cell? ⟨rb, 4, none⟩ = some (.slice xa (coAt c.costs j).ex.args.length xc) ∧ w3.cell? ⟨sb, 22 + k, none⟩ = some (U (4 + k)) := ⟨(hgrow.cell_far ⟨rb, 0, none⟩ (by simp; exact Nat.lt_succ_of_lt (Nat.lt_of_lt_of_le lrb HG2.out.size)) (Ne.symm own_rb)).trans HS3.1, (hgrow.cell_far ⟨rb, 1, none⟩ (by simp; exact Nat.lt_succ_of_lt (Nat.lt_of_lt_of_le lrb HG2.out.size)) (Ne.symm own_rb)).trans HS3.2.1, (hgrow.cell_far ⟨rb, 2, none⟩ (by simp; exact Nat.lt_succ_of_lt (Nat.lt_of_lt_of_le lrb HG2.out.size)) (Ne.symm own_rb)).trans HS3.2.2.1, (hgrow.cell_far ⟨rb, 3, none⟩ (by simp; exact Nat.lt_succ_of_lt (Nat.lt_of_lt_of_le lrb HG2.out.size)) (Ne.symm own_rb)).trans HS3.2.2.2.1, (hgrow.cell_far ⟨rb, 4, none⟩ (by simp; exact Nat.lt_succ_of_lt (Nat.lt_of_lt_of_le lrb HG2.out.size)) (Ne.symm own_rb)).trans HS3.2.2.2.2.1, (hgrow.cell_far ⟨sb, 22 + k, none⟩ (by simp; exact Nat.lt_succ_of_lt (Nat.lt_of_lt_of_le lsb HG2.out.size)) (Ne.symm own_sb)).trans HS3.2.2.2.2.2⟩
                        refine hK.out _ _ (fun _ _ => HS4) ?_
                        clear hK K
                        try simp only [Act.put, List.setIfInBounds_toArray, List.set_cons_zero, List.set_cons_succ]
                        refine anyZ_one (i := 20) (o := { dst := some 153, op := Op.indexAddr 144 (Operand.tmp 152) (Operand.tmp 135), type := 0, pos := "setting.go:90", after := _, guard := none }) (by kernel_rfl) rfl (by rfl) (fun K hK => ?_)
                        go_simp
                        refine hK.out _ _ (fun _ h => h) ?_
                        clear hK K
                        try simp only [Act.put, List.setIfInBounds_toArray, List.set_cons_zero, List.set_cons_succ]
                        have GR := Lib.hid (Grew.mk (Lib.grownBy_trans (grown_below _ (below_new w2 _)) hgrow) (by show some g = (U (4 + k)).ownBlock ∨ ∃ H, w2.heap.size ≤ H ∧ some g = some H; rcases hat with h | h; exact .inl h.symm; exact .inr ⟨_, Nat.le_succ _, by rw [h]⟩) : Grew (⟨t, c, za, zc, aa, ac, fa, fc, p, zb, sb, cb, kp, ib, vb, ps, w.heap.size, w6.heap.size⟩ : NwP) w2 w3 U (4 + k) (.slice (some ⟨g, 0, none⟩) ((costsL c (c.costs.take j) k).length + 1) cap))
                        have bx3 : w3.heap[sb]? = some (.cells (sbA (⟨t, c, za, zc, aa, ac, fa, fc, p, zb, sb, cb, kp, ib, vb, ps, w.heap.size, w6.heap.size⟩ : NwP) U false) 146 (0, 0)) := (hgrow.block sb (by simp; exact Nat.lt_succ_of_lt (Nat.lt_of_lt_of_le lsb HG2.out.size)) (Ne.symm own_sb)).trans (one_alloc I4.out.box)
                        have st6 : w3.cell? ⟨sb, 22 + k, none⟩ = some (U (4 + k)) := HS4.2.2.2.2.2
                        have sfz : w3.frozen? ⟨sb, 22 + k, none⟩ = false := freeW bx3
                        have lsb3 := lt_of_block bx3
                        refine anyZ_one (i := 21) (o := { dst := none, op := Op.store 143 (Operand.tmp 153) (Operand.tmp 150), type := 0, pos := "setting.go:90", after := _, guard := none }) (by kernel_rfl) rfl (by rfl) (fun K hK => ?_)
                        go_simp
                        refine hK.out _ _ (fun h _ => absurd (by decide : (21 : Nat) ∈ [21]) h) ?_
                        clear hK K
                        try simp only [Act.put, List.setIfInBounds_toArray, List.set_cons_zero, List.set_cons_succ]
                        have I5 := Lib.hid (NInv.cost I3.out (by omega) HG2.out HC2.out HR2.out HFA.out hFl GR.out hown3)
                        rw [show 18 + (4 + k) = 22 + k by omega] at I5
                        refine anyZ_done (by kernel_rfl) ?_
                        clear bx3 st6 sfz lsb3 HS4 HS3 HS2 HSd GR hown3 hgrow hat hlt3 own_rb own_sb I4 HO2 HR2 HFA HC2 HG2 I3
                        have HU := Lib.hid (show costsL c (c.costs.take (j + 1)) = updL (costsL c (c.costs.take j)) k fm by rw [take_co _ _ hlt, costsL_upd c _ _ HSC.out, HFM.out]; rfl)
                        generalize w3.setCell ⟨sb, 22 + k, none⟩ (.slice (some ⟨g, 0, none⟩) ((costsL c (c.costs.take j) k).length + 1) cap) = W4 at *
                        go_wp2_with fail
                        go_roundw
                        case rel => exact ⟨j + 1, _, by omega, by go_num, Lib.hid (by rw [HU.out]; exact I5.out)⟩
                        case measure => simp [intOf]; omega
                      · have HB8 := Below.then (below_new W1 (Obj.cells #[.bool true] 4)) ((Below.refl _ (W1.alloc (Obj.cells #[.bool true] 4))).drew)
                        have I2 := Lib.hid (I1.out.below HB8)
                        have QB2 := Lib.hid ((HB8.block _ (lt_of_block QB.out)).trans QB.out)
                        have HAr2 := Lib.hid (HAr.out.keep (HB8.mono (Nat.le_trans I1.out.bs I1.out.size)))
                        go_wp2_with fail
                        generalize (W1.alloc (Obj.cells #[.bool true] 4)).drew = W2 at *
                        clear HB8
                        have I3 := Lib.hid (I2.out.below ((Below.refl _ W2).drew))
                        have HAr3 := Lib.hid (HAr2.out.keep ((Below.refl _ W2).drew))
                        have HSd : W2.drew.cell? ⟨rb, 0, none⟩ = some (.int .i64 (k : Int)) ∧ W2.drew.cell? ⟨rb, 1, none⟩ = some (.int .i64 (coAt c.costs j).ex.op) ∧ W2.drew.cell? ⟨rb, 2, none⟩ = some (.int .i64 (coAt c.costs j).ex.num) ∧ W2.drew.cell? ⟨rb, 3, none⟩ = some (.string (coAt c.costs j).ex.name) ∧ W2.drew.cell? ⟨rb, 4, none⟩ = some (.slice xa (coAt c.costs j).ex.args.length xc) ∧ W2.drew.cell? ⟨sb, 22 + k, none⟩ = some (U (4 + k)) := ⟨cellW (j := 0) QB2.out rfl, cellW (j := 1) QB2.out rfl, cellW (j := 2) QB2.out rfl, cellW (j := 3) QB2.out rfl, cellW (j := 4) QB2.out rfl, cellW I2.out.box (by rw [show 22 + k = 18 + (4 + k) by omega]; exact sbA_at _ U false (by omega))⟩
                        have k0 : (0 : Int) ≤ (k : Int) := by omega
                        have k4 : (k : Int) < 4 := by omega
                        have lrb : rb < W2.drew.heap.size := lt_of_block QB2.out
                        have lsb : sb < W2.drew.heap.size := lt_of_block I2.out.box
                        have F1 : sb < w6.heap.size := I2.out.fix.1
                        have F5 : vb < w6.heap.size := I2.out.fix.2.2.2.2.1
                        have hszb : w6.heap.size ≤ wr.heap.size := hI.out.size
                        have hrb := HRB.out
                        have Hrbv : rb ≠ vb := by omega
                        have Hsbv : sb ≠ vb := I2.out.ne.1
                        have Hown := Lib.hid (fun b (hb : (U (4 + k)).ownBlock = some b) => hI.out.owns (k := 4 + k) (by omega) hb)
                        clear hrb
                        have HUF := Lib.hid (show ∃ ua uc, U (4 + k) = .slice ua (costsL c (c.costs.take j) k).length uc by
                          obtain ⟨cs, ho, _⟩ := I2.out.cos k (by omega)
                          exact row_form ho)
                        obtain ⟨ua, uc, hu0⟩ := HUF.out
                        clear HUF
                        have HUF := Lib.hid hu0
                        clear hu0
                        refine region_Z (fun w' => w'.cell? ⟨rb, 0, none⟩ = some (.int .i64 (k : Int)) ∧ w'.cell? ⟨rb, 1, none⟩ = some (.int .i64 (coAt c.costs j).ex.op) ∧ w'.cell? ⟨rb, 2, none⟩ = some (.int .i64 (coAt c.costs j).ex.num) ∧ w'.cell? ⟨rb, 3, none⟩ = some (.string (coAt c.costs j).ex.name) ∧ w'.cell? ⟨rb, 4, none⟩ = some (.slice xa (coAt c.costs j).ex.args.length xc) ∧ w'.cell? ⟨sb, 22 + k, none⟩ = some (U (4 + k))) [19] (by kernel_rfl) ?_
                        refine anyZ_take1 (i := 0) (v := .pointer (some ⟨sb, 0, none⟩)) rfl (by kernel_rfl) (by kernel_rfl) (by kernel_rfl) (by kernel_rfl) (fun _ _ _ h => h) (by rfl) (fun w' hS' => ?_) HSd ?_
                        · obtain ⟨g0, g1, g2, g3, g4, g6⟩ := hS'
                          go_simp
                        simp only [Act.put, List.setIfInBounds_toArray, List.set_cons_zero, List.set_cons_succ]
                        refine anyZ_take1 (i := 1) (v := .pointer (some ⟨rb, 0, none⟩)) rfl (by kernel_rfl) (by kernel_rfl) (by kernel_rfl) (by kernel_rfl) (fun _ _ _ h => h) (by rfl) (fun w' hS' => ?_) HSd ?_
                        · obtain ⟨g0, g1, g2, g3, g4, g6⟩ := hS'
                          go_simp
                        simp only [Act.put, List.setIfInBounds_toArray, List.set_cons_zero, List.set_cons_succ]
                        refine anyZ_take1 (i := 2) (v := .int .i64 (k : Int)) rfl (by kernel_rfl) (by kernel_rfl) (by kernel_rfl) (by kernel_rfl) (fun _ _ _ h => h) (by rfl) (fun w' hS' => ?_) HSd ?_
                        · obtain ⟨g0, g1, g2, g3, g4, g6⟩ := hS'
                          go_simp
                        simp only [Act.put, List.setIfInBounds_toArray, List.set_cons_zero, List.set_cons_succ]
                        refine anyZ_take1 (i := 3) (v := .pointer (some ⟨sb, 0, none⟩)) rfl (by kernel_rfl) (by kernel_rfl) (by kernel_rfl) (by kernel_rfl) (fun _ _ _ h => h) (by rfl) (fun w' hS' => ?_) HSd ?_
                        · obtain ⟨g0, g1, g2, g3, g4, g6⟩ := hS'
                          go_simp
                        simp only [Act.put, List.setIfInBounds_toArray, List.set_cons_zero, List.set_cons_succ]
                        refine anyZ_take1 (i := 4) (v := .pointer (some ⟨sb, 22, none⟩)) rfl (by kernel_rfl) (by kernel_rfl) (by kernel_rfl) (by kernel_rfl) (fun _ _ _ h => h) (by rfl) (fun w' hS' => ?_) HSd ?_
                        · obtain ⟨g0, g1, g2, g3, g4, g6⟩ := hS'
                          go_simp
                        simp only [Act.put, List.setIfInBounds_toArray, List.set_cons_zero, List.set_cons_succ]
                        refine anyZ_take1 (i := 5) (v := .pointer (some ⟨sb, 22 + k, none⟩)) rfl (by kernel_rfl) (by kernel_rfl) (by kernel_rfl) (by kernel_rfl) (fun _ _ _ h => h) (by rfl) (fun w' hS' => ?_) HSd ?_
                        · obtain ⟨g0, g1, g2, g3, g4, g6⟩ := hS'
                          go_simp
                        simp only [Act.put, List.setIfInBounds_toArray, List.set_cons_zero, List.set_cons_succ]
                        refine anyZ_take1 (i := 6) (v := U (4 + k)) rfl (by kernel_rfl) (by kernel_rfl) (by kernel_rfl) (by kernel_rfl) (fun _ _ _ h => h) (by rfl) (fun w' hS' => ?_) HSd ?_
                        · obtain ⟨g0, g1, g2, g3, g4, g6⟩ := hS'
                          go_simp
                        simp only [Act.put, List.setIfInBounds_toArray, List.set_cons_zero, List.set_cons_succ]
                        refine anyZ_take1 (i := 7) (v := .pointer (some ⟨kp, 0, none⟩)) rfl (by kernel_rfl) (by kernel_rfl) (by kernel_rfl) (by kernel_rfl) (fun _ _ _ h => h) (by rfl) (fun w' hS' => ?_) HSd ?_
                        · obtain ⟨g0, g1, g2, g3, g4, g6⟩ := hS'
                          go_simp
                        simp only [Act.put, List.setIfInBounds_toArray, List.set_cons_zero, List.set_cons_succ]
                        refine anyZ_take1 (i := 8) (v := .pointer (some ⟨rb, 0, none⟩)) rfl (by kernel_rfl) (by kernel_rfl) (by kernel_rfl) (by kernel_rfl) (fun _ _ _ h => h) (by rfl) (fun w' hS' => ?_) HSd ?_
                        · obtain ⟨g0, g1, g2, g3, g4, g6⟩ := hS'
                          go_simp
                        simp only [Act.put, List.setIfInBounds_toArray, List.set_cons_zero, List.set_cons_succ]
                        refine anyZ_take1 (i := 9) (v := .int .i64 (k : Int)) rfl (by kernel_rfl) (by kernel_rfl) (by kernel_rfl) (by kernel_rfl) (fun _ _ _ h => h) (by rfl) (fun w' hS' => ?_) HSd ?_
                        · obtain ⟨g0, g1, g2, g3, g4, g6⟩ := hS'
                          go_simp
                        simp only [Act.put, List.setIfInBounds_toArray, List.set_cons_zero, List.set_cons_succ]
                        refine anyZ_take1 (i := 10) (v := .pointer (some ⟨rb, 1, none⟩)) rfl (by kernel_rfl) (by kernel_rfl) (by kernel_rfl) (by kernel_rfl) (fun _ _ _ h => h) (by rfl) (fun w' hS' => ?_) HSd ?_
                        · obtain ⟨g0, g1, g2, g3, g4, g6⟩ := hS'
                          go_simp
                        simp only [Act.put, List.setIfInBounds_toArray, List.set_cons_zero, List.set_cons_succ]
                        refine anyZ_take1 (i := 11) (v := .agg #[.int .i64 (coAt c.costs j).ex.op, .int .i64 (coAt c.costs j).ex.num, .string (coAt c.costs j).ex.name, .slice xa (coAt c.costs j).ex.args.length xc]) rfl (by kernel_rfl) (by kernel_rfl) (by kernel_rfl) (by kernel_rfl) (fun _ _ _ h => h) (by rfl) (fun w' hS' => ?_) HSd ?_
                        · obtain ⟨g0, g1, g2, g3, g4, g6⟩ := hS'
                          go_simp
                        simp only [Act.put, List.setIfInBounds_toArray, List.set_cons_zero, List.set_cons_succ]
                        refine anyZ_pure1 (i := 13) (v := .int .i64 ((costsL c (c.costs.take j) k).length : Nat)) rfl (by kernel_rfl) (by kernel_rfl) (by kernel_rfl) (fun _ _ _ h => h) (by rfl) (fun w' => ?_) ?_
                        · have hu := HUF.out
                          go_simp
                        simp only [Act.put, List.setIfInBounds_toArray, List.set_cons_zero, List.set_cons_succ]
                        refine anyZ_pure1 (i := 16) (v := .pointer (some ⟨sb, 0, none⟩)) rfl (by kernel_rfl) (by kernel_rfl) (by kernel_rfl) (fun _ _ _ h => h) (by rfl) (fun w' => ?_) ?_
                        · go_simp
                        simp only [Act.put, List.setIfInBounds_toArray, List.set_cons_zero, List.set_cons_succ]
                        refine anyZ_pure1 (i := 17) (v := .pointer (some ⟨sb, 22, none⟩)) rfl (by kernel_rfl) (by kernel_rfl) (by kernel_rfl) (fun _ _ _ h => h) (by rfl) (fun w' => ?_) ?_
                        · go_simp
                        simp only [Act.put, List.setIfInBounds_toArray, List.set_cons_zero, List.set_cons_succ]
                        refine anyZ_two (i := 12) (j := 14) (oi := { dst := some 125, op := Op.call { callee := Callee.value (Operand.func 94), args := #[Operand.tmp 120, Operand.tmp 122, Operand.tmp 124], argTypes := #[147, 3, 111] }, type := 150, pos := "setting.go:90", after := _, guard := none }) (oj := { dst := some 127, op := Op.buildSlice 143 1 #[(0, Operand.const (Value.agg #[Value.int IntKind.i64 0, Value.int IntKind.i64 0, Value.slice none 0 0]))], type := 143, pos := "setting.go:90", after := _, guard := none }) (by kernel_rfl) rfl rfl (by rfl) (by rfl) (fun K hK => ?_) (fun K hK => ?_)
                        · go_simp
                          refine (HCMP.out k (coAt c.costs j).ex xa xc W2.drew (by omega) I3.out.cmp HFit.out HW.out hcnt HTY.out HAr3.out).mono ?_
                          rintro e w2 ⟨ya, yc, rfl, hFA, hFl, hC2, hg2⟩
                          obtain ⟨fm, hfm⟩ : ∃ fm, fm = cmpE (cvC c.consts c.consts.length) k (coAt c.costs j).ex := ⟨_, rfl⟩
                          rw [← hfm] at hFA hFl
                          simp only [← hfm]
                          have HFM := Lib.hid hfm
                          have HFA := Lib.hid hFA
                          have HC2 := Lib.hid hC2
                          have HG2 := Lib.hid hg2
                          clear hfm hFA hC2
                          have HS2 : w2.cell? ⟨rb, 0, none⟩ = some (.int .i64 (k : Int)) ∧ w2.cell? ⟨rb, 1, none⟩ = some (.int .i64 (coAt c.costs j).ex.op) ∧ w2.cell? ⟨rb, 2, none⟩ = some (.int .i64 (coAt c.costs j).ex.num) ∧ w2.cell? ⟨rb, 3, none⟩ = some (.string (coAt c.costs j).ex.name) ∧ w2.cell? ⟨rb, 4, none⟩ = some (.slice xa (coAt c.costs j).ex.args.length xc) ∧ w2.cell? ⟨sb, 22 + k, none⟩ = some (U (4 + k)) := ⟨(hg2.cell_far ⟨rb, 0, none⟩ lrb (by simp; omega)).trans HSd.1, (hg2.cell_far ⟨rb, 1, none⟩ lrb (by simp; omega)).trans HSd.2.1, (hg2.cell_far ⟨rb, 2, none⟩ lrb (by simp; omega)).trans HSd.2.2.1, (hg2.cell_far ⟨rb, 3, none⟩ lrb (by simp; omega)).trans HSd.2.2.2.1, (hg2.cell_far ⟨rb, 4, none⟩ lrb (by simp; omega)).trans HSd.2.2.2.2.1, (hg2.cell_far ⟨sb, 22 + k, none⟩ lsb (by simp; omega)).trans HSd.2.2.2.2.2⟩
                          clear hg2
                          refine hK.out _ _ (fun _ _ => HS2) ?_
                          clear hK K
                          try simp only [Act.put, List.setIfInBounds_toArray, List.set_cons_zero, List.set_cons_succ]
                          have I4 := Lib.hid (I3.out.move HG2.out HC2.out)
                          obtain ⟨cs, hown2, hrow2⟩ := I4.out.cos k (by omega)
                          have HO2 := Lib.hid hown2
                          have HR2 := Lib.hid hrow2
                          clear hown2 hrow2
                          refine anyZ_one (i := 14) (o := { dst := some 127, op := Op.buildSlice 143 1 #[(0, Operand.const (Value.agg #[Value.int IntKind.i64 0, Value.int IntKind.i64 0, Value.slice none 0 0]))], type := 143, pos := "setting.go:90", after := _, guard := none }) (by kernel_rfl) rfl (by rfl) (fun K hK => ?_)
                          go_simp
                          have HS3 : (w2.alloc (Obj.cells #[.int .i64 0, .int .i64 0, .slice none 0 0] 150)).cell? ⟨rb, 0, none⟩ = some (.int .i64 (k : Int)) ∧ (w2.alloc (Obj.cells #[.int .i64 0, .int .i64 0, .slice none 0 0] 150)).cell? ⟨rb, 1, none⟩ = some (.int .i64 (coAt c.costs j).ex.op) ∧ (w2.alloc (Obj.cells #[.int .i64 0, .int .i64 0, .slice none 0 0] 150)).cell? ⟨rb, 2, none⟩ = some (.int .i64 (coAt c.costs j).ex.num) ∧ (w2.alloc (Obj.cells #[.int .i64 0, .int .i64 0, .slice none 0 0] 150)).cell? ⟨rb, 3, none⟩ = some (.string (coAt c.costs j).ex.name) ∧ (w2.alloc (Obj.cells #[.int .i64 0, .int .i64 0, .slice none 0 0] 150)).cell? ⟨rb, 4, none⟩ = some (.slice xa (coAt c.costs j).ex.args.length xc) ∧ (w2.alloc (Obj.cells #[.int .i64 0, .int .i64 0, .slice none 0 0] 150)).cell? ⟨sb, 22 + k, none⟩ = some (U (4 + k)) := ⟨below_cell HS2.1 (Nat.lt_of_lt_of_le lrb HG2.out.size) (below_new w2 _), below_cell HS2.2.1 (Nat.lt_of_lt_of_le lrb HG2.out.size) (below_new w2 _), below_cell HS2.2.2.1 (Nat.lt_of_lt_of_le lrb HG2.out.size) (below_new w2 _), below_cell HS2.2.2.2.1 (Nat.lt_of_lt_of_le lrb HG2.out.size) (below_new w2 _), below_cell HS2.2.2.2.2.1 (Nat.lt_of_lt_of_le lrb HG2.out.size) (below_new w2 _), below_cell HS2.2.2.2.2.2 (Nat.lt_of_lt_of_le lsb HG2.out.size) (below_new w2 _)⟩
                          refine hK.out _ _ (fun _ _ => HS3) ?_
                          clear hK K
                          try simp only [Act.put, List.setIfInBounds_toArray, List.set_cons_zero, List.set_cons_succ]
                          refine anyZ_one (i := 15) (o := { dst := some 128, op := Op.call { callee := Callee.builtin Builtin.append, args := #[Operand.tmp 119, Operand.tmp 127], argTypes := #[143, 143] }, type := 143, pos := "setting.go:90", after := _, guard := none }) (by kernel_rfl) rfl (by rfl) (fun K hK => ?_)
                          refine wp_append_lies _ (Operand.tmp 119) (Operand.tmp 127) 143 rfl w6.heap.size 150 fi0 (.agg #[.int .i64 0, .int .i64 0, .slice none 0 0]) 3 40 Tryz.underlying143 hfi hfz0 hfz1 hfz2 rfl (by decide) (U (4 + k)) _ cs rfl (HO2.out.alloc _) ⟨w2.heap.size, 0, none⟩ 1 1 [.int .i64 0, .int .i64 0, .slice none 0 0] rfl rfl (fresh_cells w2 [.int .i64 0, .int .i64 0, .slice none 0 0] 150) ?ka1 (by decide) ?ka2 ?ka3 ?ka4 (w2.heap.size + 1) (by simp) ?ka5
                          case ka1 => intro u hu; simp at hu; rcases hu with rfl | rfl | rfl <;> rfl
                          case ka2 => have := costsL_len c (c.costs.take j) k; have := hKN; simp only [List.length_take] at *; unfold maxLen; omega
                          case ka3 => have := costsL_len c (c.costs.take j) k; have := hKN; simp only [List.length_take] at *; omega
                          case ka4 => simp; exact Nat.le_succ_of_le (Nat.le_trans I3.out.size HG2.out.size)
                          intro g cap w3 hown3 hgrow hat hlt3
                          have own_rb : (U (4 + k)).ownBlock ≠ some rb := fun e => by have := (Hown.out rb e).2; have := HRB.out; omega
                          have own_sb : (U (4 + k)).ownBlock ≠ some sb := fun e => by have h1 : w6.heap.size ≤ sb := (Hown.out sb e).1; omega
                          have HS4 : w3.cell? ⟨rb, 0, none⟩ = some (.int .i64 (k : Int)) ∧ w3.cell? ⟨rb, 1, none⟩ = some (.int .i64 (coAt c.costs j).ex.op) ∧ w3.cell? ⟨rb, 2, none⟩ = some (.int .i64 (coAt c.costs j).ex.num) ∧ w3.cell? ⟨rb, 3, none⟩ = some (.string (coAt c.costs j).ex.name) ∧ w3.cell? ⟨rb, 4, none⟩ = some (.slice xa (coAt c.costs j).ex.args.length xc) ∧ w3.cell? ⟨sb, 22 + k, none⟩ = some (U (4 + k)) := ⟨(hgrow.cell_far ⟨rb, 0, none⟩ (by simp; exact Nat.lt_succ_of_lt (Nat.lt_of_lt_of_le lrb HG2.out.size)) (Ne.symm own_rb)).trans HS3.1, (hgrow.cell_far ⟨rb, 1, none⟩ (by simp; exact Nat.lt_succ_of_lt (Nat.lt_of_lt_of_le lrb HG2.out.size)) (Ne.symm own_rb)).trans HS3.2.1, (hgrow.cell_far ⟨rb, 2, none⟩ (by simp; exact Nat.lt_succ_of_lt (Nat.lt_of_lt_of_le lrb HG2.out.size)) (Ne.symm own_rb)).trans HS3.2.2.1, (hgrow.cell_far ⟨rb, 3, none⟩ (by simp; exact Nat.lt_succ_of_lt (Nat.lt_of_lt_of_le lrb HG2.out.size)) (Ne.symm own_rb)).trans HS3.2.2.2.1, (hgrow.cell_far ⟨rb, 4, none⟩ (by simp; exact Nat.lt_succ_of_lt (Nat.lt_of_lt_of_le lrb HG2.out.size)) (Ne.symm own_rb)).trans HS3.2.2.2.2.1, (hgrow.cell_far ⟨sb, 22 + k, none⟩ (by simp; exact Nat.lt_succ_of_lt (Nat.lt_of_lt_of_le lsb HG2.out.size)) (Ne.symm own_sb)).trans HS3.2.2.2.2.2⟩
                          refine hK.out _ _ (fun _ _ => HS4) ?_
                          clear hK K
                          try simp only [Act.put, List.setIfInBounds_toArray, List.set_cons_zero, List.set_cons_succ]
                          refine anyZ_one (i := 18) (o := { dst := some 131, op := Op.indexAddr 144 (Operand.tmp 130) (Operand.tmp 115), type := 0, pos := "setting.go:90", after := _, guard := none }) (by kernel_rfl) rfl (by rfl) (fun K hK => ?_)
                          go_simp
                          refine hK.out _ _ (fun _ h => h) ?_
                          clear hK K
                          try simp only [Act.put, List.setIfInBounds_toArray, List.set_cons_zero, List.set_cons_succ]
                          have GR := Lib.hid (Grew.mk (Lib.grownBy_trans (grown_below _ (below_new w2 _)) hgrow) (by show some g = (U (4 + k)).ownBlock ∨ ∃ H, w2.heap.size ≤ H ∧ some g = some H; rcases hat with h | h; exact .inl h.symm; exact .inr ⟨_, Nat.le_succ _, by rw [h]⟩) : Grew (⟨t, c, za, zc, aa, ac, fa, fc, p, zb, sb, cb, kp, ib, vb, ps, w.heap.size, w6.heap.size⟩ : NwP) w2 w3 U (4 + k) (.slice (some ⟨g, 0, none⟩) ((costsL c (c.costs.take j) k).length + 1) cap))
                          have bx3 : w3.heap[sb]? = some (.cells (sbA (⟨t, c, za, zc, aa, ac, fa, fc, p, zb, sb, cb, kp, ib, vb, ps, w.heap.size, w6.heap.size⟩ : NwP) U false) 146 (0, 0)) := (hgrow.block sb (by simp; exact Nat.lt_succ_of_lt (Nat.lt_of_lt_of_le lsb HG2.out.size)) (Ne.symm own_sb)).trans (one_alloc I4.out.box)
                          have st6 : w3.cell? ⟨sb, 22 + k, none⟩ = some (U (4 + k)) := HS4.2.2.2.2.2
                          have sfz : w3.frozen? ⟨sb, 22 + k, none⟩ = false := freeW bx3
                          have lsb3 := lt_of_block bx3
                          refine anyZ_one (i := 19) (o := { dst := none, op := Op.store 143 (Operand.tmp 131) (Operand.tmp 128), type := 0, pos := "setting.go:90", after := _, guard := none }) (by kernel_rfl) rfl (by rfl) (fun K hK => ?_)
                          go_simp
                          refine hK.out _ _ (fun h _ => absurd (by decide : (19 : Nat) ∈ [19]) h) ?_
                          clear hK K
                          try simp only [Act.put, List.setIfInBounds_toArray, List.set_cons_zero, List.set_cons_succ]
                          have I5 := Lib.hid (NInv.cost (f := FormM.mk 0 0 []) (fa := none) (fc := 0) I3.out (by omega) HG2.out HC2.out HR2.out ⟨0, 0, fun h => absurd rfl h, .nil _ _⟩ (by decide) GR.out hown3)
                          have HF5 := Lib.hid (FArgsAt.past I3.out I4.out HG2.out.size (by omega) GR.out HFA.out)
                          rw [show 18 + (4 + k) = 22 + k by omega] at I5 HF5
                          refine anyZ_done (by kernel_rfl) ?_
                          have HU := Lib.hid (show costsL c (c.costs.take (j + 1)) = updL (costsL c (c.costs.take j)) k fm by rw [take_co _ _ hlt, costsL_upd c _ _ HSC.out, HFM.out]; rfl)
                          have HUP := Lib.hid (show upd U (4 + k) (.slice (some ⟨g, 0, none⟩) ((costsL c (c.costs.take j) k).length + 1) cap) (4 + k) = (.slice (some ⟨g, 0, none⟩) ((costsL c (c.costs.take j) k).length + 1) cap) from upd_eq _ _ _)
                          clear bx3 st6 sfz lsb3 HS4 HSd GR hown3 hgrow hat hlt3 own_rb own_sb I4 HO2 HR2 HFA HC2 HG2 I3 HUF
                          generalize w3.setCell ⟨sb, 22 + k, none⟩ (.slice (some ⟨g, 0, none⟩) ((costsL c (c.costs.take j) k).length + 1) cap) = W4 at *
                          generalize upd U (4 + k) (.slice (some ⟨g, 0, none⟩) ((costsL c (c.costs.take j) k).length + 1) cap) = U5 at *
                          obtain ⟨cs5, hown5, _⟩ := I5.out.cos k (by omega)
                          have hown6 : W4.ownsRow w6.heap.size 150 3 (.slice (some ⟨g, 0, none⟩) ((costsL c (c.costs.take j) k).length + 1) cap) ((costsL c (c.costs.take j) k).length + 1) cs5 := by
                            have h := hown5
                            rw [HUP.out, updL_eq, List.length_append] at h
                            exact h
                          obtain ⟨N, hN⟩ : ∃ N, N = (costsL c (c.costs.take j) k).length := ⟨_, rfl⟩
                          have HFill := Lib.hid (NInv.fill (f := fm) (fa := ya) (fc := yc) I5.out (by omega) HUP.out hFl HF5.out)
                          simp only [← hN] at HFill hown6 ⊢
                          have HN := Lib.hid hN
                          clear hN hown5
                          have y0 := hown6.cellAt (N * 3) (by omega)
                          have y1 := hown6.cellAt (N * 3 + 1) (by omega)
                          have y2 := hown6.cellAt (N * 3 + 2) (by omega)
                          have hl5 : cs5.length = (N + 1) * 3 := hown6.1
                          rw [List.getElem?_eq_getElem (by omega)] at y0 y1 y2
                          have z0 := hown6.frozenAt (N * 3)
                          have z1 := hown6.frozenAt (N * 3 + 1)
                          have z2 := hown6.frozenAt (N * 3 + 2)
                          have lg : g < W4.heap.size := (hown6.lt g rfl).2
                          clear hown6
                          go_wp2_with fail
                          go_roundw
                          case rel => exact ⟨j + 1, _, by omega, by go_num, Lib.hid (by rw [HU.out]; exact HFill.out)⟩
                          case measure => simp [intOf]; omega
                        · go_simp
                          have HS1 : (W2.drew.alloc (Obj.cells #[.int .i64 0, .int .i64 0, .slice none 0 0] 150)).cell? ⟨rb, 0, none⟩ = some (.int .i64 (k : Int)) ∧ (W2.drew.alloc (Obj.cells #[.int .i64 0, .int .i64 0, .slice none 0 0] 150)).cell? ⟨rb, 1, none⟩ = some (.int .i64 (coAt c.costs j).ex.op) ∧ (W2.drew.alloc (Obj.cells #[.int .i64 0, .int .i64 0, .slice none 0 0] 150)).cell? ⟨rb, 2, none⟩ = some (.int .i64 (coAt c.costs j).ex.num) ∧ (W2.drew.alloc (Obj.cells #[.int .i64 0, .int .i64 0, .slice none 0 0] 150)).cell? ⟨rb, 3, none⟩ = some (.string (coAt c.costs j).ex.name) ∧ (W2.drew.alloc (Obj.cells #[.int .i64 0, .int .i64 0, .slice none 0 0] 150)).cell? ⟨rb, 4, none⟩ = some (.slice xa (coAt c.costs j).ex.args.length xc) ∧ (W2.drew.alloc (Obj.cells #[.int .i64 0, .int .i64 0, .slice none 0 0] 150)).cell? ⟨sb, 22 + k, none⟩ = some (U (4 + k)) := ⟨below_cell HSd.1 lrb (below_new W2.drew _), below_cell HSd.2.1 lrb (below_new W2.drew _), below_cell HSd.2.2.1 lrb (below_new W2.drew _), below_cell HSd.2.2.2.1 lrb (below_new W2.drew _), below_cell HSd.2.2.2.2.1 lrb (below_new W2.drew _), below_cell HSd.2.2.2.2.2 lsb (below_new W2.drew _)⟩
                          refine hK.out _ _ (fun _ _ => HS1) ?_
                          clear hK K
                          try simp only [Act.put, List.setIfInBounds_toArray, List.set_cons_zero, List.set_cons_succ]
                          have I3b := Lib.hid (I3.out.below (below_new W2.drew (Obj.cells #[.int .i64 0, .int .i64 0, .slice none 0 0] 150)))
                          have HArb := Lib.hid (HAr3.out.keep ((below_new W2.drew (Obj.cells #[.int .i64 0, .int .i64 0, .slice none 0 0] 150)).mono (Nat.le_trans I3.out.bs I3.out.size)))
                          have QZ := Lib.hid (heap_new W2.drew (Obj.cells #[.int .i64 0, .int .i64 0, .slice none 0 0] 150))
                          obtain ⟨zq, hzq⟩ : ∃ zq, zq = W2.drew.heap.size := ⟨_, rfl⟩
                          have hzv : zq ≠ vb := by have h1 : vb < w6.heap.size := F5; have h2 : w6.heap.size ≤ W2.drew.heap.size := I3.out.size; omega
                          rw [← hzq] at QZ
                          replace lrb : rb < (W2.drew.alloc (Obj.cells #[.int .i64 0, .int .i64 0, .slice none 0 0] 150)).heap.size := Nat.lt_of_lt_of_le lrb (by simp)
                          replace lsb : sb < (W2.drew.alloc (Obj.cells #[.int .i64 0, .int .i64 0, .slice none 0 0] 150)).heap.size := Nat.lt_of_lt_of_le lsb (by simp)
                          have hzs : zq < (W2.drew.alloc (Obj.cells #[.int .i64 0, .int .i64 0, .slice none 0 0] 150)).heap.size := lt_of_block QZ.out
                          simp only [show W2.heap.size = zq from hzq.symm]
                          simp only [show (W2.alloc (Obj.cells #[.int .i64 0, .int .i64 0, .slice none 0 0] 150)).drew = W2.drew.alloc (Obj.cells #[.int .i64 0, .int .i64 0, .slice none 0 0] 150) from rfl]
                          generalize W2.drew.alloc (Obj.cells #[.int .i64 0, .int .i64 0, .slice none 0 0] 150) = W5 at *
                          clear hzq I3 HAr3
                          refine anyZ_one (i := 12) (o := { dst := some 125, op := Op.call { callee := Callee.value (Operand.func 94), args := #[Operand.tmp 120, Operand.tmp 122, Operand.tmp 124], argTypes := #[147, 3, 111] }, type := 150, pos := "setting.go:90", after := _, guard := none }) (by kernel_rfl) rfl (by rfl) (fun K hK => ?_)
                          go_simp
                          refine (HCMP.out k (coAt c.costs j).ex xa xc W5 (by omega) I3b.out.cmp HFit.out HW.out hcnt HTY.out HArb.out).mono ?_
                          rintro e w2 ⟨ya, yc, rfl, hFA, hFl, hC2, hg2⟩
                          obtain ⟨fm, hfm⟩ : ∃ fm, fm = cmpE (cvC c.consts c.consts.length) k (coAt c.costs j).ex := ⟨_, rfl⟩
                          rw [← hfm] at hFA hFl
                          simp only [← hfm]
                          have HFM := Lib.hid hfm
                          have HFA := Lib.hid hFA
                          have HC2 := Lib.hid hC2
                          have HG2 := Lib.hid hg2
                          clear hfm hFA hC2
                          have HS2 : w2.cell? ⟨rb, 0, none⟩ = some (.int .i64 (k : Int)) ∧ w2.cell? ⟨rb, 1, none⟩ = some (.int .i64 (coAt c.costs j).ex.op) ∧ w2.cell? ⟨rb, 2, none⟩ = some (.int .i64 (coAt c.costs j).ex.num) ∧ w2.cell? ⟨rb, 3, none⟩ = some (.string (coAt c.costs j).ex.name) ∧ w2.cell? ⟨rb, 4, none⟩ = some (.slice xa (coAt c.costs j).ex.args.length xc) ∧ w2.cell? ⟨sb, 22 + k, none⟩ = some (U (4 + k)) := ⟨(hg2.cell_far ⟨rb, 0, none⟩ lrb (by simp; omega)).trans HS1.1, (hg2.cell_far ⟨rb, 1, none⟩ lrb (by simp; omega)).trans HS1.2.1, (hg2.cell_far ⟨rb, 2, none⟩ lrb (by simp; omega)).trans HS1.2.2.1, (hg2.cell_far ⟨rb, 3, none⟩ lrb (by simp; omega)).trans HS1.2.2.2.1, (hg2.cell_far ⟨rb, 4, none⟩ lrb (by simp; omega)).trans HS1.2.2.2.2.1, (hg2.cell_far ⟨sb, 22 + k, none⟩ lsb (by simp; omega)).trans HS1.2.2.2.2.2⟩
                          have QZ2 := Lib.hid ((hg2.block zq hzs (by simpa using hzv)).trans QZ.out)
                          clear hg2
                          refine hK.out _ _ (fun _ _ => HS2) ?_
                          clear hK K
                          try simp only [Act.put, List.setIfInBounds_toArray, List.set_cons_zero, List.set_cons_succ]
                          have I4 := Lib.hid (I3b.out.move HG2.out HC2.out)
                          obtain ⟨cs, hown2, hrow2⟩ := I4.out.cos k (by omega)
                          have HO2 := Lib.hid hown2
                          have HR2 := Lib.hid hrow2
                          clear hown2 hrow2
                          refine anyZ_one (i := 15) (o := { dst := some 128, op := Op.call { callee := Callee.builtin Builtin.append, args := #[Operand.tmp 119, Operand.tmp 127], argTypes := #[143, 143] }, type := 143, pos := "setting.go:90", after := _, guard := none }) (by kernel_rfl) rfl (by rfl) (fun K hK => ?_)
                          refine wp_append_lies _ (Operand.tmp 119) (Operand.tmp 127) 143 rfl w6.heap.size 150 fi0 (.agg #[.int .i64 0, .int .i64 0, .slice none 0 0]) 3 40 Tryz.underlying143 hfi hfz0 hfz1 hfz2 rfl (by decide) (U (4 + k)) _ cs rfl (HO2.out) ⟨zq, 0, none⟩ 1 1 [.int .i64 0, .int .i64 0, .slice none 0 0] rfl rfl (block_cells QZ2.out) ?kb1 (by decide) ?kb2 ?kb3 ?kb4 (w2.heap.size) rfl ?kb5
                          case kb1 => intro u hu; simp at hu; rcases hu with rfl | rfl | rfl <;> rfl
                          case kb2 => have := costsL_len c (c.costs.take j) k; have := hKN; simp only [List.length_take] at *; unfold maxLen; omega
                          case kb3 => have := costsL_len c (c.costs.take j) k; have := hKN; simp only [List.length_take] at *; omega
                          case kb4 => exact Nat.le_trans I3b.out.size HG2.out.size
                          intro g cap w3 hown3 hgrow hat hlt3
                          have own_rb : (U (4 + k)).ownBlock ≠ some rb := fun e => by have := (Hown.out rb e).2; have := HRB.out; omega
                          have own_sb : (U (4 + k)).ownBlock ≠ some sb := fun e => by have h1 : w6.heap.size ≤ sb := (Hown.out sb e).1; omega
                          have HS4 : w3.cell? ⟨rb, 0, none⟩ = some (.int .i64 (k : Int)) ∧ w3.cell? ⟨rb, 1, none⟩ = some (.int .i64 (coAt c.costs j).ex.op) ∧ w3.cell? ⟨rb, 2, none⟩ = some (.int .i64 (coAt c.costs j).ex.num) ∧ w3.cell? ⟨rb, 3, none⟩ = some (.string (coAt c.costs j).ex.name) ∧ w3.cell? ⟨rb, 4, none⟩ = some (.slice xa (coAt c.costs j).ex.args.length xc) ∧ w3.cell? ⟨sb, 22 + k, none⟩ = some (U (4 + k)) := ⟨(hgrow.cell_far ⟨rb, 0, none⟩ (Nat.lt_of_lt_of_le lrb HG2.out.size) (Ne.symm own_rb)).trans HS2.1, (hgrow.cell_far ⟨rb, 1, none⟩ (Nat.lt_of_lt_of_le lrb HG2.out.size) (Ne.symm own_rb)).trans HS2.2.1, (hgrow.cell_far ⟨rb, 2, none⟩ (Nat.lt_of_lt_of_le lrb HG2.out.size) (Ne.symm own_rb)).trans HS2.2.2.1, (hgrow.cell_far ⟨rb, 3, none⟩ (Nat.lt_of_lt_of_le lrb HG2.out.size) (Ne.symm own_rb)).trans HS2.2.2.2.1, (hgrow.cell_far ⟨rb, 4, none⟩ (Nat.lt_of_lt_of_le lrb HG2.out.size) (Ne.symm own_rb)).trans HS2.2.2.2.2.1, (hgrow.cell_far ⟨sb, 22 + k, none⟩ (Nat.lt_of_lt_of_le lsb HG2.out.size) (Ne.symm own_sb)).trans HS2.2.2.2.2.2⟩
                          refine hK.out _ _ (fun _ _ => HS4) ?_
                          clear hK K
                          try simp only [Act.put, List.setIfInBounds_toArray, List.set_cons_zero, List.set_cons_succ]
                          refine anyZ_one (i := 18) (o := { dst := some 131, op := Op.indexAddr 144 (Operand.tmp 130) (Operand.tmp 115), type := 0, pos := "setting.go:90", after := _, guard := none }) (by kernel_rfl) rfl (by rfl) (fun K hK => ?_)
                          go_simp
                          refine hK.out _ _ (fun _ h => h) ?_
                          clear hK K
                          try simp only [Act.put, List.setIfInBounds_toArray, List.set_cons_zero, List.set_cons_succ]
                          have GR := Lib.hid (Grew.mk hgrow (by show some g = (U (4 + k)).ownBlock ∨ ∃ H, w2.heap.size ≤ H ∧ some g = some H; rcases hat with h | h; exact .inl h.symm; exact .inr ⟨_, Nat.le_refl _, by rw [h]⟩) : Grew (⟨t, c, za, zc, aa, ac, fa, fc, p, zb, sb, cb, kp, ib, vb, ps, w.heap.size, w6.heap.size⟩ : NwP) w2 w3 U (4 + k) (.slice (some ⟨g, 0, none⟩) ((costsL c (c.costs.take j) k).length + 1) cap))
                          have bx3 : w3.heap[sb]? = some (.cells (sbA (⟨t, c, za, zc, aa, ac, fa, fc, p, zb, sb, cb, kp, ib, vb, ps, w.heap.size, w6.heap.size⟩ : NwP) U false) 146 (0, 0)) := (hgrow.block sb (Nat.lt_of_lt_of_le lsb HG2.out.size) (Ne.symm own_sb)).trans (I4.out.box)
                          have st6 : w3.cell? ⟨sb, 22 + k, none⟩ = some (U (4 + k)) := HS4.2.2.2.2.2
                          have sfz : w3.frozen? ⟨sb, 22 + k, none⟩ = false := freeW bx3
                          have lsb3 := lt_of_block bx3
                          refine anyZ_one (i := 19) (o := { dst := none, op := Op.store 143 (Operand.tmp 131) (Operand.tmp 128), type := 0, pos := "setting.go:90", after := _, guard := none }) (by kernel_rfl) rfl (by rfl) (fun K hK => ?_)
                          go_simp
                          refine hK.out _ _ (fun h _ => absurd (by decide : (19 : Nat) ∈ [19]) h) ?_
                          clear hK K
                          try simp only [Act.put, List.setIfInBounds_toArray, List.set_cons_zero, List.set_cons_succ]
                          have I5 := Lib.hid (NInv.cost (f := FormM.mk 0 0 []) (fa := none) (fc := 0) I3b.out (by omega) HG2.out HC2.out HR2.out ⟨0, 0, fun h => absurd rfl h, .nil _ _⟩ (by decide) GR.out hown3)
                          have HF5 := Lib.hid (FArgsAt.past I3b.out I4.out HG2.out.size (by omega) GR.out HFA.out)
                          rw [show 18 + (4 + k) = 22 + k by omega] at I5 HF5
                          refine anyZ_done (by kernel_rfl) ?_
                          have HU := Lib.hid (show costsL c (c.costs.take (j + 1)) = updL (costsL c (c.costs.take j)) k fm by rw [take_co _ _ hlt, costsL_upd c _ _ HSC.out, HFM.out]; rfl)
                          have HUP := Lib.hid (show upd U (4 + k) (.slice (some ⟨g, 0, none⟩) ((costsL c (c.costs.take j) k).length + 1) cap) (4 + k) = (.slice (some ⟨g, 0, none⟩) ((costsL c (c.costs.take j) k).length + 1) cap) from upd_eq _ _ _)
                          clear bx3 st6 sfz lsb3 HS4 HSd GR hown3 hgrow hat hlt3 own_rb own_sb I4 HO2 HR2 HFA HC2 HG2 I3b HUF
                          generalize w3.setCell ⟨sb, 22 + k, none⟩ (.slice (some ⟨g, 0, none⟩) ((costsL c (c.costs.take j) k).length + 1) cap) = W4 at *
                          generalize upd U (4 + k) (.slice (some ⟨g, 0, none⟩) ((costsL c (c.costs.take j) k).length + 1) cap) = U5 at *
                          obtain ⟨cs5, hown5, _⟩ := I5.out.cos k (by omega)
                          have hown6 : W4.ownsRow w6.heap.size 150 3 (.slice (some ⟨g, 0, none⟩) ((costsL c (c.costs.take j) k).length + 1) cap) ((costsL c (c.costs.take j) k).length + 1) cs5 := by
                            have h := hown5
                            rw [HUP.out, updL_eq, List.length_append] at h
                            exact h
                          obtain ⟨N, hN⟩ : ∃ N, N = (costsL c (c.costs.take j) k).length := ⟨_, rfl⟩
                          have HFill := Lib.hid (NInv.fill (f := fm) (fa := ya) (fc := yc) I5.out (by omega) HUP.out hFl HF5.out)
                          simp only [← hN] at HFill hown6 ⊢
                          have HN := Lib.hid hN
                          clear hN hown5
                          have y0 := hown6.cellAt (N * 3) (by omega)
                          have y1 := hown6.cellAt (N * 3 + 1) (by omega)
                          have y2 := hown6.cellAt (N * 3 + 2) (by omega)
                          have hl5 : cs5.length = (N + 1) * 3 := hown6.1
                          rw [List.getElem?_eq_getElem (by omega)] at y0 y1 y2
                          have z0 := hown6.frozenAt (N * 3)
                          have z1 := hown6.frozenAt (N * 3 + 1)
                          have z2 := hown6.frozenAt (N * 3 + 2)
                          have lg : g < W4.heap.size := (hown6.lt g rfl).2
                          clear hown6
                          go_wp2_with fail
                          go_roundw
                          case rel => exact ⟨j + 1, _, by omega, by go_num, Lib.hid (by rw [HU.out]; exact HFill.out)⟩
                          case measure => simp [intOf]; omega
                    · obtain rfl : j = c.costs.length := by omega
                      rw [List.take_length] at hI
                      obtain ⟨W8, rfl⟩ : ∃ W8 : World, W8 = wr := ⟨_, rfl⟩
                      have HOK3 := Lib.hid (fun i (hi : i < c.credit.length) => credit_ok HV2.out hi)
                      have c8_10 : W8.cell? ⟨cb, 10, none⟩ = some (.slice p.xa c.credit.length p.xc) := cellW (j := 10) hI.out.con rfl
                      have hcl8 : cb < W8.heap.size := lt_of_block hI.out.con
                      have hKX : c.credit.length ≤ 1 := by have h := (valG_parts (valT_parts HV2.out).g).1; simp [sizeB] at h; omega
                      rw [← creM_zero HV2.out] at hI
                      clear HOK2 hj hlt
                      go_wp2_with fail
                      clear c8_10 hcl8
                      go_loopw [158] (fun i wr => ∃ (j : Nat) (U : Nat → Value), j ≤ c.credit.length ∧ i = .int .i64 j ∧ Hid (NInv (⟨t, c, za, zc, aa, ac, fa, fc, p, zb, sb, cb, kp, ib, vb, ps, w.heap.size, w6.heap.size⟩ : NwP) w w6 wr U (rulesL c c.rules) (creM c j) false)) (fun i _ => c.credit.length - (intOf i).toNat)
                      case atStart => exact ⟨0, U, Nat.zero_le _, rfl, hI⟩
                      clear hI
                      case round =>
                        obtain ⟨j, U, hj, rfl, hI⟩ := hrel
                        by_cases hlt : j < c.credit.length
                        · obtain ⟨hwf, hcnt, hty⟩ := HOK3.out j hlt
                          obtain ⟨b, off, hxa, hb, hcs⟩ := ((HC.out.keep hI.out.bel).credit).cells (by omega)
                          obtain ⟨xa, xc, hbB, ⟨r1, r2, r3, r4⟩, hfit, hargs⟩ := hcs.at j hlt
                          have hbw : b < wr.heap.size := Nat.lt_of_lt_of_le hb (Nat.le_trans hI.out.bs hI.out.size)
                          have HW := Lib.hid hwf
                          have HTY := Lib.hid hty
                          rw [hxa]
                          clear hcs hxa hwf hty
                          go_wp2_with fail
                          have I1 := Lib.hid (hI.out.below (below_new wr (Obj.cells #[.int .i64 (eAt c.credit j).op, .int .i64 (eAt c.credit j).num, .string (eAt c.credit j).name, .slice xa (eAt c.credit j).args.length xc] 111)))
                          have QB := Lib.hid (heap_new wr (Obj.cells #[.int .i64 (eAt c.credit j).op, .int .i64 (eAt c.credit j).num, .string (eAt c.credit j).name, .slice xa (eAt c.credit j).args.length xc] 111))
                          have HAr := Lib.hid (hargs.keep ((below_new wr (Obj.cells #[.int .i64 (eAt c.credit j).op, .int .i64 (eAt c.credit j).num, .string (eAt c.credit j).name, .slice xa (eAt c.credit j).args.length xc] 111)).mono (Nat.le_trans hI.out.bs hI.out.size)))
                          have HFit := Lib.hid hfit
                          obtain ⟨rb, hrb⟩ : ∃ rb, rb = wr.heap.size := ⟨_, rfl⟩
                          rw [← hrb] at QB
                          simp only [← hrb]
                          have HRB := Lib.hid hrb
                          clear hrb
                          generalize wr.alloc (Obj.cells #[.int .i64 (eAt c.credit j).op, .int .i64 (eAt c.credit j).num, .string (eAt c.credit j).name, .slice xa (eAt c.credit j).args.length xc] 111) = W1 at *
                          clear r1 r2 r3 r4
                          have I3 := Lib.hid (I1.out.below ((Below.refl _ W1).drew))
                          have HAr3 := Lib.hid (HAr.out.keep ((Below.refl _ W1).drew))
                          have HSd : W1.drew.cell? ⟨rb, 0, none⟩ = some (.int .i64 (eAt c.credit j).op) ∧ W1.drew.cell? ⟨rb, 1, none⟩ = some (.int .i64 (eAt c.credit j).num) ∧ W1.drew.cell? ⟨rb, 2, none⟩ = some (.string (eAt c.credit j).name) ∧ W1.drew.cell? ⟨rb, 3, none⟩ = some (.slice xa (eAt c.credit j).args.length xc) ∧ W1.drew.cell? ⟨sb, 26, none⟩ = some (U 8) := ⟨cellW (j := 0) QB.out rfl, cellW (j := 1) QB.out rfl, cellW (j := 2) QB.out rfl, cellW (j := 3) QB.out rfl, cellW I1.out.box (sbA_at _ U false (k := 8) (by omega))⟩
                          have lrb : rb < W1.drew.heap.size := lt_of_block QB.out
                          have lsb : sb < W1.drew.heap.size := lt_of_block I1.out.box
                          have F1 : sb < w6.heap.size := I1.out.fix.1
                          have F5 : vb < w6.heap.size := I1.out.fix.2.2.2.2.1
                          have hszb : w6.heap.size ≤ wr.heap.size := hI.out.size
                          have hrb := HRB.out
                          have Hrbv : rb ≠ vb := by omega
                          have Hrbs : rb ≠ sb := by omega
                          have Hsbv : sb ≠ vb := I1.out.ne.1
                          have Hown := Lib.hid (fun b (hb : (U 8).ownBlock = some b) => hI.out.owns (k := 8) (by omega) hb)
                          clear hrb
                          have HUF := Lib.hid (show ∃ ua uc, U 8 = .slice ua (creM c j 4).length uc by
                            obtain ⟨cs, ho, _⟩ := I1.out.cos 4 (by omega)
                            exact row_form ho)
                          obtain ⟨ua, uc, hu0⟩ := HUF.out
                          clear HUF
                          have HUF := Lib.hid hu0
                          clear hu0
                          have HXL := Lib.hid (show (creM c j 4).length ≤ 1 by show ((c.credit.take j).map (cmpX c 1)).length ≤ 1; simp; omega)
                          refine region_Z (fun w' => w'.cell? ⟨rb, 0, none⟩ = some (.int .i64 (eAt c.credit j).op) ∧ w'.cell? ⟨rb, 1, none⟩ = some (.int .i64 (eAt c.credit j).num) ∧ w'.cell? ⟨rb, 2, none⟩ = some (.string (eAt c.credit j).name) ∧ w'.cell? ⟨rb, 3, none⟩ = some (.slice xa (eAt c.credit j).args.length xc) ∧ w'.cell? ⟨sb, 26, none⟩ = some (U 8)) [11, 14] (by kernel_rfl) ?_
                          refine anyZ_take1 (i := 0) (v := .pointer (some ⟨sb, 0, none⟩)) rfl (by kernel_rfl) (by kernel_rfl) (by kernel_rfl) (by kernel_rfl) (fun _ _ _ h => h) (by rfl) (fun w' hS' => ?_) HSd ?_
                          · obtain ⟨g0, g1, g2, g3, g6⟩ := hS'
                            go_simp
                          simp only [Act.put, List.setIfInBounds_toArray, List.set_cons_zero, List.set_cons_succ]
                          refine anyZ_take1 (i := 1) (v := .pointer (some ⟨sb, 0, none⟩)) rfl (by kernel_rfl) (by kernel_rfl) (by kernel_rfl) (by kernel_rfl) (fun _ _ _ h => h) (by rfl) (fun w' hS' => ?_) HSd ?_
                          · obtain ⟨g0, g1, g2, g3, g6⟩ := hS'
                            go_simp
                          simp only [Act.put, List.setIfInBounds_toArray, List.set_cons_zero, List.set_cons_succ]
                          refine anyZ_take1 (i := 2) (v := .pointer (some ⟨sb, 26, none⟩)) rfl (by kernel_rfl) (by kernel_rfl) (by kernel_rfl) (by kernel_rfl) (fun _ _ _ h => h) (by rfl) (fun w' hS' => ?_) HSd ?_
                          · obtain ⟨g0, g1, g2, g3, g6⟩ := hS'
                            go_simp
                          simp only [Act.put, List.setIfInBounds_toArray, List.set_cons_zero, List.set_cons_succ]
                          refine anyZ_take1 (i := 3) (v := U 8) rfl (by kernel_rfl) (by kernel_rfl) (by kernel_rfl) (by kernel_rfl) (fun _ _ _ h => h) (by rfl) (fun w' hS' => ?_) HSd ?_
                          · obtain ⟨g0, g1, g2, g3, g6⟩ := hS'
                            go_simp
                          simp only [Act.put, List.setIfInBounds_toArray, List.set_cons_zero, List.set_cons_succ]
                          refine anyZ_take1 (i := 4) (v := .pointer (some ⟨kp, 0, none⟩)) rfl (by kernel_rfl) (by kernel_rfl) (by kernel_rfl) (by kernel_rfl) (fun _ _ _ h => h) (by rfl) (fun w' hS' => ?_) HSd ?_
                          · obtain ⟨g0, g1, g2, g3, g6⟩ := hS'
                            go_simp
                          simp only [Act.put, List.setIfInBounds_toArray, List.set_cons_zero, List.set_cons_succ]
                          refine anyZ_take1 (i := 5) (v := .agg #[.int .i64 (eAt c.credit j).op, .int .i64 (eAt c.credit j).num, .string (eAt c.credit j).name, .slice xa (eAt c.credit j).args.length xc]) rfl (by kernel_rfl) (by kernel_rfl) (by kernel_rfl) (by kernel_rfl) (fun _ _ _ h => h) (by rfl) (fun w' hS' => ?_) HSd ?_
                          · obtain ⟨g0, g1, g2, g3, g6⟩ := hS'
                            go_simp
                          simp only [Act.put, List.setIfInBounds_toArray, List.set_cons_zero, List.set_cons_succ]
                          refine anyZ_pure1 (i := 7) (v := .int .i64 ((creM c j 4).length : Nat)) rfl (by kernel_rfl) (by kernel_rfl) (by kernel_rfl) (fun _ _ _ h => h) (by rfl) (fun w' => ?_) ?_
                          · have hu := HUF.out
                            go_simp
                          simp only [Act.put, List.setIfInBounds_toArray, List.set_cons_zero, List.set_cons_succ]
                          refine anyZ_two (i := 6) (j := 8) (oi := { dst := some 168, op := Op.call { callee := Callee.value (Operand.func 94), args := #[Operand.tmp 166, Operand.const (Value.int IntKind.i64 1), Operand.tmp 167], argTypes := #[147, 3, 111] }, type := 150, pos := "setting.go:93", after := _, guard := none }) (oj := { dst := some 170, op := Op.buildSlice 143 1 #[(0, Operand.const (Value.agg #[Value.int IntKind.i64 0, Value.int IntKind.i64 0, Value.slice none 0 0]))], type := 143, pos := "setting.go:93", after := _, guard := none }) (by kernel_rfl) rfl rfl (by rfl) (by rfl) (fun K hK => ?_) (fun K hK => ?_)
                          · go_simp
                            refine (HCMP.out 1 (eAt c.credit j) xa xc W1.drew (by omega) I3.out.cmp HFit.out HW.out hcnt HTY.out HAr3.out).mono ?_
                            rintro e w2 ⟨ya, yc, rfl, hFA, hFl, hC2, hg2⟩
                            obtain ⟨fm, hfm⟩ : ∃ fm, fm = cmpE (cvC c.consts c.consts.length) (1 : Nat) (eAt c.credit j) := ⟨_, rfl⟩
                            rw [← hfm] at hFA hFl
                            simp only [← hfm]
                            have HFM := Lib.hid hfm
                            have HFA := Lib.hid hFA
                            have HC2 := Lib.hid hC2
                            have HG2 := Lib.hid hg2
                            clear hfm hFA hC2
                            have HS2 : w2.cell? ⟨rb, 0, none⟩ = some (.int .i64 (eAt c.credit j).op) ∧ w2.cell? ⟨rb, 1, none⟩ = some (.int .i64 (eAt c.credit j).num) ∧ w2.cell? ⟨rb, 2, none⟩ = some (.string (eAt c.credit j).name) ∧ w2.cell? ⟨rb, 3, none⟩ = some (.slice xa (eAt c.credit j).args.length xc) ∧ w2.cell? ⟨sb, 26, none⟩ = some (U 8) := ⟨(hg2.cell_far ⟨rb, 0, none⟩ lrb (by simp; omega)).trans HSd.1, (hg2.cell_far ⟨rb, 1, none⟩ lrb (by simp; omega)).trans HSd.2.1, (hg2.cell_far ⟨rb, 2, none⟩ lrb (by simp; omega)).trans HSd.2.2.1, (hg2.cell_far ⟨rb, 3, none⟩ lrb (by simp; omega)).trans HSd.2.2.2.1, (hg2.cell_far ⟨sb, 26, none⟩ lsb (by simp; omega)).trans HSd.2.2.2.2⟩
                            clear hg2
                            refine hK.out _ _ (fun _ _ => HS2) ?_
                            clear hK K
                            try simp only [Act.put, List.setIfInBounds_toArray, List.set_cons_zero, List.set_cons_succ]
                            have I4 := Lib.hid (I3.out.move HG2.out HC2.out)
                            obtain ⟨cs, hown2, hrow2⟩ := I4.out.cos 4 (by omega)
                            have HO2 := Lib.hid (show w2.ownsRow w6.heap.size 150 3 (U 8) (creM c j 4).length cs from hown2)
                            have HR2 := Lib.hid hrow2
                            clear hown2 hrow2
                            refine anyZ_one (i := 8) (o := { dst := some 170, op := Op.buildSlice 143 1 #[(0, Operand.const (Value.agg #[Value.int IntKind.i64 0, Value.int IntKind.i64 0, Value.slice none 0 0]))], type := 143, pos := "setting.go:93", after := _, guard := none }) (by kernel_rfl) rfl (by rfl) (fun K hK => ?_)
                            go_simp
                            have HS3 : (w2.alloc (Obj.cells #[.int .i64 0, .int .i64 0, .slice none 0 0] 150)).cell? ⟨rb, 0, none⟩ = some (.int .i64 (eAt c.credit j).op) ∧ (w2.alloc (Obj.cells #[.int .i64 0, .int .i64 0, .slice none 0 0] 150)).cell? ⟨rb, 1, none⟩ = some (.int .i64 (eAt c.credit j).num) ∧ (w2.alloc (Obj.cells #[.int .i64 0, .int .i64 0, .slice none 0 0] 150)).cell? ⟨rb, 2, none⟩ = some (.string (eAt c.credit j).name) ∧ (w2.alloc (Obj.cells #[.int .i64 0, .int .i64 0, .slice none 0 0] 150)).cell? ⟨rb, 3, none⟩ = some (.slice xa (eAt c.credit j).args.length xc) ∧ (w2.alloc (Obj.cells #[.int .i64 0, .int .i64 0, .slice none 0 0] 150)).cell? ⟨sb, 26, none⟩ = some (U 8) := ⟨below_cell HS2.1 (Nat.lt_of_lt_of_le lrb HG2.out.size) (below_new w2 _), below_cell HS2.2.1 (Nat.lt_of_lt_of_le lrb HG2.out.size) (below_new w2 _), below_cell HS2.2.2.1 (Nat.lt_of_lt_of_le lrb HG2.out.size) (below_new w2 _), below_cell HS2.2.2.2.1 (Nat.lt_of_lt_of_le lrb HG2.out.size) (below_new w2 _), below_cell HS2.2.2.2.2 (Nat.lt_of_lt_of_le lsb HG2.out.size) (below_new w2 _)⟩
                            refine hK.out _ _ (fun _ _ => HS3) ?_
                            clear hK K
                            try simp only [Act.put, List.setIfInBounds_toArray, List.set_cons_zero, List.set_cons_succ]
                            refine anyZ_one (i := 9) (o := { dst := some 171, op := Op.call { callee := Callee.builtin Builtin.append, args := #[Operand.tmp 165, Operand.tmp 170], argTypes := #[143, 143] }, type := 143, pos := "setting.go:93", after := _, guard := none }) (by kernel_rfl) rfl (by rfl) (fun K hK => ?_)
                            refine wp_append_lies _ (Operand.tmp 165) (Operand.tmp 170) 143 rfl w6.heap.size 150 fi0 (.agg #[.int .i64 0, .int .i64 0, .slice none 0 0]) 3 40 Tryz.underlying143 hfi hfz0 hfz1 hfz2 rfl (by decide) (U 8) _ cs rfl (HO2.out.alloc _) ⟨w2.heap.size, 0, none⟩ 1 1 [.int .i64 0, .int .i64 0, .slice none 0 0] rfl rfl (fresh_cells w2 [.int .i64 0, .int .i64 0, .slice none 0 0] 150) ?xa1 (by decide) ?xa2 ?xa3 ?xa4 (w2.heap.size + 1) (by simp) ?xa5
                            case xa1 => intro u hu; simp at hu; rcases hu with rfl | rfl | rfl <;> rfl
                            case xa2 => have := HXL.out; unfold maxLen; omega
                            case xa3 => have := HXL.out; omega
                            case xa4 => simp; exact Nat.le_succ_of_le (Nat.le_trans I3.out.size HG2.out.size)
                            intro g cap w3 hown3 hgrow hat hlt3
                            have own_rb : (U 8).ownBlock ≠ some rb := fun e => by have := (Hown.out rb e).2; have := HRB.out; omega
                            have own_sb : (U 8).ownBlock ≠ some sb := fun e => by have h1 : w6.heap.size ≤ sb := (Hown.out sb e).1; omega
                            have HS4 : w3.cell? ⟨rb, 0, none⟩ = some (.int .i64 (eAt c.credit j).op) ∧ w3.cell? ⟨rb, 1, none⟩ = some (.int .i64 (eAt c.credit j).num) ∧ w3.cell? ⟨rb, 2, none⟩ = some (.string (eAt c.credit j).name) ∧ w3.cell? ⟨rb, 3, none⟩ = some (.slice xa (eAt c.credit j).args.length xc) ∧ w3.cell? ⟨sb, 26, none⟩ = some (U 8) := ⟨(hgrow.cell_far ⟨rb, 0, none⟩ (by simp; exact Nat.lt_succ_of_lt (Nat.lt_of_lt_of_le lrb HG2.out.size)) (Ne.symm own_rb)).trans HS3.1, (hgrow.cell_far ⟨rb, 1, none⟩ (by simp; exact Nat.lt_succ_of_lt (Nat.lt_of_lt_of_le lrb HG2.out.size)) (Ne.symm own_rb)).trans HS3.2.1, (hgrow.cell_far ⟨rb, 2, none⟩ (by simp; exact Nat.lt_succ_of_lt (Nat.lt_of_lt_of_le lrb HG2.out.size)) (Ne.symm own_rb)).trans HS3.2.2.1, (hgrow.cell_far ⟨rb, 3, none⟩ (by simp; exact Nat.lt_succ_of_lt (Nat.lt_of_lt_of_le lrb HG2.out.size)) (Ne.symm own_rb)).trans HS3.2.2.2.1, (hgrow.cell_far ⟨sb, 26, none⟩ (by simp; exact Nat.lt_succ_of_lt (Nat.lt_of_lt_of_le lsb HG2.out.size)) (Ne.symm own_sb)).trans HS3.2.2.2.2⟩
                            refine hK.out _ _ (fun _ _ => HS4) ?_
                            clear hK K
                            try simp only [Act.put, List.setIfInBounds_toArray, List.set_cons_zero, List.set_cons_succ]
                            have GR := Lib.hid (Grew.mk (Lib.grownBy_trans (grown_below _ (below_new w2 _)) hgrow) (by show some g = (U 8).ownBlock ∨ ∃ H, w2.heap.size ≤ H ∧ some g = some H; rcases hat with h | h; exact .inl h.symm; exact .inr ⟨_, Nat.le_succ _, by rw [h]⟩) : Grew (⟨t, c, za, zc, aa, ac, fa, fc, p, zb, sb, cb, kp, ib, vb, ps, w.heap.size, w6.heap.size⟩ : NwP) w2 w3 U (4 + 4) (.slice (some ⟨g, 0, none⟩) ((creM c j 4).length + 1) cap))
                            have bx3 : w3.heap[sb]? = some (.cells (sbA (⟨t, c, za, zc, aa, ac, fa, fc, p, zb, sb, cb, kp, ib, vb, ps, w.heap.size, w6.heap.size⟩ : NwP) U false) 146 (0, 0)) := (hgrow.block sb (by simp; exact Nat.lt_succ_of_lt (Nat.lt_of_lt_of_le lsb HG2.out.size)) (Ne.symm own_sb)).trans (one_alloc I4.out.box)
                            have I5 := Lib.hid (NInv.cost (k := 4) (f := FormM.mk 0 0 []) (fa := none) (fc := 0) I3.out (by omega) HG2.out HC2.out HR2.out ⟨0, 0, fun h => absurd rfl h, .nil _ _⟩ (by decide) GR.out hown3)
                            have HF5 := Lib.hid (FArgsAt.past I3.out I4.out HG2.out.size (by omega) GR.out HFA.out)
                            have HFill := Lib.hid (NInv.fill (k := 4) (f := fm) (fa := ya) (fc := yc) I5.out (by omega) (upd_eq _ _ _) hFl HF5.out)
                            have HU := Lib.hid (show creM c (j + 1) = updL (creM c j) 4 fm by rw [creM_succ hlt, HFM.out]; rfl)
                            have glt := hown3.lt g rfl
                            have gsb : g ≠ sb := by have h1 : w6.heap.size ≤ g := glt.1; omega
                            obtain ⟨N, hN⟩ : ∃ N, N = (creM c j 4).length := ⟨_, rfl⟩
                            have hl5 := hown3.1
                            simp only [← hN] at HFill hown3 hl5 ⊢
                            clear hN
                            have y0 := hown3.cellAt (N * 3) (by omega)
                            have y1 := hown3.cellAt (N * 3 + 1) (by omega)
                            have y2 := hown3.cellAt (N * 3 + 2) (by omega)
                            rw [List.getElem?_eq_getElem (by omega)] at y0 y1 y2
                            have z0 := hown3.frozenAt (N * 3)
                            have z1 := hown3.frozenAt (N * 3 + 1)
                            have z2 := hown3.frozenAt (N * 3 + 2)
                            have lg : g < w3.heap.size := hlt3
                            have st6 : w3.cell? ⟨sb, 26, none⟩ = some (U 8) := HS4.2.2.2.2
                            have sfz : w3.frozen? ⟨sb, 26, none⟩ = false := freeW bx3
                            have lsb3 := lt_of_block bx3
                            clear I5 HF5 GR hgrow hat own_rb own_sb I4 HO2 HR2 HFA HC2 HG2 I3 HUF hown3 bx3 HS4
                            have HFill2 : Hid (NInv (⟨t, c, za, zc, aa, ac, fa, fc, p, zb, sb, cb, kp, ib, vb, ps, w.heap.size, w6.heap.size⟩ : NwP) w w6 ((((w3.setCell ⟨sb, 26, none⟩ (.slice (some ⟨g, 0, none⟩) (N + 1) cap)).setCell ⟨g, N * 3, none⟩ (.int .i64 fm.op)).setCell ⟨g, N * 3 + 1, none⟩ (.int .i64 fm.num)).setCell ⟨g, N * 3 + 2, none⟩ (.slice ya fm.args.length yc)) (upd U 8 (.slice (some ⟨g, 0, none⟩) (N + 1) cap)) (rulesL c c.rules) (updL (creM c j) 4 fm) false) := HFill
                            clear HFill
                            refine anyZ_pure1 (i := 10) (v := .pointer (some ⟨g, N * 3, none⟩)) rfl (by kernel_rfl) (by kernel_rfl) (by kernel_rfl) (fun _ _ _ h => h) (by rfl) (fun w' => ?_) ?_
                            · go_simp
                              intro h
                              omega
                            simp only [Act.put, List.setIfInBounds_toArray, List.set_cons_zero, List.set_cons_succ]
                            refine anyZ_pure1 (i := 12) (v := .pointer (some ⟨sb, 0, none⟩)) rfl (by kernel_rfl) (by kernel_rfl) (by kernel_rfl) (fun _ _ _ h => h) (by rfl) (fun w' => ?_) ?_
                            · go_simp
                            simp only [Act.put, List.setIfInBounds_toArray, List.set_cons_zero, List.set_cons_succ]
                            refine anyZ_pure1 (i := 13) (v := .pointer (some ⟨sb, 26, none⟩)) rfl (by kernel_rfl) (by kernel_rfl) (by kernel_rfl) (fun _ _ _ h => h) (by rfl) (fun w' => ?_) ?_
                            · go_simp
                            simp only [Act.put, List.setIfInBounds_toArray, List.set_cons_zero, List.set_cons_succ]
                            refine anyZ_two (i := 11) (j := 14) (oi := { dst := none, op := Op.store 150 (Operand.tmp 172) (Operand.tmp 168), type := 0, pos := "setting.go:93", after := _, guard := none }) (oj := { dst := none, op := Op.store 143 (Operand.tmp 174) (Operand.tmp 171), type := 0, pos := "setting.go:93", after := _, guard := none }) (by kernel_rfl) rfl rfl (by rfl) (by rfl) (fun K hK => ?_) (fun K hK => ?_)
                            · go_simp
                              refine hK.out _ _ (fun h _ => absurd (by decide : (11 : Nat) ∈ [11, 14]) h) ?_
                              clear hK K
                              try simp only [Act.put, List.setIfInBounds_toArray, List.set_cons_zero, List.set_cons_succ]
                              refine anyZ_one (i := 14) (o := { dst := none, op := Op.store 143 (Operand.tmp 174) (Operand.tmp 171), type := 0, pos := "setting.go:93", after := _, guard := none }) (by kernel_rfl) rfl (by rfl) (fun K hK => ?_)
                              go_simp
                              refine hK.out _ _ (fun h _ => absurd (by decide : (14 : Nat) ∈ [11, 14]) h) ?_
                              clear hK K
                              try simp only [Act.put, List.setIfInBounds_toArray, List.set_cons_zero, List.set_cons_succ]
                              rw [set3_sb _ gsb]
                              refine anyZ_done (by kernel_rfl) ?_
                              generalize (((w3.setCell ⟨sb, 26, none⟩ (.slice (some ⟨g, 0, none⟩) (N + 1) cap)).setCell ⟨g, N * 3, none⟩ (.int .i64 fm.op)).setCell ⟨g, N * 3 + 1, none⟩ (.int .i64 fm.num)).setCell ⟨g, N * 3 + 2, none⟩ (.slice ya fm.args.length yc) = W9 at *
                              clear y0 y1 y2 z0 z1 z2 lg st6 sfz lsb3 hl5 glt
                              go_wp2_with fail
                              go_roundw
                              case rel => exact ⟨j + 1, _, by omega, by go_num, Lib.hid (by rw [HU.out]; exact HFill2.out)⟩
                              case measure => simp [intOf]; omega
                            · go_simp
                              refine hK.out _ _ (fun h _ => absurd (by decide : (14 : Nat) ∈ [11, 14]) h) ?_
                              clear hK K
                              try simp only [Act.put, List.setIfInBounds_toArray, List.set_cons_zero, List.set_cons_succ]
                              refine anyZ_one (i := 11) (o := { dst := none, op := Op.store 150 (Operand.tmp 172) (Operand.tmp 168), type := 0, pos := "setting.go:93", after := _, guard := none }) (by kernel_rfl) rfl (by rfl) (fun K hK => ?_)
                              go_simp
                              refine hK.out _ _ (fun h _ => absurd (by decide : (11 : Nat) ∈ [11, 14]) h) ?_
                              clear hK K
                              try simp only [Act.put, List.setIfInBounds_toArray, List.set_cons_zero, List.set_cons_succ]
                              refine anyZ_done (by kernel_rfl) ?_
                              generalize (((w3.setCell ⟨sb, 26, none⟩ (.slice (some ⟨g, 0, none⟩) (N + 1) cap)).setCell ⟨g, N * 3, none⟩ (.int .i64 fm.op)).setCell ⟨g, N * 3 + 1, none⟩ (.int .i64 fm.num)).setCell ⟨g, N * 3 + 2, none⟩ (.slice ya fm.args.length yc) = W9 at *
                              clear y0 y1 y2 z0 z1 z2 lg st6 sfz lsb3 hl5 glt
                              go_wp2_with fail
                              go_roundw
                              case rel => exact ⟨j + 1, _, by omega, by go_num, Lib.hid (by rw [HU.out]; exact HFill2.out)⟩
                              case measure => simp [intOf]; omega
                          · go_simp
                            have HS1 : (W1.drew.alloc (Obj.cells #[.int .i64 0, .int .i64 0, .slice none 0 0] 150)).cell? ⟨rb, 0, none⟩ = some (.int .i64 (eAt c.credit j).op) ∧ (W1.drew.alloc (Obj.cells #[.int .i64 0, .int .i64 0, .slice none 0 0] 150)).cell? ⟨rb, 1, none⟩ = some (.int .i64 (eAt c.credit j).num) ∧ (W1.drew.alloc (Obj.cells #[.int .i64 0, .int .i64 0, .slice none 0 0] 150)).cell? ⟨rb, 2, none⟩ = some (.string (eAt c.credit j).name) ∧ (W1.drew.alloc (Obj.cells #[.int .i64 0, .int .i64 0, .slice none 0 0] 150)).cell? ⟨rb, 3, none⟩ = some (.slice xa (eAt c.credit j).args.length xc) ∧ (W1.drew.alloc (Obj.cells #[.int .i64 0, .int .i64 0, .slice none 0 0] 150)).cell? ⟨sb, 26, none⟩ = some (U 8) := ⟨below_cell HSd.1 lrb (below_new W1.drew _), below_cell HSd.2.1 lrb (below_new W1.drew _), below_cell HSd.2.2.1 lrb (below_new W1.drew _), below_cell HSd.2.2.2.1 lrb (below_new W1.drew _), below_cell HSd.2.2.2.2 lsb (below_new W1.drew _)⟩
                            refine hK.out _ _ (fun _ _ => HS1) ?_
                            clear hK K
                            try simp only [Act.put, List.setIfInBounds_toArray, List.set_cons_zero, List.set_cons_succ]
                            have I3b := Lib.hid (I3.out.below (below_new W1.drew (Obj.cells #[.int .i64 0, .int .i64 0, .slice none 0 0] 150)))
                            have HArb := Lib.hid (HAr3.out.keep ((below_new W1.drew (Obj.cells #[.int .i64 0, .int .i64 0, .slice none 0 0] 150)).mono (Nat.le_trans I3.out.bs I3.out.size)))
                            have QZ := Lib.hid (heap_new W1.drew (Obj.cells #[.int .i64 0, .int .i64 0, .slice none 0 0] 150))
                            obtain ⟨zq, hzq⟩ : ∃ zq, zq = W1.drew.heap.size := ⟨_, rfl⟩
                            have hzv : zq ≠ vb := by have h1 : vb < w6.heap.size := F5; have h2 : w6.heap.size ≤ W1.drew.heap.size := I3.out.size; omega
                            rw [← hzq] at QZ
                            replace lrb : rb < (W1.drew.alloc (Obj.cells #[.int .i64 0, .int .i64 0, .slice none 0 0] 150)).heap.size := Nat.lt_of_lt_of_le lrb (by simp)
                            replace lsb : sb < (W1.drew.alloc (Obj.cells #[.int .i64 0, .int .i64 0, .slice none 0 0] 150)).heap.size := Nat.lt_of_lt_of_le lsb (by simp)
                            have hzs : zq < (W1.drew.alloc (Obj.cells #[.int .i64 0, .int .i64 0, .slice none 0 0] 150)).heap.size := lt_of_block QZ.out
                            simp only [show W1.heap.size = zq from hzq.symm]
                            simp only [show (W1.alloc (Obj.cells #[.int .i64 0, .int .i64 0, .slice none 0 0] 150)).drew = W1.drew.alloc (Obj.cells #[.int .i64 0, .int .i64 0, .slice none 0 0] 150) from rfl]
                            generalize W1.drew.alloc (Obj.cells #[.int .i64 0, .int .i64 0, .slice none 0 0] 150) = W5 at *
                            clear hzq I3 HAr3
                            refine anyZ_one (i := 6) (o := { dst := some 168, op := Op.call { callee := Callee.value (Operand.func 94), args := #[Operand.tmp 166, Operand.const (Value.int IntKind.i64 1), Operand.tmp 167], argTypes := #[147, 3, 111] }, type := 150, pos := "setting.go:93", after := _, guard := none }) (by kernel_rfl) rfl (by rfl) (fun K hK => ?_)
                            go_simp
                            refine (HCMP.out 1 (eAt c.credit j) xa xc W5 (by omega) I3b.out.cmp HFit.out HW.out hcnt HTY.out HArb.out).mono ?_
                            rintro e w2 ⟨ya, yc, rfl, hFA, hFl, hC2, hg2⟩
                            obtain ⟨fm, hfm⟩ : ∃ fm, fm = cmpE (cvC c.consts c.consts.length) (1 : Nat) (eAt c.credit j) := ⟨_, rfl⟩
                            rw [← hfm] at hFA hFl
                            simp only [← hfm]
                            have HFM := Lib.hid hfm
                            have HFA := Lib.hid hFA
                            have HC2 := Lib.hid hC2
                            have HG2 := Lib.hid hg2
                            clear hfm hFA hC2
                            have HS2 : w2.cell? ⟨rb, 0, none⟩ = some (.int .i64 (eAt c.credit j).op) ∧ w2.cell? ⟨rb, 1, none⟩ = some (.int .i64 (eAt c.credit j).num) ∧ w2.cell? ⟨rb, 2, none⟩ = some (.string (eAt c.credit j).name) ∧ w2.cell? ⟨rb, 3, none⟩ = some (.slice xa (eAt c.credit j).args.length xc) ∧ w2.cell? ⟨sb, 26, none⟩ = some (U 8) := ⟨(hg2.cell_far ⟨rb, 0, none⟩ lrb (by simp; omega)).trans HS1.1, (hg2.cell_far ⟨rb, 1, none⟩ lrb (by simp; omega)).trans HS1.2.1, (hg2.cell_far ⟨rb, 2, none⟩ lrb (by simp; omega)).trans HS1.2.2.1, (hg2.cell_far ⟨rb, 3, none⟩ lrb (by simp; omega)).trans HS1.2.2.2.1, (hg2.cell_far ⟨sb, 26, none⟩ lsb (by simp; omega)).trans HS1.2.2.2.2⟩
                            have QZ2 := Lib.hid ((hg2.block zq hzs (by simpa using hzv)).trans QZ.out)
                            clear hg2
                            refine hK.out _ _ (fun _ _ => HS2) ?_
                            clear hK K
                            try simp only [Act.put, List.setIfInBounds_toArray, List.set_cons_zero, List.set_cons_succ]
                            have I4 := Lib.hid (I3b.out.move HG2.out HC2.out)
                            obtain ⟨cs, hown2, hrow2⟩ := I4.out.cos 4 (by omega)
                            have HO2 := Lib.hid (show w2.ownsRow w6.heap.size 150 3 (U 8) (creM c j 4).length cs from hown2)
                            have HR2 := Lib.hid hrow2
                            clear hown2 hrow2
                            refine anyZ_one (i := 9) (o := { dst := some 171, op := Op.call { callee := Callee.builtin Builtin.append, args := #[Operand.tmp 165, Operand.tmp 170], argTypes := #[143, 143] }, type := 143, pos := "setting.go:93", after := _, guard := none }) (by kernel_rfl) rfl (by rfl) (fun K hK => ?_)
                            refine wp_append_lies _ (Operand.tmp 165) (Operand.tmp 170) 143 rfl w6.heap.size 150 fi0 (.agg #[.int .i64 0, .int .i64 0, .slice none 0 0]) 3 40 Tryz.underlying143 hfi hfz0 hfz1 hfz2 rfl (by decide) (U 8) _ cs rfl (HO2.out) ⟨zq, 0, none⟩ 1 1 [.int .i64 0, .int .i64 0, .slice none 0 0] rfl rfl (block_cells QZ2.out) ?xb1 (by decide) ?xb2 ?xb3 ?xb4 (w2.heap.size) rfl ?xb5
                            case xb1 => intro u hu; simp at hu; rcases hu with rfl | rfl | rfl <;> rfl
                            case xb2 => have := HXL.out; unfold maxLen; omega
                            case xb3 => have := HXL.out; omega
                            case xb4 => exact Nat.le_trans I3b.out.size HG2.out.size
                            intro g cap w3 hown3 hgrow hat hlt3
                            have own_rb : (U 8).ownBlock ≠ some rb := fun e => by have := (Hown.out rb e).2; have := HRB.out; omega
                            have own_sb : (U 8).ownBlock ≠ some sb := fun e => by have h1 : w6.heap.size ≤ sb := (Hown.out sb e).1; omega
                            have HS4 : w3.cell? ⟨rb, 0, none⟩ = some (.int .i64 (eAt c.credit j).op) ∧ w3.cell? ⟨rb, 1, none⟩ = some (.int .i64 (eAt c.credit j).num) ∧ w3.cell? ⟨rb, 2, none⟩ = some (.string (eAt c.credit j).name) ∧ w3.cell? ⟨rb, 3, none⟩ = some (.slice xa (eAt c.credit j).args.length xc) ∧ w3.cell? ⟨sb, 26, none⟩ = some (U 8) := ⟨(hgrow.cell_far ⟨rb, 0, none⟩ (Nat.lt_of_lt_of_le lrb HG2.out.size) (Ne.symm own_rb)).trans HS2.1, (hgrow.cell_far ⟨rb, 1, none⟩ (Nat.lt_of_lt_of_le lrb HG2.out.size) (Ne.symm own_rb)).trans HS2.2.1, (hgrow.cell_far ⟨rb, 2, none⟩ (Nat.lt_of_lt_of_le lrb HG2.out.size) (Ne.symm own_rb)).trans HS2.2.2.1, (hgrow.cell_far ⟨rb, 3, none⟩ (Nat.lt_of_lt_of_le lrb HG2.out.size) (Ne.symm own_rb)).trans HS2.2.2.2.1, (hgrow.cell_far ⟨sb, 26, none⟩ (Nat.lt_of_lt_of_le lsb HG2.out.size) (Ne.symm own_sb)).trans HS2.2.2.2.2⟩
                            refine hK.out _ _ (fun _ _ => HS4) ?_
                            clear hK K
                            try simp only [Act.put, List.setIfInBounds_toArray, List.set_cons_zero, List.set_cons_succ]
                            have GR := Lib.hid (Grew.mk hgrow (by show some g = (U 8).ownBlock ∨ ∃ H, w2.heap.size ≤ H ∧ some g = some H; rcases hat with h | h; exact .inl h.symm; exact .inr ⟨_, Nat.le_refl _, by rw [h]⟩) : Grew (⟨t, c, za, zc, aa, ac, fa, fc, p, zb, sb, cb, kp, ib, vb, ps, w.heap.size, w6.heap.size⟩ : NwP) w2 w3 U (4 + 4) (.slice (some ⟨g, 0, none⟩) ((creM c j 4).length + 1) cap))
                            have bx3 : w3.heap[sb]? = some (.cells (sbA (⟨t, c, za, zc, aa, ac, fa, fc, p, zb, sb, cb, kp, ib, vb, ps, w.heap.size, w6.heap.size⟩ : NwP) U false) 146 (0, 0)) := (hgrow.block sb (Nat.lt_of_lt_of_le lsb HG2.out.size) (Ne.symm own_sb)).trans (I4.out.box)
                            have I5 := Lib.hid (NInv.cost (k := 4) (f := FormM.mk 0 0 []) (fa := none) (fc := 0) I3b.out (by omega) HG2.out HC2.out HR2.out ⟨0, 0, fun h => absurd rfl h, .nil _ _⟩ (by decide) GR.out hown3)
                            have HF5 := Lib.hid (FArgsAt.past I3b.out I4.out HG2.out.size (by omega) GR.out HFA.out)
                            have HFill := Lib.hid (NInv.fill (k := 4) (f := fm) (fa := ya) (fc := yc) I5.out (by omega) (upd_eq _ _ _) hFl HF5.out)
                            have HU := Lib.hid (show creM c (j + 1) = updL (creM c j) 4 fm by rw [creM_succ hlt, HFM.out]; rfl)
                            have glt := hown3.lt g rfl
                            have gsb : g ≠ sb := by have h1 : w6.heap.size ≤ g := glt.1; omega
                            obtain ⟨N, hN⟩ : ∃ N, N = (creM c j 4).length := ⟨_, rfl⟩
                            have hl5 := hown3.1
                            simp only [← hN] at HFill hown3 hl5 ⊢
                            clear hN
                            have y0 := hown3.cellAt (N * 3) (by omega)
                            have y1 := hown3.cellAt (N * 3 + 1) (by omega)
                            have y2 := hown3.cellAt (N * 3 + 2) (by omega)
                            rw [List.getElem?_eq_getElem (by omega)] at y0 y1 y2
                            have z0 := hown3.frozenAt (N * 3)
                            have z1 := hown3.frozenAt (N * 3 + 1)
                            have z2 := hown3.frozenAt (N * 3 + 2)
                            have lg : g < w3.heap.size := hlt3
                            have st6 : w3.cell? ⟨sb, 26, none⟩ = some (U 8) := HS4.2.2.2.2
                            have sfz : w3.frozen? ⟨sb, 26, none⟩ = false := freeW bx3
                            have lsb3 := lt_of_block bx3
                            clear I5 HF5 GR hgrow hat own_rb own_sb I4 HO2 HR2 HFA HC2 HG2 I3b HUF hown3 bx3 HS4
                            have HFill2 : Hid (NInv (⟨t, c, za, zc, aa, ac, fa, fc, p, zb, sb, cb, kp, ib, vb, ps, w.heap.size, w6.heap.size⟩ : NwP) w w6 ((((w3.setCell ⟨sb, 26, none⟩ (.slice (some ⟨g, 0, none⟩) (N + 1) cap)).setCell ⟨g, N * 3, none⟩ (.int .i64 fm.op)).setCell ⟨g, N * 3 + 1, none⟩ (.int .i64 fm.num)).setCell ⟨g, N * 3 + 2, none⟩ (.slice ya fm.args.length yc)) (upd U 8 (.slice (some ⟨g, 0, none⟩) (N + 1) cap)) (rulesL c c.rules) (updL (creM c j) 4 fm) false) := HFill
                            clear HFill
                            refine anyZ_pure1 (i := 10) (v := .pointer (some ⟨g, N * 3, none⟩)) rfl (by kernel_rfl) (by kernel_rfl) (by kernel_rfl) (fun _ _ _ h => h) (by rfl) (fun w' => ?_) ?_
                            · go_simp
                              intro h
                              omega
                            simp only [Act.put, List.setIfInBounds_toArray, List.set_cons_zero, List.set_cons_succ]
                            refine anyZ_pure1 (i := 12) (v := .pointer (some ⟨sb, 0, none⟩)) rfl (by kernel_rfl) (by kernel_rfl) (by kernel_rfl) (fun _ _ _ h => h) (by rfl) (fun w' => ?_) ?_
                            · go_simp
                            simp only [Act.put, List.setIfInBounds_toArray, List.set_cons_zero, List.set_cons_succ]
                            refine anyZ_pure1 (i := 13) (v := .pointer (some ⟨sb, 26, none⟩)) rfl (by kernel_rfl) (by kernel_rfl) (by kernel_rfl) (fun _ _ _ h => h) (by rfl) (fun w' => ?_) ?_
                            · go_simp
                            simp only [Act.put, List.setIfInBounds_toArray, List.set_cons_zero, List.set_cons_succ]
                            refine anyZ_two (i := 11) (j := 14) (oi := { dst := none, op := Op.store 150 (Operand.tmp 172) (Operand.tmp 168), type := 0, pos := "setting.go:93", after := _, guard := none }) (oj := { dst := none, op := Op.store 143 (Operand.tmp 174) (Operand.tmp 171), type := 0, pos := "setting.go:93", after := _, guard := none }) (by kernel_rfl) rfl rfl (by rfl) (by rfl) (fun K hK => ?_) (fun K hK => ?_)
                            · go_simp
                              refine hK.out _ _ (fun h _ => absurd (by decide : (11 : Nat) ∈ [11, 14]) h) ?_
                              clear hK K
                              try simp only [Act.put, List.setIfInBounds_toArray, List.set_cons_zero, List.set_cons_succ]
                              refine anyZ_one (i := 14) (o := { dst := none, op := Op.store 143 (Operand.tmp 174) (Operand.tmp 171), type := 0, pos := "setting.go:93", after := _, guard := none }) (by kernel_rfl) rfl (by rfl) (fun K hK => ?_)
                              go_simp
                              refine hK.out _ _ (fun h _ => absurd (by decide : (14 : Nat) ∈ [11, 14]) h) ?_
                              clear hK K
                              try simp only [Act.put, List.setIfInBounds_toArray, List.set_cons_zero, List.set_cons_succ]
                              rw [set3_sb _ gsb]
                              refine anyZ_done (by kernel_rfl) ?_
                              generalize (((w3.setCell ⟨sb, 26, none⟩ (.slice (some ⟨g, 0, none⟩) (N + 1) cap)).setCell ⟨g, N * 3, none⟩ (.int .i64 fm.op)).setCell ⟨g, N * 3 + 1, none⟩ (.int .i64 fm.num)).setCell ⟨g, N * 3 + 2, none⟩ (.slice ya fm.args.length yc) = W9 at *
                              clear y0 y1 y2 z0 z1 z2 lg st6 sfz lsb3 hl5 glt
                              go_wp2_with fail
                              go_roundw
                              case rel => exact ⟨j + 1, _, by omega, by go_num, Lib.hid (by rw [HU.out]; exact HFill2.out)⟩
                              case measure => simp [intOf]; omega
                            · go_simp
                              refine hK.out _ _ (fun h _ => absurd (by decide : (14 : Nat) ∈ [11, 14]) h) ?_
                              clear hK K
                              try simp only [Act.put, List.setIfInBounds_toArray, List.set_cons_zero, List.set_cons_succ]
                              refine anyZ_one (i := 11) (o := { dst := none, op := Op.store 150 (Operand.tmp 172) (Operand.tmp 168), type := 0, pos := "setting.go:93", after := _, guard := none }) (by kernel_rfl) rfl (by rfl) (fun K hK => ?_)
                              go_simp
                              refine hK.out _ _ (fun h _ => absurd (by decide : (11 : Nat) ∈ [11, 14]) h) ?_
                              clear hK K
                              try simp only [Act.put, List.setIfInBounds_toArray, List.set_cons_zero, List.set_cons_succ]
                              refine anyZ_done (by kernel_rfl) ?_
                              generalize (((w3.setCell ⟨sb, 26, none⟩ (.slice (some ⟨g, 0, none⟩) (N + 1) cap)).setCell ⟨g, N * 3, none⟩ (.int .i64 fm.op)).setCell ⟨g, N * 3 + 1, none⟩ (.int .i64 fm.num)).setCell ⟨g, N * 3 + 2, none⟩ (.slice ya fm.args.length yc) = W9 at *
                              clear y0 y1 y2 z0 z1 z2 lg st6 sfz lsb3 hl5 glt
                              go_wp2_with fail
                              go_roundw
                              case rel => exact ⟨j + 1, _, by omega, by go_num, Lib.hid (by rw [HU.out]; exact HFill2.out)⟩
                              case measure => simp [intOf]; omega
                        · obtain rfl : j = c.credit.length := by omega
                          obtain ⟨W10, rfl⟩ : ∃ W10 : World, W10 = wr := ⟨_, rfl⟩
                          obtain ⟨ra2, rc2, u2, hrow2⟩ := hI.out.rules (k := 2) (by omega)
                          have s20 : W10.cell? ⟨sb, 20, none⟩ = some (.slice ra2 (rulesL c c.rules 2).length rc2) := by rw [← u2]; exact cellW hI.out.box (sbA_at _ U false (k := 2) (by omega))
                          have lsb10 : sb < W10.heap.size := lt_of_block hI.out.box
                          have hRL : (rulesL c c.rules 2).length ≤ 10000 := Nat.le_trans (rulesL_len c c.rules 2) hRN
                          clear hrow2
                          go_wp2_with fail
                          clear s20 lsb10 u2
                          go_loopw [182] (fun i wr => ∃ (j : Nat), j ≤ (rulesL c c.rules 2).length ∧ i = .int .i64 j ∧ Hid (NInv (⟨t, c, za, zc, aa, ac, fa, fc, p, zb, sb, cb, kp, ib, vb, ps, w.heap.size, w6.heap.size⟩ : NwP) w w6 wr U (rulesL c c.rules) (creM c c.credit.length) (usesR ((rulesL c c.rules 2).take j)))) (fun i _ => (rulesL c c.rules 2).length - (intOf i).toNat)
                          case atStart => exact ⟨0, Nat.zero_le _, rfl, hI⟩
                          clear hI
                          case round =>
                            obtain ⟨j, hj, rfl, hI⟩ := hrel
                            have lsb10 : sb < wr.heap.size := lt_of_block hI.out.box
                            by_cases hlt : j < (rulesL c c.rules 2).length
                            · obtain ⟨ra, rc, u2, hrow⟩ := hI.out.rules (k := 2) (by omega)
                              obtain ⟨b, off, rfl, hb, hcs⟩ := rules_cells hrow (by omega)
                              obtain ⟨_, _, hF⟩ := hcs j hlt
                              have HFo := Lib.hid hF
                              have s20 : wr.cell? ⟨sb, 20, none⟩ = some (.slice (some ⟨b, off, none⟩) (rulesL c c.rules 2).length rc) := by rw [← u2]; exact cellW hI.out.box (sbA_at _ U _ (k := 2) (by omega))
                              obtain ⟨bq, hbq⟩ : ∃ bq, bq = (usesR ((rulesL c c.rules 2).take j)) := ⟨_, rfl⟩
                              rw [← hbq] at hI
                              have s27 : wr.cell? ⟨sb, 27, none⟩ = some (.bool bq) := cellW hI.out.box rfl
                              have f27 : wr.frozen? ⟨sb, 27, none⟩ = false := freeW hI.out.box
                              have HBQ := Lib.hid hbq
                              clear hcs hrow u2 hF hbq
                              cases bq
                              · go_wp2_with fail
                                refine (uses_any 1 noX (ruAt (rulesL c c.rules 2) j).2 b (off + j * 4 + 1) wr HFo.out).mono ?_
                                rintro e w1 ⟨rfl, rfl⟩
                                go_wp2_with fail
                                go_roundw
                                case rel => exact ⟨j + 1, by omega, by go_num, Lib.hid (by rw [usesR_succ hlt, ← HBQ.out]; simpa using hI.out.night (usesB 1 (ruAt (rulesL c c.rules 2) j).2))⟩
                                case measure => simp [intOf]; omega
                              · go_wp2_with fail
                                go_roundw
                                case rel => exact ⟨j + 1, by omega, by go_num, Lib.hid (by rw [usesR_succ hlt, ← HBQ.out]; simpa using hI.out.night true)⟩
                                case measure => simp [intOf]; omega
                            · obtain rfl : j = (rulesL c c.rules 2).length := by omega
                              rw [List.take_length] at hI
                              obtain ⟨W11, rfl⟩ : ∃ W11 : World, W11 = wr := ⟨_, rfl⟩
                              obtain ⟨ka2, kc2, u6, hrow6⟩ := hI.out.rows (k := 2) (by omega)
                              have s24 : W11.cell? ⟨sb, 24, none⟩ = some (.slice ka2 (creM c c.credit.length 2).length kc2) := by rw [← u6]; exact cellW hI.out.box (sbA_at _ U _ (k := 6) (by omega))
                              have hKL : (creM c c.credit.length 2).length ≤ 10000 := Nat.le_trans (costsL_len c c.costs 2) hKN
                              clear hrow6
                              go_wp2_with fail
                              clear s24 lsb10 u6
                              go_loopw [210] (fun i wr => ∃ (j : Nat), j ≤ (creM c c.credit.length 2).length ∧ i = .int .i64 j ∧ Hid (NInv (⟨t, c, za, zc, aa, ac, fa, fc, p, zb, sb, cb, kp, ib, vb, ps, w.heap.size, w6.heap.size⟩ : NwP) w w6 wr U (rulesL c c.rules) (creM c c.credit.length) (usesR (rulesL c c.rules 2) || usesK ((creM c c.credit.length 2).take j)))) (fun i _ => (creM c c.credit.length 2).length - (intOf i).toNat)
                              case atStart => exact ⟨0, Nat.zero_le _, rfl, Lib.hid (by rw [show (usesR (rulesL c c.rules 2) || usesK ((creM c c.credit.length 2).take 0)) = usesR (rulesL c c.rules 2) from by rw [List.take_zero]; exact Bool.or_false _]; exact hI.out)⟩
                              clear hI
                              case round =>
                                obtain ⟨j, hj, rfl, hI⟩ := hrel
                                have lsb10 : sb < wr.heap.size := lt_of_block hI.out.box
                                by_cases hlt : j < (creM c c.credit.length 2).length
                                · obtain ⟨ra, rc, u6, hrow⟩ := hI.out.rows (k := 2) (by omega)
                                  obtain ⟨b, off, rfl, hb, hcs⟩ := hrow.cells (by omega)
                                  have HFo := Lib.hid (hcs.at j hlt)
                                  have s24 : wr.cell? ⟨sb, 24, none⟩ = some (.slice (some ⟨b, off, none⟩) (creM c c.credit.length 2).length rc) := by rw [← u6]; exact cellW hI.out.box (sbA_at _ U _ (k := 6) (by omega))
                                  obtain ⟨bq, hbq⟩ : ∃ bq, bq = (usesR (rulesL c c.rules 2) || usesK ((creM c c.credit.length 2).take j)) := ⟨_, rfl⟩
                                  rw [← hbq] at hI
                                  have s27 : wr.cell? ⟨sb, 27, none⟩ = some (.bool bq) := cellW hI.out.box rfl
                                  have f27 : wr.frozen? ⟨sb, 27, none⟩ = false := freeW hI.out.box
                                  have HBQ := Lib.hid hbq
                                  clear hcs hrow u6 hbq
                                  cases bq
                                  · go_wp2_with fail
                                    refine (uses_any 1 noX (gAt (creM c c.credit.length 2) j) b (off + j * 3) wr HFo.out).mono ?_
                                    rintro e w1 ⟨rfl, rfl⟩
                                    go_wp2_with fail
                                    go_roundw
                                    case rel => exact ⟨j + 1, by omega, by go_num, Lib.hid (by rw [usesK_succ hlt, ← Bool.or_assoc, ← HBQ.out]; simpa using hI.out.night (usesB 1 (gAt (creM c c.credit.length 2) j)))⟩
                                    case measure => simp [intOf]; omega
                                  · go_wp2_with fail
                                    go_roundw
                                    case rel => exact ⟨j + 1, by omega, by go_num, Lib.hid (by rw [usesK_succ hlt, ← Bool.or_assoc, ← HBQ.out]; simpa using hI.out.night true)⟩
                                    case measure => simp [intOf]; omega
                                · obtain rfl : j = (creM c c.credit.length 2).length := by omega
                                  rw [List.take_length] at hI
                                  obtain ⟨P, hPn, hSet⟩ := hI.out.set rfl HV.out HV2.out (fun k => rfl) (fun k hk => creM_lt c _ hk) (creM_four c) HF.out HMZ.out AM.out
                                  have HP := Lib.hid hPn
                                  have HSt := Lib.hid hSet
                                  have HBe := Lib.hid hI.out.bel
                                  have Hsb := Lib.hid hI.out.fix.2.2.2.2.2.2.1
                                  clear hPn hSet hI
                                  go_wp2_with fail
                                  go_ret2
                                  exact ⟨.ok sb P rfl HSt.out Hsb.out (HP.out.trans (nights_eq c)), HBe.out⟩
end Go.Proofs.YtpgbckgjlgecpaaGreat
