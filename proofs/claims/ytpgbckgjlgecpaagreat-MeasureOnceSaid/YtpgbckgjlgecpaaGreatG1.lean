/- merged texts: ZP ZW1 ZW2 ZW3 ZW4 Rep Cmp0 Cmp Cmp2 Txt Map TT0 -/
import Derived.Test.YtpgbckgjlgecpaaGreatRows
import Derived.WalkKit
import Derived.Lib.Hide
import Derived.Deep.QuietTactic
import Derived.BigQuiet
import Derived.Outline
import Derived.WalkSpells
import Derived.WalkLawsBesides
import Derived.WalkSmall
import Derived.Lib.QuietBelow
import Derived.Below
import Derived.Maps.OwnOps
/- zone, plain facts: by conv.py -/
namespace Go.Proofs.YtpgbckgjlgecpaaGreat
set_option linter.unusedSimpArgs false

theorem tmod_neg (t : Int) (h : t.tmod 1440 < 0) : t.tdiv 1440 - 1 = t / 1440 ∧ t.tmod 1440 + 1440 = t % 1440 := by
  rw [Int.tmod_eq_emod] at h ⊢
  rw [Int.tdiv_eq_ediv]
  by_cases c : 0 ≤ t ∨ (1440 : Int) ∣ t
  · rw [if_pos c] at h; have := Int.emod_nonneg t (show (1440 : Int) ≠ 0 by decide); simp at h; omega
  · rw [if_neg c, if_neg c]; simp; 
    have e : (1440 : Int).sign = 1 := by decide
    omega
theorem tmod_pos (t : Int) (h : 0 ≤ t.tmod 1440) : t.tdiv 1440 = t / 1440 ∧ t.tmod 1440 = t % 1440 := by
  rw [Int.tmod_eq_emod] at h ⊢
  rw [Int.tdiv_eq_ediv]
  by_cases c : 0 ≤ t ∨ (1440 : Int) ∣ t
  · rw [if_pos c, if_pos c]; simp
  · rw [if_neg c] at h; have := Int.emod_lt_of_pos t (show (0 : Int) < 1440 by decide); simp at h; omega
theorem tdiv_le (t : Int) : -9223372036854775807 ≤ t → t ≤ 9223372036854775807 → -9223372036854775 ≤ t.tdiv 1440 ∧ t.tdiv 1440 ≤ 9223372036854775 ∧ -1440 ≤ t.tmod 1440 ∧ t.tmod 1440 < 1440 := by
  intro h1 h2
  by_cases c : t.tmod 1440 < 0
  · have := tmod_neg t c; omega
  · have := tmod_pos t (by omega); omega

def lowB (c : Int) : Bool := decide (97 ≤ c ∧ c ≤ 122)
def numB (c : Int) : Bool := decide (48 ≤ c ∧ c ≤ 57)
/-- the byte c may stand at place i of a name -/
def nameAt (i : Nat) (c : Int) : Bool := lowB c || (decide (0 < i) && (numB c || c == 95))
def nameAll : Nat → List UInt8 → Bool
  | _, [] => true
  | i, c :: l => nameAt i (c.toNat : Int) && nameAll (i + 1) l
/-- 'IsName' -/
def nameB (l : List UInt8) : Bool := decide (1 ≤ l.length ∧ l.length ≤ 16) && nameAll 0 l

theorem nameAll_false (l : List UInt8) : ∀ (i k : Nat) (h : k < l.length), nameAt (i + k) (l[k].toNat : Int) = false → nameAll i l = false := by
  induction l with
  | nil => intro i k h; simp at h
  | cons c l ih =>
    intro i k h hf
    cases k with
    | zero => simp at hf; simp [nameAll, hf]
    | succ k =>
      have := ih (i + 1) k (by simpa using h) (by simpa [Nat.add_assoc, Nat.add_comm 1 k] using hf)
      simp [nameAll, this]
theorem nameAll_true (l : List UInt8) : ∀ (i : Nat), (∀ k (h : k < l.length), nameAt (i + k) (l[k].toNat : Int) = true) → nameAll i l = true := by
  induction l with
  | nil => intro i _; rfl
  | cons c l ih =>
    intro i h
    have h0 := h 0 (by simp)
    simp at h0
    have := ih (i + 1) (fun k hk => by have := h (k + 1) (by simpa using hk); simpa [Nat.add_assoc, Nat.add_comm 1 k] using this)
    simp [nameAll, this, h0]
def offB (n : Int) : Bool := decide (-840 ≤ n ∧ n ≤ 840)
def insB (n : Int) : Bool := decide (0 ≤ n ∧ n < 52596000)
def clkB (n : Int) : Bool := decide (0 ≤ n ∧ n < 1440)
def spnB (a b : Int) : Bool := decide (0 ≤ a ∧ a ≤ b ∧ b ≤ 52596000)
def bandB (c a b : Int) : Bool := if a ≤ b then decide (a ≤ c ∧ c < b) else decide (a ≤ c ∨ c < b)

/-- the error of a list of shifts, behind a shift at p -/
def valShifts : Option Int → List (Int × Int) → Int
  | _, [] => 0
  | p, s :: l => if (insB s.1 && offB s.2) = false then 5 else if p.any (fun q => decide (s.1 ≤ q)) = true then 8 else valShifts (some s.1) l
/-- the error of a zone -/
def valZone (name : List UInt8) (off : Int) (l : List (Int × Int)) : Int :=
  if nameB name = false then 1 else if offB off = false then 5 else if 16 < l.length then 10 else valShifts none l
/-- the shift at place k -/
def shAt (l : List (Int × Int)) (k : Nat) : Int × Int := l.getD k (0, 0)
/-- what stands before place k -/
def prevAt (l : List (Int × Int)) (k : Nat) : Option Int := if k = 0 then none else some (shAt l (k - 1)).1
def ValUpto (l : List (Int × Int)) (k : Nat) : Prop := valShifts none l = valShifts (prevAt l k) (l.drop k)
theorem ValUpto.zero (l : List (Int × Int)) : ValUpto l 0 := rfl
theorem drop_at (l : List (Int × Int)) (k : Nat) (h : k < l.length) : l.drop k = shAt l k :: l.drop (k + 1) := by
  rw [shAt, List.drop_eq_getElem_cons h, List.getD_eq_getElem?_getD, List.getElem?_eq_getElem h]; rfl
theorem ValUpto.bad {l : List (Int × Int)} {k : Nat} (H : ValUpto l k) (h : k < l.length) (hk : insB (shAt l k).1 = false ∨ offB (shAt l k).2 = false) : valShifts none l = 5 := by
  rw [H, drop_at l k h, valShifts, if_pos (by rcases hk with hk | hk <;> simp [hk])]
theorem ValUpto.order {l : List (Int × Int)} {k : Nat} (H : ValUpto l k) (h : k < l.length) (h1 : insB (shAt l k).1 = true) (h2 : offB (shAt l k).2 = true)
    (h0 : 0 < k) (hk : (shAt l k).1 ≤ (shAt l (k - 1)).1) : valShifts none l = 8 := by
  rw [H, drop_at l k h, valShifts, if_neg (by simp [h1, h2]), if_pos (by simp [prevAt, show ¬ k = 0 by omega]; simpa using hk)]
theorem ValUpto.step {l : List (Int × Int)} {k : Nat} (H : ValUpto l k) (h : k < l.length) (h1 : insB (shAt l k).1 = true) (h2 : offB (shAt l k).2 = true)
    (hk : k = 0 ∨ (shAt l (k - 1)).1 < (shAt l k).1) : ValUpto l (k + 1) := by
  unfold ValUpto at *
  rw [H, drop_at l k h, valShifts, if_neg (by simp [h1, h2]), if_neg (by
    rcases hk with hk | hk
    · simp [prevAt, hk]
    · by_cases e : k = 0
      · simp [prevAt, e]
      · simp [prevAt, e]; simpa using hk)]
  simp [prevAt]
theorem ValUpto.done {l : List (Int × Int)} (H : ValUpto l l.length) : valShifts none l = 0 := by
  rw [H, List.drop_length, valShifts]

/-- the offset at t: the first shift behind t ends the search -/
def offP : Int → List (Int × Int) → Int → Int
  | o, [], _ => o
  | o, s :: l, t => if t < s.1 then o else offP s.2 l t
/-- the offset at t: the last shift not behind t -/
def offR : Int → List (Int × Int) → Int → Int
  | o, [], _ => o
  | o, s :: l, t => offR (if s.1 ≤ t then s.2 else o) l t
theorem offR_late (l : List (Int × Int)) : ∀ (p o t : Int), valShifts (some p) l = 0 → t < p → offR o l t = o := by
  induction l with
  | nil => intros; rfl
  | cons s l ih =>
    intro p o t h ht
    rw [valShifts] at h
    split at h
    · omega
    · split at h
      · omega
      · rename_i _ h2
        simp at h2
        rw [offR, if_neg (by omega)]
        exact ih s.1 o t h (by omega)
theorem offP_eq_offR (l : List (Int × Int)) : ∀ (p : Option Int) (o t : Int), valShifts p l = 0 → offP o l t = offR o l t := by
  induction l with
  | nil => intros; rfl
  | cons s l ih =>
    intro p o t h
    rw [valShifts] at h
    split at h
    · omega
    · split at h
      · omega
      · rw [offP, offR]
        split
        · rw [if_neg (by omega)]; exact (offR_late l s.1 o t h (by omega)).symm
        · rw [if_pos (by omega)]; exact ih _ _ _ h
theorem offP_drop_done {l : List (Int × Int)} {k : Nat} {n t : Int} (h : ¬ k < l.length) : offP n (l.drop k) t = n := by
  rw [List.drop_of_length_le (by omega)]; rfl
theorem offP_drop_stop {l : List (Int × Int)} {k : Nat} {n t : Int} (h : k < l.length) (ht : t < (shAt l k).1) : offP n (l.drop k) t = n := by
  rw [drop_at l k h, offP, if_pos ht]
theorem offP_drop_step {l : List (Int × Int)} {k : Nat} {n t : Int} (h : k < l.length) (ht : ¬ t < (shAt l k).1) : offP n (l.drop k) t = offP (shAt l k).2 (l.drop (k + 1)) t := by
  rw [drop_at l k h, offP, if_neg ht]
theorem offR_drop_done {l : List (Int × Int)} {k : Nat} {n t : Int} (h : ¬ k < l.length) : offR n (l.drop k) t = n := by
  rw [List.drop_of_length_le (by omega)]; rfl
theorem offR_drop_yes {l : List (Int × Int)} {k : Nat} {n t : Int} (h : k < l.length) (ht : (shAt l k).1 ≤ t) : offR n (l.drop k) t = offR (shAt l k).2 (l.drop (k + 1)) t := by
  rw [drop_at l k h, offR, if_pos ht]
theorem offR_drop_no {l : List (Int × Int)} {k : Nat} {n t : Int} (h : k < l.length) (ht : ¬ (shAt l k).1 ≤ t) : offR n (l.drop k) t = offR n (l.drop (k + 1)) t := by
  rw [drop_at l k h, offR, if_neg ht]

/-- OffsetAt: the offset and the error -/
def offAtZ (nm : List UInt8) (o : Int) (l : List (Int × Int)) (t : Int) : Int × Int :=
  if valZone nm o l ≠ 0 then (0, valZone nm o l) else if insB t = false then (0, 5) else (offP o l t, 0)
def locMinZ (nm : List UInt8) (o : Int) (l : List (Int × Int)) (t : Int) : Int × Int :=
  if (offAtZ nm o l t).2 ≠ 0 then (0, (offAtZ nm o l t).2) else (t + (offAtZ nm o l t).1, 0)
def locTimeZ (nm : List UInt8) (o : Int) (l : List (Int × Int)) (t : Int) : Int × Int × Int :=
  if (locMinZ nm o l t).2 ≠ 0 then (0, 0, (locMinZ nm o l t).2) else ((locMinZ nm o l t).1 / 1440, (locMinZ nm o l t).1 % 1440, 0)

theorem locMinZ_eq (nm : List UInt8) (o : Int) (l : List (Int × Int)) (t : Int) : locMinZ nm o l t = if (offAtZ nm o l t).2 ≠ 0 then (0, (offAtZ nm o l t).2) else (t + (offAtZ nm o l t).1, 0) := rfl
theorem locTimeZ_eq (nm : List UInt8) (o : Int) (l : List (Int × Int)) (t : Int) : locTimeZ nm o l t = if (locMinZ nm o l t).2 ≠ 0 then (0, 0, (locMinZ nm o l t).2) else ((locMinZ nm o l t).1 / 1440, (locMinZ nm o l t).1 % 1440, 0) := rfl
theorem valZone_zero {nm : List UInt8} {o : Int} {l : List (Int × Int)} (h : valZone nm o l = 0) : nameB nm = true ∧ offB o = true ∧ l.length ≤ 16 ∧ valShifts none l = 0 := by
  unfold valZone at h
  split at h
  · omega
  split at h
  · omega
  split at h
  · omega
  · rename_i h1 h2 h3
    exact ⟨by simpa using h1, by simpa using h2, by omega, h⟩
theorem offB_iff {n : Int} (h : offB n = true) : -840 ≤ n ∧ n ≤ 840 := by simpa [offB] using h
theorem insB_iff {n : Int} (h : insB n = true) : 0 ≤ n ∧ n < 52596000 := by simpa [insB] using h
theorem insB_of {n : Int} (h : 0 ≤ n ∧ n < 52596000) : insB n = true := by simpa [insB] using h
theorem offP_bd (l : List (Int × Int)) : ∀ (p : Option Int) (o t : Int), valShifts p l = 0 → offB o = true → offB (offP o l t) = true := by
  induction l with
  | nil => intro p o t _ h; exact h
  | cons s l ih =>
    intro p o t h ho
    rw [valShifts] at h
    split at h
    · omega
    split at h
    · omega
    rename_i h1 h2
    rw [offP]
    split
    · exact ho
    · exact ih _ _ _ h (by simp at h1; exact h1.2)
theorem offAtZ_bd {nm : List UInt8} {o : Int} {l : List (Int × Int)} {t : Int} (h : (offAtZ nm o l t).2 = 0) : 0 ≤ t ∧ t < 52596000 ∧ -840 ≤ (offAtZ nm o l t).1 ∧ (offAtZ nm o l t).1 ≤ 840 := by
  unfold offAtZ at *
  split
  · rename_i h1; rw [if_pos h1] at h; exact absurd h h1
  · rename_i h1
    rw [if_neg h1] at h
    split
    · rename_i h2; rw [if_pos h2] at h; simp at h
    · rename_i h2
      have h1' : valZone nm o l = 0 := by simpa using h1
      obtain ⟨_, h4, _, h6⟩ := valZone_zero h1'
      have := insB_iff (by simpa using h2 : insB t = true)
      have := offB_iff (offP_bd l none o t h6 h4)
      exact ⟨by omega, by omega, by simpa using this⟩
theorem locMinZ_bd {nm : List UInt8} {o : Int} {l : List (Int × Int)} {t : Int} : -840 ≤ (locMinZ nm o l t).1 ∧ (locMinZ nm o l t).1 ≤ 52597000 := by
  unfold locMinZ
  split
  · simp
  · rename_i h
    have := offAtZ_bd (by simpa using h : (offAtZ nm o l t).2 = 0)
    simp; omega
def mx (a b : Int) : Int := if a < b then b else a
def mn (a b : Int) : Int := if b < a then b else a
/-- one segment, or none -/
def seg1 (fr to o x y : Int) : List (Int × Int × Int) := if mx fr x < mn to y then [(mx fr x, mn to y, o)] else []
/-- the segments behind 'fr' -/
def segsP : Int → Int → List (Int × Int) → Int → Int → List (Int × Int × Int)
  | fr, o, [], x, y => seg1 fr 52596000 o x y
  | fr, o, s :: l, x, y => seg1 fr s.1 o x y ++ segsP s.1 s.2 l x y
def segsK (fr o : Int) (l : List (Int × Int)) (k : Nat) (x y : Int) : List (Int × Int × Int) := if k ≤ l.length then segsP fr o (l.drop k) x y else []
theorem segsK_zero (o : Int) (l : List (Int × Int)) (x y : Int) : segsP 0 o l x y = [] ++ segsK 0 o l 0 x y := by simp [segsK]
theorem segsK_lt {fr o : Int} {l : List (Int × Int)} {k : Nat} {x y : Int} (h : k < l.length) : segsK fr o l k x y = seg1 fr (shAt l k).1 o x y ++ segsK (shAt l k).1 (shAt l k).2 l (k + 1) x y := by
  rw [segsK, if_pos (by omega), segsK, if_pos (by omega), drop_at l k h, segsP]
theorem segsK_len {fr o : Int} {l : List (Int × Int)} {x y : Int} : segsK fr o l l.length x y = seg1 fr 52596000 o x y ++ segsK fr o l (l.length + 1) x y := by
  rw [segsK, if_pos (by omega), segsK, if_neg (by omega), List.drop_length, segsP, List.append_nil]
theorem segsK_end {fr o : Int} {l : List (Int × Int)} {k : Nat} {x y : Int} (h : ¬ k ≤ l.length) : segsK fr o l k x y = [] := by rw [segsK, if_neg h]
theorem seg1_yes {fr to o x y : Int} (h : mx fr x < mn to y) : seg1 fr to o x y = [(mx fr x, mn to y, o)] := if_pos h
theorem seg1_no {fr to o x y : Int} (h : ¬ mx fr x < mn to y) : seg1 fr to o x y = [] := if_neg h
theorem seg1_len (fr to o x y : Int) : (seg1 fr to o x y).length ≤ 1 := by unfold seg1; split <;> simp
theorem segsP_len (l : List (Int × Int)) : ∀ fr o x y, (segsP fr o l x y).length ≤ l.length + 1 := by
  induction l with
  | nil => intro fr o x y; simp [segsP, seg1_len]
  | cons s l ih =>
    intro fr o x y
    have h1 := ih s.1 s.2 x y
    have h2 := seg1_len fr s.1 o x y
    simp [segsP]; omega
def segAt (L : List (Int × Int × Int)) (k : Nat) : Int × Int × Int := L.getD k (0, 0, 0)
theorem seg_drop (L : List (Int × Int × Int)) (k : Nat) (h : k < L.length) : L.drop k = segAt L k :: L.drop (k + 1) := by
  rw [segAt, List.drop_eq_getElem_cons h, List.getD_eq_getElem?_getD, List.getElem?_eq_getElem h]; rfl
theorem segAt_mem (L : List (Int × Int × Int)) (k : Nat) (h : k < L.length) : segAt L k ∈ L := by
  rw [segAt, List.getD_eq_getElem?_getD, List.getElem?_eq_getElem h]; exact List.getElem_mem h
def inst1 (g : Int × Int × Int) (loc : Int) : List Int := if g.1 ≤ loc - g.2.2 ∧ loc - g.2.2 < g.2.1 then [loc - g.2.2] else []
def instsP : List (Int × Int × Int) → Int → List Int
  | [], _ => []
  | g :: L, loc => inst1 g loc ++ instsP L loc
theorem instsP_step {L : List (Int × Int × Int)} {k : Nat} {loc : Int} (h : k < L.length) : instsP (L.drop k) loc = inst1 (segAt L k) loc ++ instsP (L.drop (k + 1)) loc := by
  rw [seg_drop L k h, instsP]
theorem instsP_end {L : List (Int × Int × Int)} {k : Nat} {loc : Int} (h : ¬ k < L.length) : instsP (L.drop k) loc = [] := by
  rw [List.drop_of_length_le (by omega), instsP]
theorem inst1_yes {g : Int × Int × Int} {loc : Int} (h1 : g.1 ≤ loc - g.2.2) (h2 : loc - g.2.2 < g.2.1) : inst1 g loc = [loc - g.2.2] := if_pos ⟨h1, h2⟩
theorem inst1_no {g : Int × Int × Int} {loc : Int} (h : ¬ (g.1 ≤ loc - g.2.2 ∧ loc - g.2.2 < g.2.1)) : inst1 g loc = [] := if_neg h
theorem segsP_off (l : List (Int × Int)) : ∀ (p : Option Int) (fr o x y : Int), valShifts p l = 0 → offB o = true → ∀ g ∈ segsP fr o l x y, offB g.2.2 = true := by
  induction l with
  | nil =>
    intro p fr o x y _ ho g hg
    simp only [segsP, seg1] at hg
    split at hg
    · simp at hg; subst hg; exact ho
    · simp at hg
  | cons s l ih =>
    intro p fr o x y h ho g hg
    rw [valShifts] at h
    split at h
    · omega
    split at h
    · omega
    rename_i h1 h2
    simp at h1
    rw [segsP, List.mem_append] at hg
    rcases hg with hg | hg
    · simp only [seg1] at hg
      split at hg
      · simp at hg; subst hg; exact ho
      · simp at hg
    · exact ih _ _ _ _ _ h h1.2 g hg
def dayB (d : Int) : Bool := decide (d < -2 ∨ 36527 < d)
def instZ (nm : List UInt8) (o : Int) (l : List (Int × Int)) (day clock : Int) : List Int × Int :=
  if valZone nm o l ≠ 0 then ([], valZone nm o l) else if clkB clock = false then ([], 5) else if dayB day = true then ([], 0)
  else (instsP (segsP 0 o l 0 52596000) (day * 1440 + clock), 0)
theorem clkB_iff {n : Int} (h : clkB n = true) : 0 ≤ n ∧ n < 1440 := by simpa [clkB] using h

theorem mx_le {a b t : Int} : mx a b ≤ t ↔ a ≤ t ∧ b ≤ t := by unfold mx; split <;> omega
theorem lt_mn {a b t : Int} : t < mn a b ↔ t < a ∧ t < b := by unfold mn; split <;> omega
theorem mem_seg1 {fr to o x y : Int} {g : Int × Int × Int} : g ∈ seg1 fr to o x y ↔ mx fr x < mn to y ∧ g = (mx fr x, mn to y, o) := by
  unfold seg1
  split
  · rename_i h; simp [h]
  · rename_i h
    constructor
    · intro hg; simp at hg
    · rintro ⟨hh, _⟩; exact absurd hh h
theorem in_seg1 {fr to o x y t v : Int} : (∃ g ∈ seg1 fr to o x y, g.1 ≤ t ∧ t < g.2.1 ∧ g.2.2 = v) ↔ fr ≤ t ∧ x ≤ t ∧ t < to ∧ t < y ∧ o = v := by
  constructor
  · rintro ⟨g, hg, h1, h2, h3⟩
    obtain ⟨_, rfl⟩ := mem_seg1.1 hg
    simp only at h1 h2 h3
    rw [mx_le] at h1
    rw [lt_mn] at h2
    exact ⟨h1.1, h1.2, h2.1, h2.2, h3⟩
  · rintro ⟨h1, h2, h3, h4, h5⟩
    have a : mx fr x ≤ t := mx_le.2 ⟨h1, h2⟩
    have b : t < mn to y := lt_mn.2 ⟨h3, h4⟩
    exact ⟨_, mem_seg1.2 ⟨by omega, rfl⟩, a, b, h5⟩
/-- a valid list of shifts behind 'fr' -/
def Okay (fr : Int) (l : List (Int × Int)) : Prop := ∃ p : Option Int, valShifts p l = 0 ∧ (p = some fr ∨ (p = none ∧ fr = 0))
theorem Okay.cons {fr : Int} {s : Int × Int} {l : List (Int × Int)} (h : Okay fr (s :: l)) : 0 ≤ s.1 ∧ s.1 < 52596000 ∧ fr ≤ s.1 ∧ offB s.2 = true ∧ Okay s.1 l := by
  obtain ⟨p, h, hp⟩ := h
  rw [valShifts] at h
  split at h
  · omega
  split at h
  · omega
  rename_i h1 h2
  simp at h1
  have := insB_iff h1.1
  refine ⟨this.1, this.2, ?_, h1.2, ⟨_, h, .inl rfl⟩⟩
  rcases hp with rfl | ⟨rfl, rfl⟩
  · simp at h2; omega
  · omega
theorem segsP_at (l : List (Int × Int)) : ∀ (fr o x y t v : Int), Okay fr l →
    ((∃ g ∈ segsP fr o l x y, g.1 ≤ t ∧ t < g.2.1 ∧ g.2.2 = v) ↔ fr ≤ t ∧ x ≤ t ∧ t < 52596000 ∧ t < y ∧ offP o l t = v) := by
  induction l with
  | nil => intro fr o x y t v _; rw [segsP]; exact in_seg1
  | cons s l ih =>
    intro fr o x y t v h
    obtain ⟨h0, h1, h2, h3, h4⟩ := h.cons
    rw [segsP, offP]
    constructor
    · rintro ⟨g, hg, hh⟩
      rcases List.mem_append.1 hg with hg | hg
      · have := in_seg1.1 ⟨g, hg, hh⟩
        rw [if_pos (by omega)]; omega
      · have := (ih s.1 s.2 x y t v h4).1 ⟨g, hg, hh⟩
        rw [if_neg (by omega)]; omega
    · intro hh
      by_cases c : t < s.1
      · rw [if_pos c] at hh
        obtain ⟨g, hg, hh⟩ := in_seg1.2 (show fr ≤ t ∧ x ≤ t ∧ t < s.1 ∧ t < y ∧ o = v by omega)
        exact ⟨g, List.mem_append.2 (.inl hg), hh⟩
      · rw [if_neg c] at hh
        obtain ⟨g, hg, hh⟩ := (ih s.1 s.2 x y t v h4).2 (by omega)
        exact ⟨g, List.mem_append.2 (.inr hg), hh⟩
theorem mem_instsP {L : List (Int × Int × Int)} {loc t : Int} : t ∈ instsP L loc ↔ ∃ g ∈ L, g.1 ≤ t ∧ t < g.2.1 ∧ g.2.2 = loc - t := by
  induction L with
  | nil => simp [instsP]
  | cons g L ih =>
    rw [instsP, List.mem_append, ih]
    constructor
    · rintro (h | ⟨g', hg, h⟩)
      · unfold inst1 at h
        split at h
        · simp at h; exact ⟨g, by simp, by omega⟩
        · simp at h
      · exact ⟨g', by simp [hg], h⟩
    · rintro ⟨g', hg, h⟩
      rcases List.mem_cons.1 hg with rfl | hg
      · left; unfold inst1; rw [if_pos (by omega)]; simp; omega
      · exact .inr ⟨g', hg, h⟩
theorem segsP_ge (l : List (Int × Int)) : ∀ (fr o x y : Int), Okay fr l → ∀ g ∈ segsP fr o l x y, fr ≤ g.1 := by
  induction l with
  | nil =>
    intro fr o x y _ g hg
    obtain ⟨_, rfl⟩ := mem_seg1.1 (by simpa [segsP] using hg)
    exact (mx_le.1 (Int.le_refl _)).1
  | cons s l ih =>
    intro fr o x y h g hg
    obtain ⟨h0, h1, h2, h3, h4⟩ := h.cons
    rcases List.mem_append.1 (by simpa [segsP] using hg) with hg | hg
    · obtain ⟨_, rfl⟩ := mem_seg1.1 hg
      exact (mx_le.1 (Int.le_refl _)).1
    · have := ih s.1 s.2 x y h4 g hg; omega
theorem inst1_sorted (g : Int × Int × Int) (loc : Int) : (inst1 g loc).Pairwise (· < ·) := by unfold inst1; split <;> simp
theorem instsP_append (L M : List (Int × Int × Int)) (loc : Int) : instsP (L ++ M) loc = instsP L loc ++ instsP M loc := by
  induction L with
  | nil => rfl
  | cons g L ih => simp [instsP, ih]
theorem instsP_seg1 (fr to o x y loc : Int) : (instsP (seg1 fr to o x y) loc).Pairwise (· < ·) := by
  unfold seg1; split
  · simp [instsP, inst1_sorted]
  · simp [instsP]
theorem instsP_sorted (l : List (Int × Int)) : ∀ (fr o x y loc : Int), Okay fr l → (instsP (segsP fr o l x y) loc).Pairwise (· < ·) := by
  induction l with
  | nil => intro fr o x y loc _; rw [segsP]; exact instsP_seg1 ..
  | cons s l ih =>
    intro fr o x y loc h
    obtain ⟨h0, h1, h2, h3, h4⟩ := h.cons
    rw [segsP, instsP_append, List.pairwise_append]
    refine ⟨instsP_seg1 .., ih s.1 s.2 x y loc h4, fun a ha b hb => ?_⟩
    have ha' := in_seg1.1 (mem_instsP.1 ha)
    obtain ⟨g, hg, hb'⟩ := mem_instsP.1 hb
    have := segsP_ge l s.1 s.2 x y h4 g hg
    omega
/-- the instants of the reference: n numbers from t on are tried -/
def instsR (o : Int) (l : List (Int × Int)) (loc : Int) : Nat → Int → List Int
  | 0, _ => []
  | n + 1, t => (if insB t = true ∧ t + offR o l t = loc then [t] else []) ++ instsR o l loc n (t + 1)
theorem mem_instsR {o : Int} {l : List (Int × Int)} {loc : Int} : ∀ (n : Nat) (t u : Int), u ∈ instsR o l loc n t ↔ t ≤ u ∧ u < t + n ∧ insB u = true ∧ u + offR o l u = loc := by
  intro n
  induction n with
  | zero => intro t u; simp [instsR]; omega
  | succ n ih =>
    intro t u
    rw [instsR, List.mem_append, ih]
    constructor
    · rintro (h | h)
      · split at h
        · rename_i hh; simp at h; subst h; exact ⟨by omega, by omega, hh⟩
        · simp at h
      · exact ⟨by omega, by omega, h.2.2⟩
    · rintro ⟨h1, h2, h3⟩
      by_cases e : u = t
      · subst e; left; rw [if_pos h3]; simp
      · right; exact ⟨by omega, by omega, h3⟩
theorem instsR_sorted {o : Int} {l : List (Int × Int)} {loc : Int} : ∀ (n : Nat) (t : Int), (instsR o l loc n t).Pairwise (· < ·) := by
  intro n
  induction n with
  | zero => intro t; simp [instsR]
  | succ n ih =>
    intro t
    rw [instsR, List.pairwise_append]
    refine ⟨by split <;> simp, ih _, fun a ha b hb => ?_⟩
    have := (mem_instsR n _ _).1 hb
    split at ha
    · simp at ha; omega
    · simp at ha
theorem sorted_ext : ∀ (l m : List Int), l.Pairwise (· < ·) → m.Pairwise (· < ·) → (∀ t, t ∈ l ↔ t ∈ m) → l = m := by
  intro l
  induction l with
  | nil =>
    intro m _ _ h
    cases m with
    | nil => rfl
    | cons b m => exact absurd ((h b).2 (by simp)) (by simp)
  | cons a l ih =>
    intro m hl hm h
    cases m with
    | nil => exact absurd ((h a).1 (by simp)) (by simp)
    | cons b m =>
      rw [List.pairwise_cons] at hl hm
      have hab : a = b := by
        rcases List.mem_cons.1 ((h a).1 (by simp)) with h1 | h1
        · exact h1
        · rcases List.mem_cons.1 ((h b).2 (by simp)) with h2 | h2
          · exact h2.symm
          · have := hm.1 a h1; have := hl.1 b h2; omega
      subst hab
      rw [ih m hl.2 hm.2 (fun t => ?_)]
      constructor
      · intro ht
        rcases List.mem_cons.1 ((h t).1 (by simp [ht])) with h1 | h1
        · have := hl.1 t ht; omega
        · exact h1
      · intro ht
        rcases List.mem_cons.1 ((h t).2 (by simp [ht])) with h1 | h1
        · have := hm.1 t ht; omega
        · exact h1
theorem okay_of {nm : List UInt8} {o : Int} {l : List (Int × Int)} (h : valZone nm o l = 0) : Okay 0 l := ⟨none, (valZone_zero h).2.2.2, .inr ⟨rfl, rfl⟩⟩
theorem insts_eq {nm : List UInt8} {o : Int} {l : List (Int × Int)} (h : valZone nm o l = 0) (loc : Int) : instsP (segsP 0 o l 0 52596000) loc = instsR o l loc 1681 (loc - 840) := by
  obtain ⟨_, h4, _, h6⟩ := valZone_zero h
  refine sorted_ext _ _ (instsP_sorted l 0 o 0 52596000 loc (okay_of h)) (instsR_sorted _ _) (fun t => ?_)
  rw [mem_instsP, segsP_at l 0 o 0 52596000 t _ (okay_of h), mem_instsR, ← offP_eq_offR l none o t h6]
  have := offB_iff (offP_bd l none o t h6 h4)
  constructor
  · intro hh; exact ⟨by omega, by omega, insB_of (by omega), by omega⟩
  · intro hh; have := insB_iff hh.2.2.1; omega
def runAt (R : List (Int × Int)) (k : Nat) : Int × Int := R.getD k (0, 0)
/-- a further run; it is joined with the last one where that ends at a -/
def addRun (R : List (Int × Int)) (a b : Int) : List (Int × Int) :=
  if 0 < R.length ∧ (runAt R (R.length - 1)).2 = a then R.set (R.length - 1) ((runAt R (R.length - 1)).1, b) else R ++ [(a, b)]
theorem addRun_join {R : List (Int × Int)} {a b : Int} (h : 0 < R.length) (h' : (runAt R (R.length - 1)).2 = a) : addRun R a b = R.set (R.length - 1) ((runAt R (R.length - 1)).1, b) := if_pos ⟨h, h'⟩
theorem addRun_new {R : List (Int × Int)} {a b : Int} (h : ¬ (0 < R.length ∧ (runAt R (R.length - 1)).2 = a)) : addRun R a b = R ++ [(a, b)] := if_neg h
theorem addRun_len (R : List (Int × Int)) (a b : Int) : (addRun R a b).length ≤ R.length + 1 := by unfold addRun; split <;> simp
/-- the day d of a segment g -/
def dayLo (g : Int × Int × Int) (fr d : Int) : Int := mx (d * 1440 + fr - g.2.2) g.1
def dayHi (g : Int × Int × Int) (fr ln d : Int) : Int := mn (d * 1440 + fr - g.2.2 + ln) g.2.1
def day1 (g : Int × Int × Int) (fr ln d : Int) (R : List (Int × Int)) : List (Int × Int) :=
  if dayLo g fr d < dayHi g fr ln d then addRun R (dayLo g fr d) (dayHi g fr ln d) else R
def dayRuns (g : Int × Int × Int) (fr ln : Int) : Nat → Int → List (Int × Int) → List (Int × Int)
  | 0, _, R => R
  | n + 1, d, R => dayRuns g fr ln n (d + 1) (day1 g fr ln d R)
theorem dayRuns_step {g : Int × Int × Int} {fr ln d : Int} {n : Nat} {R : List (Int × Int)} (h : 0 < n) : dayRuns g fr ln n d R = dayRuns g fr ln (n - 1) (d + 1) (day1 g fr ln d R) := by
  obtain ⟨m, rfl⟩ : ∃ m, n = m + 1 := ⟨n - 1, by omega⟩
  rfl
/-- the first day, less one; how many days -/
def segDay (g : Int × Int × Int) : Int := (g.1 + g.2.2) / 1440 - 1
def segN (g : Int × Int × Int) : Nat := ((g.2.1 - 1 + g.2.2) / 1440 - segDay g + 1).toNat
def segRuns (g : Int × Int × Int) (fr ln : Int) (R : List (Int × Int)) : List (Int × Int) := dayRuns g fr ln (segN g) (segDay g) R
def allRuns (fr ln : Int) : List (Int × Int × Int) → List (Int × Int) → List (Int × Int)
  | [], R => R
  | g :: L, R => allRuns fr ln L (segRuns g fr ln R)
theorem allRuns_step {fr ln : Int} {L : List (Int × Int × Int)} {k : Nat} {R : List (Int × Int)} (h : k < L.length) : allRuns fr ln (L.drop k) R = allRuns fr ln (L.drop (k + 1)) (segRuns (segAt L k) fr ln R) := by
  rw [seg_drop L k h, allRuns]
theorem allRuns_end {fr ln : Int} {L : List (Int × Int × Int)} {k : Nat} {R : List (Int × Int)} (h : ¬ k < L.length) : allRuns fr ln (L.drop k) R = R := by
  rw [List.drop_of_length_le (by omega), allRuns]
/-- a segment's bounds -/
def SegOk (g : Int × Int × Int) : Prop := 0 ≤ g.1 ∧ g.1 < g.2.1 ∧ g.2.1 ≤ 52596000 ∧ -840 ≤ g.2.2 ∧ g.2.2 ≤ 840
theorem seg1_ok {fr to o x y : Int} (h0 : 0 ≤ fr) (h1 : to ≤ 52596000) (ho : offB o = true) : ∀ g ∈ seg1 fr to o x y, SegOk g := by
  intro g hg
  obtain ⟨h, rfl⟩ := mem_seg1.1 hg
  have a := mx_le.1 (Int.le_refl (mx fr x))
  have b : mn to y ≤ to := by unfold mn; split <;> omega
  have := offB_iff ho
  exact ⟨by simp only; omega, h, by simp only; omega, this.1, this.2⟩
theorem segsP_ok (l : List (Int × Int)) : ∀ (fr o x y : Int), Okay fr l → 0 ≤ fr → offB o = true → ∀ g ∈ segsP fr o l x y, SegOk g := by
  induction l with
  | nil => intro fr o x y _ h0 ho g hg; exact seg1_ok h0 (Int.le_refl _) ho g (by simpa [segsP] using hg)
  | cons s l ih =>
    intro fr o x y h h0 ho g hg
    obtain ⟨h1, h2, h3, h4, h5⟩ := h.cons
    rcases List.mem_append.1 (by simpa [segsP] using hg) with hg | hg
    · exact seg1_ok h0 (by omega) ho g hg
    · exact ih s.1 s.2 x y h5 h1 h4 g hg
theorem segDay_bd {g : Int × Int × Int} (h : SegOk g) : -2 ≤ segDay g ∧ segDay g ≤ 36526 ∧ (segN g : Int) = (g.2.1 - 1 + g.2.2) / 1440 - segDay g + 1 ∧ segN g ≤ 40000 ∧ (g.2.1 - 1 + g.2.2) / 1440 ≤ 36527 := by
  obtain ⟨h1, h2, h3, h4, h5⟩ := h
  have a : -2 ≤ segDay g := by unfold segDay; omega
  have b : segDay g ≤ 36526 := by unfold segDay; omega
  have c : segDay g ≤ (g.2.1 - 1 + g.2.2) / 1440 - 1 := by unfold segDay; omega
  have d : (segN g : Int) = (g.2.1 - 1 + g.2.2) / 1440 - segDay g + 1 := by
    unfold segN; rw [Int.toNat_of_nonneg (by omega)]
  exact ⟨a, b, d, by omega, by omega⟩
theorem day1_yes {g : Int × Int × Int} {fr ln d : Int} {R : List (Int × Int)} (h : dayLo g fr d < dayHi g fr ln d) : day1 g fr ln d R = addRun R (dayLo g fr d) (dayHi g fr ln d) := if_pos h
theorem day1_no {g : Int × Int × Int} {fr ln d : Int} {R : List (Int × Int)} (h : ¬ dayLo g fr d < dayHi g fr ln d) : day1 g fr ln d R = R := if_neg h
def bandLen (fr to : Int) : Int := (to - fr + 1440) % 1440
def bandZ (o : Int) (l : List (Int × Int)) (x y fr to : Int) : List (Int × Int) := if bandLen fr to = 0 then [] else allRuns fr (bandLen fr to) (segsP 0 o l x y) []

theorem runAt_last (R : List (Int × Int)) (r : Int × Int) : runAt (R ++ [r]) R.length = r := by simp [runAt]
theorem runAt_set {R : List (Int × Int)} {k : Nat} (r : Int × Int) (h : k < R.length) : runAt (R.set k r) k = r := by simp [runAt, h]
theorem addRun_addRun (R : List (Int × Int)) (a b c : Int) : addRun (addRun R a b) b c = addRun R a c := by
  by_cases h : 0 < R.length ∧ (runAt R (R.length - 1)).2 = a
  · rw [addRun_join h.1 h.2, addRun_join h.1 h.2]
    have hl : R.length - 1 < R.length := by omega
    rw [addRun_join (by simpa using h.1) (by simp only [List.length_set]; rw [runAt_set _ hl])]
    simp only [List.length_set]
    rw [runAt_set _ hl, List.set_set]
  · rw [addRun_new h, addRun_new h]
    have e : (R ++ [(a, b)]).length - 1 = R.length := by simp
    rw [addRun_join (by simp) (by rw [e, runAt_last])]
    rw [e, runAt_last]
    simp
/-- the maximal runs of S among n numbers from x on -/
def runsTo (S : Int → Bool) (x : Int) : Nat → List (Int × Int)
  | 0 => []
  | n + 1 => if S (x + n) = true then addRun (runsTo S x n) (x + n) (x + n + 1) else runsTo S x n
theorem runsTo_skip {S : Int → Bool} {x : Int} (n : Nat) : ∀ m : Nat, (∀ t, x + n ≤ t → t < x + n + m → S t = false) → runsTo S x (n + m) = runsTo S x n := by
  intro m
  induction m with
  | zero => intro _; rfl
  | succ m ih =>
    intro h
    rw [← Nat.add_assoc, runsTo, if_neg (by rw [h _ (by omega) (by omega)]; decide)]
    exact ih (fun t h1 h2 => h t h1 (by omega))
theorem runsTo_fill {S : Int → Bool} {x : Int} (n : Nat) : ∀ m : Nat, (∀ t, x + n ≤ t → t < x + n + (m + 1 : Nat) → S t = true) → runsTo S x (n + (m + 1)) = addRun (runsTo S x n) (x + n) (x + n + (m + 1 : Nat)) := by
  intro m
  induction m with
  | zero => intro h; rw [runsTo, if_pos (h _ (by omega) (by omega))]; simp
  | succ m ih =>
    intro h
    rw [← Nat.add_assoc, runsTo, if_pos (h _ (by omega) (by omega)), ih (fun t h1 h2 => h t h1 (by omega))]
    rw [show x + ((n + (m + 1) : Nat) : Int) = x + n + ((m + 1 : Nat) : Int) by omega, addRun_addRun]
    congr 1; omega
/-- the runs up to the number c -/
def runsUp (S : Int → Bool) (x c : Int) : List (Int × Int) := runsTo S x (c - x).toNat
theorem runsUp_skip {S : Int → Bool} {x c d : Int} (hc : x ≤ c) (hd : c ≤ d) (h : ∀ t, c ≤ t → t < d → S t = false) : runsUp S x d = runsUp S x c := by
  unfold runsUp
  obtain ⟨n, hn⟩ : ∃ n : Nat, (n : Int) = c - x := ⟨(c - x).toNat, by omega⟩
  obtain ⟨m, hm⟩ : ∃ m : Nat, (m : Int) = d - c := ⟨(d - c).toNat, by omega⟩
  rw [show (d - x).toNat = n + m by omega, show (c - x).toNat = n by omega]
  exact runsTo_skip n m (fun t h1 h2 => h t (by omega) (by omega))
theorem runsUp_fill {S : Int → Bool} {x c d : Int} (hc : x ≤ c) (hd : c < d) (h : ∀ t, c ≤ t → t < d → S t = true) : runsUp S x d = addRun (runsUp S x c) c d := by
  unfold runsUp
  obtain ⟨n, hn⟩ : ∃ n : Nat, (n : Int) = c - x := ⟨(c - x).toNat, by omega⟩
  obtain ⟨m, hm⟩ : ∃ m : Nat, (m : Int) + 1 = d - c := ⟨(d - c - 1).toNat, by omega⟩
  rw [show (d - x).toNat = n + (m + 1) by omega, show (c - x).toNat = n by omega]
  rw [runsTo_fill n m (fun t h1 h2 => h t (by omega) (by omega))]
  congr 1 <;> omega
/-- a clock time is in the band: by the distance from its beginning -/
theorem bandB_mod {c fr to : Int} (hc : 0 ≤ c ∧ c < 1440) (hf : 0 ≤ fr ∧ fr < 1440) (ht : 0 ≤ to ∧ to < 1440) : bandB c fr to = decide ((c - fr) % 1440 < bandLen fr to) := by
  unfold bandB bandLen
  split
  · congr 1; apply propext; omega
  · congr 1; apply propext; omega
/-- what stands behind the day before d, inside the segment -/
def frontier (g : Int × Int × Int) (fr ln d : Int) : Int := mn (mx ((d - 1) * 1440 + fr - g.2.2 + ln) g.1) g.2.1
theorem mx_def (a b : Int) : (mx a b = a ∧ b ≤ a) ∨ (mx a b = b ∧ a < b) := by unfold mx; split <;> omega
theorem mn_def (a b : Int) : (mn a b = a ∧ a ≤ b) ∨ (mn a b = b ∧ b < a) := by unfold mn; split <;> omega
/-- one day: the frontier moves on -/
theorem day1_runs {S : Int → Bool} {x fr ln d : Int} {g : Int × Int × Int} (hx : x ≤ g.1) (hg : g.1 < g.2.1) (h1 : 0 < ln) (h2 : ln < 1440)
    (hS : ∀ t, g.1 ≤ t → t < g.2.1 → S t = decide ((t + g.2.2 - fr) % 1440 < ln)) :
    day1 g fr ln d (runsUp S x (frontier g fr ln d)) = runsUp S x (frontier g fr ln (d + 1)) := by
  have hbit : ∀ t, g.1 ≤ t → t < g.2.1 → (d - 1) * 1440 + fr - g.2.2 + ln ≤ t → t < d * 1440 + fr - g.2.2 + ln → S t = decide (d * 1440 + fr - g.2.2 ≤ t) := by
    intro t a b c e
    rw [hS t a b]
    congr 1; apply propext
    have q : (t + g.2.2 - fr) % 1440 = (t + g.2.2 - fr - d * 1440) % 1440 := by omega
    rw [q]
    omega
  unfold day1
  have f1 : frontier g fr ln d = mn (mx ((d - 1) * 1440 + fr - g.2.2 + ln) g.1) g.2.1 := rfl
  have f2 : frontier g fr ln (d + 1) = mn (mx (d * 1440 + fr - g.2.2 + ln) g.1) g.2.1 := by unfold frontier; congr 2; omega
  have a1 := mx_def ((d - 1) * 1440 + fr - g.2.2 + ln) g.1
  have a2 := mn_def (mx ((d - 1) * 1440 + fr - g.2.2 + ln) g.1) g.2.1
  have a3 := mx_def (d * 1440 + fr - g.2.2 + ln) g.1
  have a4 := mn_def (mx (d * 1440 + fr - g.2.2 + ln) g.1) g.2.1
  have a5 := mx_def (d * 1440 + fr - g.2.2) g.1
  have a6 := mn_def (d * 1440 + fr - g.2.2 + ln) g.2.1
  rw [← f1] at a2
  rw [← f2] at a4
  have e5 : dayLo g fr d = mx (d * 1440 + fr - g.2.2) g.1 := rfl
  have e6 : dayHi g fr ln d = mn (d * 1440 + fr - g.2.2 + ln) g.2.1 := rfl
  rw [← e5] at a5
  rw [← e6] at a6
  generalize frontier g fr ln d = F at *
  generalize frontier g fr ln (d + 1) = F' at *
  generalize dayLo g fr d = A at *
  generalize dayHi g fr ln d = B at *
  split
  · rename_i hAB
    have k1 : runsUp S x A = runsUp S x F := by
      apply runsUp_skip (by omega) (by omega)
      intro t u v
      rw [hbit t (by omega) (by omega) (by omega) (by omega)]
      simp; omega
    have k2 : runsUp S x B = addRun (runsUp S x A) A B := by
      apply runsUp_fill (by omega) hAB
      intro t u v
      rw [hbit t (by omega) (by omega) (by omega) (by omega)]
      simp; omega
    rw [show F' = B by omega, k2, k1]
  · rename_i hAB
    symm
    apply runsUp_skip (by omega) (by omega)
    intro t u v
    rw [hbit t (by omega) (by omega) (by omega) (by omega)]
    simp; omega
theorem dayRuns_runs {S : Int → Bool} {x fr ln : Int} {g : Int × Int × Int} (hx : x ≤ g.1) (hg : g.1 < g.2.1) (h1 : 0 < ln) (h2 : ln < 1440)
    (hS : ∀ t, g.1 ≤ t → t < g.2.1 → S t = decide ((t + g.2.2 - fr) % 1440 < ln)) : ∀ (n : Nat) (d : Int),
    dayRuns g fr ln n d (runsUp S x (frontier g fr ln d)) = runsUp S x (frontier g fr ln (d + n)) := by
  intro n
  induction n with
  | zero => intro d; simp [dayRuns]
  | succ n ih =>
    intro d
    rw [dayRuns, day1_runs hx hg h1 h2 hS, ih]
    congr 2; omega
theorem segRuns_runs {S : Int → Bool} {x fr ln : Int} {g : Int × Int × Int} (hx : x ≤ g.1) (hg : SegOk g) (h1 : 0 < ln) (h2 : ln < 1440) (hf : 0 ≤ fr ∧ fr < 1440)
    (hS : ∀ t, g.1 ≤ t → t < g.2.1 → S t = decide ((t + g.2.2 - fr) % 1440 < ln)) : segRuns g fr ln (runsUp S x g.1) = runsUp S x g.2.1 := by
  obtain ⟨s1, s2, s3, s4, s5⟩ := hg
  obtain ⟨_, _, e3, _, _⟩ := segDay_bd ⟨s1, s2, s3, s4, s5⟩
  have hd : segDay g = (g.1 + g.2.2) / 1440 - 1 := rfl
  have hfr : frontier g fr ln (segDay g) = g.1 := by
    unfold frontier
    have a1 := mx_def ((segDay g - 1) * 1440 + fr - g.2.2 + ln) g.1
    have a2 := mn_def (mx ((segDay g - 1) * 1440 + fr - g.2.2 + ln) g.1) g.2.1
    omega
  have key := dayRuns_runs (d := segDay g) hx s2 h1 h2 hS (n := segN g)
  unfold segRuns
  rw [hfr] at key
  rw [key, e3]
  generalize hL : (g.2.1 - 1 + g.2.2) / 1440 = L
  rw [show segDay g + (L - segDay g + 1) = L + 1 by omega]
  symm
  have a1 := mx_def ((L + 1 - 1) * 1440 + fr - g.2.2 + ln) g.1
  have a2 := mn_def (mx ((L + 1 - 1) * 1440 + fr - g.2.2 + ln) g.1) g.2.1
  have f : frontier g fr ln (L + 1) = mn (mx ((L + 1 - 1) * 1440 + fr - g.2.2 + ln) g.1) g.2.1 := rfl
  rw [← f] at a2
  generalize frontier g fr ln (L + 1) = F at *
  apply runsUp_skip (by omega) (by omega)
  intro t u v
  rw [hS t (by omega) v]
  simp
  have q : (t + g.2.2 - fr) % 1440 = (t + g.2.2 - fr - (L + 1) * 1440) % 1440 := by omega
  rw [q]
  omega
/-- the segments follow each other from c to e -/
def Part : List (Int × Int × Int) → Int → Int → Prop
  | [], c, e => c = e
  | g :: L, c, e => g.1 = c ∧ Part L g.2.1 e
theorem segsP_part (l : List (Int × Int)) : ∀ (fr o x y : Int), Okay fr l → y ≤ 52596000 → fr ≤ 52596000 → Part (segsP fr o l x y) (mx fr x) (mx (mx fr x) y) := by
  induction l with
  | nil =>
    intro fr o x y _ hy hfr
    have a1 := mx_def fr x
    have a2 := mn_def 52596000 y
    have a3 := mx_def (mx fr x) y
    rw [segsP, seg1]
    split
    · exact ⟨rfl, by show mn 52596000 y = _; omega⟩
    · show mx fr x = _; omega
  | cons s l ih =>
    intro fr o x y h hy hfr
    obtain ⟨h1, h2, h3, h4, h5⟩ := h.cons
    have := ih s.1 s.2 x y h5 hy (by omega)
    have a1 := mx_def fr x
    have a2 := mn_def s.1 y
    have a3 := mx_def (mx fr x) y
    have a4 := mx_def s.1 x
    have a5 := mx_def (mx s.1 x) y
    rw [segsP, seg1]
    split
    · by_cases c : s.1 ≤ y
      · refine ⟨rfl, ?_⟩
        show Part _ (mn s.1 y) _
        rw [show mn s.1 y = mx s.1 x by omega, show mx (mx fr x) y = mx (mx s.1 x) y by omega]
        exact this
      · have e : segsP s.1 s.2 l x y = [] := by
          apply List.eq_nil_iff_forall_not_mem.2
          intro g hg
          have g1 := segsP_ok' l s.1 s.2 x y h5 g hg
          omega
        rw [e]
        exact ⟨rfl, by show mn s.1 y = _; omega⟩
    · rw [List.nil_append]
      by_cases c : y ≤ mx fr x
      · have e : segsP s.1 s.2 l x y = [] := by
          apply List.eq_nil_iff_forall_not_mem.2
          intro g hg
          have g1 := segsP_ok' l s.1 s.2 x y h5 g hg
          omega
        rw [e]; show mx fr x = _; omega
      · rw [show mx fr x = mx s.1 x by omega]; exact this
where
  segsP_ok' (l : List (Int × Int)) : ∀ (fr o x y : Int), Okay fr l → ∀ g ∈ segsP fr o l x y, fr ≤ g.1 ∧ x ≤ g.1 ∧ g.1 < g.2.1 ∧ g.2.1 ≤ y := by
    induction l with
    | nil =>
      intro fr o x y _ g hg
      obtain ⟨h, rfl⟩ := mem_seg1.1 (by simpa [segsP] using hg)
      have a1 := mx_def fr x
      have a2 := mn_def 52596000 y
      simp only; omega
    | cons s l ih =>
      intro fr o x y h g hg
      obtain ⟨h1, h2, h3, h4, h5⟩ := h.cons
      rcases List.mem_append.1 (by simpa [segsP] using hg) with hg | hg
      · obtain ⟨h, rfl⟩ := mem_seg1.1 hg
        have a1 := mx_def fr x
        have a2 := mn_def s.1 y
        simp only; omega
      · have := ih s.1 s.2 x y h5 g hg; omega
theorem allRuns_runs {S : Int → Bool} {x fr ln : Int} (h1 : 0 < ln) (h2 : ln < 1440) (hf : 0 ≤ fr ∧ fr < 1440) : ∀ (L : List (Int × Int × Int)) (c e : Int), x ≤ c → Part L c e → (∀ g ∈ L, SegOk g) →
    (∀ g ∈ L, ∀ t, g.1 ≤ t → t < g.2.1 → S t = decide ((t + g.2.2 - fr) % 1440 < ln)) → allRuns fr ln L (runsUp S x c) = runsUp S x e := by
  intro L
  induction L with
  | nil => intro c e _ hp _ _; rw [allRuns]; cases hp; rfl
  | cons g L ih =>
    intro c e hc hp hok hS
    obtain ⟨rfl, hp⟩ := hp
    have hg := hok g (by simp)
    rw [allRuns, segRuns_runs hc hg h1 h2 hf (hS g (by simp))]
    exact ih _ _ (by have := hg.2.1; omega) hp (fun g' h' => hok g' (by simp [h'])) (fun g' h' => hS g' (by simp [h']))
/-- is the local clock time at t in the band? -/
def inB (o : Int) (l : List (Int × Int)) (fr to t : Int) : Bool := bandB ((t + offP o l t) % 1440) fr to
theorem bandZ_runs {nm : List UInt8} {o : Int} {l : List (Int × Int)} {x y fr to : Int} (hv : valZone nm o l = 0) (hx : 0 ≤ x) (hxy : x ≤ y) (hy : y ≤ 52596000) (hf : 0 ≤ fr ∧ fr < 1440) (ht : 0 ≤ to ∧ to < 1440) :
    bandZ o l x y fr to = runsUp (inB o l fr to) x y := by
  have hmod : ∀ t, inB o l fr to t = decide ((t + offP o l t - fr) % 1440 < bandLen fr to) := by
    intro t
    unfold inB
    rw [bandB_mod (by omega) hf ht]
    congr 1; apply propext
    rw [show ((t + offP o l t) % 1440 - fr) % 1440 = (t + offP o l t - fr) % 1440 by omega]
  unfold bandZ
  split
  · rename_i h0
    symm
    have : runsUp (inB o l fr to) x y = runsUp (inB o l fr to) x x := runsUp_skip (Int.le_refl _) hxy (fun t _ _ => by rw [hmod, h0]; simp; omega)
    rw [this]; simp [runsUp, runsTo]
  · rename_i h0
    have hp := segsP_part l 0 o x y (okay_of hv) hy (by decide)
    have a1 := mx_def 0 x
    have a2 := mx_def (mx 0 x) y
    rw [show mx 0 x = x by omega, show mx x y = y by have := mx_def x y; omega] at hp
    have hb1 : 0 < bandLen fr to := by unfold bandLen at *; omega
    have hb2 : bandLen fr to < 1440 := by unfold bandLen; omega
    have := allRuns_runs (S := inB o l fr to) (x := x) hb1 hb2 hf _ x y (Int.le_refl _) hp (segsP_ok l 0 o x y (okay_of hv) (Int.le_refl _) (valZone_zero hv).2.1)
      (fun g hg t h1 h2 => by
        have := (segsP_at l 0 o x y t g.2.2 (okay_of hv)).1 ⟨g, hg, h1, h2, rfl⟩
        rw [hmod, this.2.2.2.2])
    rw [← this]
    simp [runsUp, runsTo]

/-- how many numbers of S there are among n from x on -/
def cntTo (S : Int → Bool) (x : Int) : Nat → Int
  | 0 => 0
  | n + 1 => cntTo S x n + if S (x + n) = true then 1 else 0
/-- the lengths of the first k runs, added up -/
def sumTo (R : List (Int × Int)) : Nat → Int
  | 0 => 0
  | k + 1 => sumTo R k + ((runAt R k).2 - (runAt R k).1)
/-- how many of the first k runs are at least ln long -/
def longTo (R : List (Int × Int)) (ln : Int) : Nat → Int
  | 0 => 0
  | k + 1 => longTo R ln k + if ln ≤ (runAt R k).2 - (runAt R k).1 then 1 else 0
theorem runAt_append {R M : List (Int × Int)} {k : Nat} (h : k < R.length) : runAt (R ++ M) k = runAt R k := by
  simp only [runAt, List.getD_eq_getElem?_getD]; rw [List.getElem?_append_left h]
theorem runAt_set_ne {R : List (Int × Int)} {k j : Nat} (r : Int × Int) (h : j ≠ k) : runAt (R.set j r) k = runAt R k := by
  simp only [runAt, List.getD_eq_getElem?_getD]; rw [List.getElem?_set_ne h]
theorem sumTo_congr {R M : List (Int × Int)} : ∀ k : Nat, (∀ j, j < k → runAt R j = runAt M j) → sumTo R k = sumTo M k := by
  intro k
  induction k with
  | zero => intro _; rfl
  | succ k ih => intro h; rw [sumTo, sumTo, ih (fun j hj => h j (by omega)), h k (by omega)]
theorem longTo_congr {R M : List (Int × Int)} {ln : Int} : ∀ k : Nat, (∀ j, j < k → runAt R j = runAt M j) → longTo R ln k = longTo M ln k := by
  intro k
  induction k with
  | zero => intro _; rfl
  | succ k ih => intro h; rw [longTo, longTo, ih (fun j hj => h j (by omega)), h k (by omega)]
theorem addRun_sum (R : List (Int × Int)) (a b : Int) : sumTo (addRun R a b) (addRun R a b).length = sumTo R R.length + (b - a) := by
  by_cases h : 0 < R.length ∧ (runAt R (R.length - 1)).2 = a
  · rw [addRun_join h.1 h.2, List.length_set]
    obtain ⟨m, hm⟩ : ∃ m, R.length = m + 1 := ⟨R.length - 1, by omega⟩
    have h2 := h.2
    rw [hm] at h2 ⊢
    simp only [Nat.add_sub_cancel] at h2 ⊢
    rw [sumTo, sumTo, runAt_set _ (by omega), sumTo_congr m (fun j hj => runAt_set_ne _ (by omega))]
    simp only; omega
  · rw [addRun_new h, List.length_append, List.length_singleton, sumTo, runAt_last, sumTo_congr R.length (fun j hj => runAt_append hj)]
/-- runs lie inside, in order -/
theorem runsTo_in (S : Int → Bool) (x : Int) : ∀ (n k : Nat), k < (runsTo S x n).length → x ≤ (runAt (runsTo S x n) k).1 ∧ (runAt (runsTo S x n) k).1 < (runAt (runsTo S x n) k).2 ∧ (runAt (runsTo S x n) k).2 ≤ x + n := by
  intro n
  induction n with
  | zero => intro k h; simp [runsTo] at h
  | succ n ih =>
    intro k h
    rw [runsTo] at h ⊢
    split
    · rename_i hs
      rw [if_pos hs] at h
      generalize runsTo S x n = R at *
      by_cases hj : 0 < R.length ∧ (runAt R (R.length - 1)).2 = x + n
      · rw [addRun_join hj.1 hj.2] at h ⊢
        rw [List.length_set] at h
        by_cases e : k = R.length - 1
        · subst e
          rw [runAt_set _ h]
          have := ih _ h
          simp only; omega
        · rw [runAt_set_ne _ (Ne.symm e)]
          have := ih k h; omega
      · rw [addRun_new hj] at h ⊢
        by_cases e : k = R.length
        · subst e; rw [runAt_last]; simp only; omega
        · rw [runAt_append (by simp at h; omega)]
          have := ih k (by simp at h; omega); omega
    · rename_i hs
      rw [if_neg hs] at h
      have := ih k h; omega
theorem runsTo_sum (S : Int → Bool) (x : Int) : ∀ n : Nat, sumTo (runsTo S x n) (runsTo S x n).length = cntTo S x n := by
  intro n
  induction n with
  | zero => rfl
  | succ n ih =>
    rw [runsTo, cntTo]
    split
    · rw [addRun_sum, ih]; omega
    · rw [ih]; omega
theorem cntTo_bd (S : Int → Bool) (x : Int) : ∀ n : Nat, 0 ≤ cntTo S x n ∧ cntTo S x n ≤ n := by
  intro n
  induction n with
  | zero => simp [cntTo]
  | succ n ih => rw [cntTo]; split <;> omega
theorem sumTo_mono {R : List (Int × Int)} (h : ∀ k, k < R.length → (runAt R k).1 < (runAt R k).2) : ∀ j k : Nat, j ≤ k → k ≤ R.length → sumTo R j ≤ sumTo R k := by
  intro j k
  induction k with
  | zero => intro h1 _; rw [Nat.le_zero.1 h1]; exact Int.le_refl _
  | succ k ih =>
    intro h1 h2
    by_cases e : j = k + 1
    · subst e; exact Int.le_refl _
    · have := ih (by omega) (by omega)
      have := h k (by omega)
      rw [sumTo]; omega
/-- the reference's count of nights: complete runs, the length of the run that ends here -/
def nightTo (S : Int → Bool) (x ln : Int) : Nat → Int × Int
  | 0 => (0, 0)
  | n + 1 => if S (x + n) = true then ((nightTo S x ln n).1, (nightTo S x ln n).2 + 1)
    else ((nightTo S x ln n).1 + if ln ≤ (nightTo S x ln n).2 ∧ 0 < (nightTo S x ln n).2 then 1 else 0, 0)
/-- the last number: it closes the run -/
def nightEnd (S : Int → Bool) (x ln : Int) (n : Nat) : Int := (nightTo S x ln n).1 + if ln ≤ (nightTo S x ln n).2 ∧ 0 < (nightTo S x ln n).2 then 1 else 0
/-- the open run of R at e: its length, or 0 -/
def openLen (R : List (Int × Int)) (e : Int) : Int := if 0 < R.length ∧ (runAt R (R.length - 1)).2 = e then e - (runAt R (R.length - 1)).1 else 0
def openCnt (R : List (Int × Int)) (e : Int) : Nat := if 0 < R.length ∧ (runAt R (R.length - 1)).2 = e then R.length - 1 else R.length
theorem nightTo_runs (S : Int → Bool) (x ln : Int) : ∀ n : Nat, nightTo S x ln n = (longTo (runsTo S x n) ln (openCnt (runsTo S x n) (x + n)), openLen (runsTo S x n) (x + n)) := by
  intro n
  induction n with
  | zero => simp [nightTo, runsTo, openCnt, openLen, longTo]
  | succ n ih =>
    have hin := runsTo_in S x n
    rw [nightTo, runsTo, ih]
    generalize runsTo S x n = R at *
    rw [show x + ((n + 1 : Nat) : Int) = x + n + 1 by omega]
    split
    · by_cases hj : 0 < R.length ∧ (runAt R (R.length - 1)).2 = x + n
      · have hl : R.length - 1 < R.length := by omega
        have c1 : openCnt R (x + n) = R.length - 1 := if_pos hj
        have c2 : openLen R (x + n) = x + n - (runAt R (R.length - 1)).1 := if_pos hj
        rw [addRun_join hj.1 hj.2, c1, c2]
        have d : 0 < (R.set (R.length - 1) ((runAt R (R.length - 1)).1, x + n + 1)).length ∧ (runAt (R.set (R.length - 1) ((runAt R (R.length - 1)).1, x + n + 1)) ((R.set (R.length - 1) ((runAt R (R.length - 1)).1, x + n + 1)).length - 1)).2 = x + n + 1 := by
          rw [List.length_set, runAt_set _ hl]; exact ⟨hj.1, rfl⟩
        rw [openCnt, if_pos d, openLen, if_pos d, List.length_set, runAt_set _ hl]
        refine Prod.ext ?_ ?_
        · exact longTo_congr _ (fun j hj => (runAt_set_ne _ (by omega)).symm)
        · simp only; omega
      · have c1 : openCnt R (x + n) = R.length := if_neg hj
        have c2 : openLen R (x + n) = 0 := if_neg hj
        rw [addRun_new hj, c1, c2]
        have e : (R ++ [(x + (n : Int), x + n + 1)]).length - 1 = R.length := by simp
        have d : 0 < (R ++ [(x + (n : Int), x + n + 1)]).length ∧ (runAt (R ++ [(x + (n : Int), x + n + 1)]) ((R ++ [(x + (n : Int), x + n + 1)]).length - 1)).2 = x + n + 1 := by
          rw [e, runAt_last]; exact ⟨by simp, rfl⟩
        rw [openCnt, if_pos d, openLen, if_pos d, e, runAt_last]
        refine Prod.ext ?_ ?_
        · exact longTo_congr _ (fun j hj => (runAt_append hj).symm)
        · simp only; omega
    · have d : ¬ (0 < R.length ∧ (runAt R (R.length - 1)).2 = x + n + 1) := by
        rintro ⟨h1, h2⟩
        have := hin (R.length - 1) (by omega)
        omega
      have c1 : openCnt R (x + n + 1) = R.length := if_neg d
      have c2 : openLen R (x + n + 1) = 0 := if_neg d
      rw [c1, c2]
      refine Prod.ext ?_ rfl
      simp only
      by_cases hj : 0 < R.length ∧ (runAt R (R.length - 1)).2 = x + n
      · obtain ⟨m, hm⟩ : ∃ m, R.length = m + 1 := ⟨R.length - 1, by omega⟩
        have := hin (R.length - 1) (by omega)
        have h2 := hj.2
        rw [openCnt, if_pos hj, openLen, if_pos hj]
        rw [hm] at this h2 ⊢
        simp only [Nat.add_sub_cancel] at this h2 ⊢
        rw [longTo, h2]
        congr 1
        by_cases c : ln ≤ x + n - (runAt R m).1
        · rw [if_pos c, if_pos ⟨c, by omega⟩]
        · rw [if_neg c, if_neg (fun h => c h.1)]
      · rw [openCnt, if_neg hj, openLen, if_neg hj, if_neg (by omega)]; omega
theorem nightEnd_runs (S : Int → Bool) (x ln : Int) (n : Nat) : nightEnd S x ln n = longTo (runsTo S x n) ln (runsTo S x n).length := by
  have hin := runsTo_in S x n
  unfold nightEnd
  rw [nightTo_runs]
  generalize runsTo S x n = R at *
  simp only
  by_cases hj : 0 < R.length ∧ (runAt R (R.length - 1)).2 = x + n
  · obtain ⟨m, hm⟩ : ∃ m, R.length = m + 1 := ⟨R.length - 1, by omega⟩
    have := hin (R.length - 1) (by omega)
    have h2 := hj.2
    rw [openCnt, if_pos hj, openLen, if_pos hj]
    rw [hm] at this h2 ⊢
    simp only [Nat.add_sub_cancel] at this h2 ⊢
    rw [longTo, h2]
    congr 1
    by_cases c : ln ≤ x + n - (runAt R m).1
    · rw [if_pos c, if_pos ⟨c, by omega⟩]
    · rw [if_neg c, if_neg (fun h => c h.1)]
  · rw [openCnt, if_neg hj, openLen, if_neg hj, if_neg (by omega)]; omega
theorem longTo_bd (R : List (Int × Int)) (ln : Int) : ∀ k : Nat, 0 ≤ longTo R ln k ∧ longTo R ln k ≤ k := by
  intro k
  induction k with
  | zero => simp [longTo]
  | succ k ih => rw [longTo]; split <;> omega
theorem nightTo_bd (S : Int → Bool) (x ln : Int) : ∀ n : Nat, 0 ≤ (nightTo S x ln n).1 ∧ (nightTo S x ln n).1 ≤ n ∧ 0 ≤ (nightTo S x ln n).2 ∧ (nightTo S x ln n).2 ≤ n := by
  intro n
  induction n with
  | zero => simp [nightTo]
  | succ n ih =>
    rw [nightTo]
    split
    · simp only; omega
    · simp only; split <;> omega

def daysZ (nm : List UInt8) (o : Int) (l : List (Int × Int)) (x y : Int) : Int × Int × Int :=
  if valZone nm o l ≠ 0 then (0, 0, valZone nm o l) else if spnB x y = false then (0, 0, 5) else if x = y then (0, 0, 8)
  else ((x + offP o l x) / 1440, (y - 1 + offP o l (y - 1)) / 1440, 0)
theorem spnB_iff {x y : Int} (h : spnB x y = true) : 0 ≤ x ∧ x ≤ y ∧ y ≤ 52596000 := by simpa [spnB] using h
theorem off_bd {nm : List UInt8} {o : Int} {l : List (Int × Int)} (h : valZone nm o l = 0) (t : Int) : -840 ≤ offP o l t ∧ offP o l t ≤ 840 := by
  obtain ⟨_, h4, _, h6⟩ := valZone_zero h
  exact offB_iff (offP_bd l none o t h6 h4)
theorem locTimeZ_ok {nm : List UInt8} {o : Int} {l : List (Int × Int)} {t : Int} (h : valZone nm o l = 0) (ht : 0 ≤ t ∧ t < 52596000) :
    locTimeZ nm o l t = ((t + offP o l t) / 1440, (t + offP o l t) % 1440, 0) := by
  have e1 : offAtZ nm o l t = (offP o l t, 0) := by simp [offAtZ, h, insB_of ht]
  have e2 : locMinZ nm o l t = (t + offP o l t, 0) := by simp [locMinZ, e1]
  simp [locTimeZ, e2]

end Go.Proofs.YtpgbckgjlgecpaaGreat
/- zone: by conv.py from the texts of the zone seat -/
namespace Go.Proofs.YtpgbckgjlgecpaaGreat
open Go.RowKit Go.Sort
set_option linter.unusedSimpArgs false
set_option linter.unusedVariables false
set_option maxRecDepth 100000


theorem ret_bool {a b : Bool} (h : a = true ↔ b = true) : Ending.returned (.bool a) = .returned (.bool b) := by rw [Bool.eq_iff_iff.2 h]
set_option maxHeartbeats 400000 in
theorem offset_any (n : Int) (w : World) :
    Calls Tryz.prog 177 #[.int .i64 n] w fun e w' => e = .returned (.bool (offB n)) ∧ w = w' := by
  go_enter Tryz.func177, Tryz.ntmps177
  go_wp2
  all_goals (go_ret; exact ⟨by simp [offB]; omega, rfl⟩)
set_option maxHeartbeats 400000 in
theorem instant_any (n : Int) (w : World) :
    Calls Tryz.prog 178 #[.int .i64 n] w fun e w' => e = .returned (.bool (insB n)) ∧ w = w' := by
  go_enter Tryz.func178, Tryz.ntmps178
  go_wp2
  all_goals (go_ret; exact ⟨by simp [insB]; omega, rfl⟩)
set_option maxHeartbeats 400000 in
theorem offsetR_any (n : Int) (w : World) :
    Calls Tryz.prog 101 #[.int .i64 n] w fun e w' => e = .returned (.bool (offB n)) ∧ w = w' := by
  go_enter Tryz.func101, Tryz.ntmps101
  go_wp2
  all_goals (go_ret; exact ⟨by simp [offB]; omega, rfl⟩)
set_option maxHeartbeats 400000 in
theorem instantR_any (n : Int) (w : World) :
    Calls Tryz.prog 102 #[.int .i64 n] w fun e w' => e = .returned (.bool (insB n)) ∧ w = w' := by
  go_enter Tryz.func102, Tryz.ntmps102
  go_wp2
  all_goals (go_ret; exact ⟨by simp [insB]; omega, rfl⟩)
set_option maxHeartbeats 400000 in
theorem clock_any (n : Int) (w : World) :
    Calls Tryz.prog 215 #[.int .i64 n] w fun e w' => e = .returned (.bool (clkB n)) ∧ w = w' := by
  go_enter Tryz.func215, Tryz.ntmps215
  go_wp2
  all_goals (go_ret; exact ⟨by simp [clkB]; omega, rfl⟩)
set_option maxHeartbeats 400000 in
theorem lower_any (n : Int) (w : World) :
    Calls Tryz.prog 142 #[.int .u8 n] w fun e w' => e = .returned (.bool (lowB n)) ∧ w = w' := by
  go_enter Tryz.func142, Tryz.ntmps142
  go_wp2
  all_goals (go_ret; exact ⟨by simp [lowB]; omega, rfl⟩)
set_option maxHeartbeats 400000 in
theorem number_any (n : Int) (w : World) :
    Calls Tryz.prog 143 #[.int .u8 n] w fun e w' => e = .returned (.bool (numB n)) ∧ w = w' := by
  go_enter Tryz.func143, Tryz.ntmps143
  go_wp2
  all_goals (go_ret; exact ⟨by simp [numB]; omega, rfl⟩)
set_option maxHeartbeats 400000 in
theorem band_any (c a b : Int) (w : World) :
    Calls Tryz.prog 169 #[.int .i64 c, .int .i64 a, .int .i64 b] w fun e w' => e = .returned (.bool (bandB c a b)) ∧ w = w' := by
  go_enter Tryz.func169, Tryz.ntmps169
  go_wp2
  all_goals (go_ret; refine ⟨?_, rfl⟩; unfold bandB; split <;> first | omega | (simp; done) | (simp; omega))
set_option maxHeartbeats 400000 in
theorem span_any (a b : Int) (w : World) :
    Calls Tryz.prog 171 #[.agg #[.int .i64 a, .int .i64 b]] w fun e w' => e = .returned (.bool (spnB a b)) ∧ Below w.heap.size w w' := by
  go_enter Tryz.func171, Tryz.ntmps171
  go_wp2
  all_goals (go_ret; exact ⟨ret_bool (by simp only [spnB, decide_eq_true_eq, Bool.false_eq_true, true_iff, false_iff]; omega), (Below.refl _ _).alloc (Nat.le_refl _) _⟩)
set_option maxHeartbeats 400000 in
theorem spanR_any (a b : Int) (w : World) :
    Calls Tryz.prog 174 #[.agg #[.int .i64 a, .int .i64 b]] w fun e w' => e = .returned (.bool (spnB a b)) ∧ Below w.heap.size w w' := by
  go_enter Tryz.func174, Tryz.ntmps174
  go_wp2
  all_goals (go_ret; exact ⟨ret_bool (by simp only [spnB, decide_eq_true_eq, Bool.false_eq_true, true_iff, false_iff]; omega), (Below.refl _ _).alloc (Nat.le_refl _) _⟩)

theorem ret_int {k : IntKind} {a b : Int} (h : a = b) : Ending.returned (.int k a) = .returned (.int k b) := by rw [h]
theorem ret_int2 {k l : IntKind} {a b c d : Int} (h : a = b) (h' : c = d) : Ending.returned (.tuple #[.int k a, .int l c]) = .returned (.tuple #[.int k b, .int l d]) := by rw [h, h']
set_option maxHeartbeats 400000 in
theorem split_any (t : Int) (w : World) (h1 : -9000000000000000000 ≤ t) (h2 : t ≤ 9000000000000000000) :
    Calls Tryz.prog 172 #[.int .i64 t] w fun e w' => e = .returned (.tuple #[.int .i64 (t / 1440), .int .i64 (t % 1440)]) ∧ w = w' := by
  have hb := tdiv_le t (by omega) (by omega)
  by_cases c : t.tmod 1440 < 0
  · have hc := Lib.hid (tmod_neg t c)
    go_enter Tryz.func172, Tryz.ntmps172
    go_wp2
    go_ret2
    exact ⟨ret_int2 hc.out.1 hc.out.2, rfl⟩
  · have hc := Lib.hid (tmod_pos t (by omega))
    go_enter Tryz.func172, Tryz.ntmps172
    go_wp2
    go_ret2
    exact ⟨ret_int2 hc.out.1 hc.out.2, rfl⟩
set_option maxHeartbeats 400000 in
theorem floor_any (t : Int) (w : World) (h1 : -9000000000000000000 ≤ t) (h2 : t ≤ 9000000000000000000) :
    Calls Tryz.prog 207 #[.int .i64 t, .int .i64 1440] w fun e w' => e = .returned (.int .i64 (t / 1440)) ∧ w = w' := by
  have hb := tdiv_le t (by omega) (by omega)
  by_cases c : t.tmod 1440 < 0
  · have hc := Lib.hid (tmod_neg t c)
    go_enter Tryz.func207, Tryz.ntmps207
    go_wp2
    go_ret
    exact ⟨ret_int hc.out.1, rfl⟩
  · have hc := Lib.hid (tmod_pos t (by omega))
    go_enter Tryz.func207, Tryz.ntmps207
    go_wp2
    go_ret
    exact ⟨ret_int hc.out.1, rfl⟩
set_option maxHeartbeats 400000 in
theorem splitR_any (t : Int) (w : World) (h1 : -9000000000000000000 ≤ t) (h2 : t ≤ 9000000000000000000) :
    Calls Tryz.prog 168 #[.int .i64 t] w fun e w' => e = .returned (.tuple #[.int .i64 (t / 1440), .int .i64 (t % 1440)]) ∧ w = w' := by
  go_enter Tryz.func168, Tryz.ntmps168
  go_wp2_with (go_at_call 207; refine (floor_any _ _ (by omega) (by omega)).mono ?_; rintro e w' ⟨rfl, rfl⟩)
  go_ret2
  exact ⟨ret_int2 rfl (by omega), rfl⟩

theorem getD_byte (s : ByteArray) (k : Nat) (h : k < s.size) : s.data.toList.getD k 0 = s[k] := by
  have h' : k < s.data.toList.length := by simpa using h
  rw [List.getD_eq_getElem?_getD, List.getElem?_eq_getElem h']; rfl
/-- the bytes before k may stand in a name -/
def NameUpto (s : ByteArray) (k : Nat) : Prop := ∀ j, j < k → nameAt j ((s.data.toList.getD j 0).toNat : Int) = true
theorem NameUpto.step {s : ByteArray} {k : Nat} (h : k < s.size) (H : NameUpto s k) (hk : nameAt k (s[k].toNat : Int) = true) : NameUpto s (k + 1) := by
  intro j hj
  by_cases e : j = k
  · subst e; rw [getD_byte s j h]; exact hk
  · exact H j (by omega)
theorem NameUpto.done {s : ByteArray} (h1 : 1 ≤ s.size) (h2 : s.size ≤ 16) (H : NameUpto s s.size) : nameB s.data.toList = true := by
  have h' : s.data.toList.length = s.size := by simp
  unfold nameB
  rw [nameAll_true s.data.toList 0 (fun k hk => by
    have := H k (by omega)
    rw [List.getD_eq_getElem?_getD, List.getElem?_eq_getElem hk] at this
    simpa using this)]
  simp; omega
theorem NameUpto.bad {s : ByteArray} {k : Nat} (h : k < s.size) (hk : nameAt k (s[k].toNat : Int) = false) : nameB s.data.toList = false := by
  have h' : s.data.toList.length = s.size := by simp
  unfold nameB
  rw [nameAll_false s.data.toList 0 k (by omega) (by rw [Nat.zero_add]; exact hk)]
  simp
theorem nameAt_yes {k : Nat} {c : Int} (h : 0 < k ∨ lowB c = true) (h' : lowB c = true ∨ numB c = true ∨ (c != 95) = false) : nameAt k c = true := by
  simp only [nameAt, Bool.or_eq_true, Bool.and_eq_true, decide_eq_true_eq, beq_iff_eq]
  simp only [bne_eq_false_iff_eq] at h'
  rcases h with h | h
  · rcases h' with h' | h' | h'
    · exact .inl h'
    · exact .inr ⟨h, .inl h'⟩
    · exact .inr ⟨h, .inr h'⟩
  · exact .inl h
theorem nameAt_no {k : Nat} {c : Int} (h1 : ¬ lowB c = true) (h2 : ¬ numB c = true) (h3 : (c != 95) = true) : nameAt k c = false := by
  simp at h1 h2 h3
  simp [nameAt, h1, h2, h3]
theorem NameUpto.len {s : ByteArray} (h : s.size < 1 ∨ 16 < s.size) : nameB s.data.toList = false := by
  have h' : s.data.toList.length = s.size := by simp
  unfold nameB
  simp; omega

set_option maxHeartbeats 400000 in
theorem isName_any (s : ByteArray) (w : World) (hs : s.size ≤ maxLen) :
    Calls Tryz.prog 176 #[.string s] w fun e w' => e = .returned (.bool (nameB s.data.toList)) ∧ w = w' := by
  unfold maxLen at hs
  by_cases h1 : s.size < 1 ∨ 16 < s.size
  · have hf := Lib.hid (NameUpto.len h1)
    rcases h1 with h1 | h1
    all_goals
      go_enter Tryz.func176, Tryz.ntmps176
      go_wp2
      go_ret
      exact ⟨ret_bool (by rw [hf.out]), rfl⟩
  · go_enter Tryz.func176, Tryz.ntmps176
    go_wp2
    go_loop [15] (fun i => ∃ k : Nat, k ≤ s.size ∧ i = .int .i64 k ∧ NameUpto s k) (fun i => s.size - (intOf i).toNat)
    case atStart => exact ⟨0, Nat.zero_le _, rfl, fun j h => absurd h (Nat.not_lt_zero _)⟩
    case round =>
      obtain ⟨k, hk, rfl, hall⟩ := hrel
      by_cases hlt : k < s.size
      · go_wp2
        all_goals first
          | (go_ret
             refine ⟨ret_bool (by rw [NameUpto.bad hlt (by simp only [nameAt, lowB, numB, Bool.or_eq_false_iff, Bool.and_eq_false_iff, decide_eq_false_iff_not, beq_eq_false_iff_ne] at *; omega)]), rfl⟩)
          | (go_round
             case rel => exact ⟨k + 1, by omega, by go_num, NameUpto.step hlt hall (by simp only [nameAt, lowB, numB, Bool.or_eq_true, Bool.and_eq_true, decide_eq_true_eq, beq_iff_eq] at *; omega)⟩
             case measure => simp [intOf]; omega)
      · obtain rfl : k = s.size := by omega
        have hf := Lib.hid (NameUpto.done (by omega) (by omega) hall)
        go_wp2
        go_ret
        exact ⟨ret_bool (by rw [hf.out]), rfl⟩

set_option maxHeartbeats 400000 in
theorem isNameR_any (s : ByteArray) (w : World) (hs : s.size ≤ maxLen) :
    Calls Tryz.prog 100 #[.string s] w fun e w' => e = .returned (.bool (nameB s.data.toList)) ∧ w = w' := by
  unfold maxLen at hs
  by_cases h1 : s.size < 1 ∨ 16 < s.size
  · have hf := Lib.hid (NameUpto.len h1)
    rcases h1 with h1 | h1
    all_goals
      go_enter Tryz.func100, Tryz.ntmps100
      go_wp2
      go_ret
      exact ⟨ret_bool (by rw [hf.out]), rfl⟩
  · have h0 : 0 < s.size := by omega
    cases hl : lowB (s[0].toNat : Int)
    · have hf := Lib.hid (NameUpto.bad h0 (by simp only [nameAt, hl]; simp))
      go_enter Tryz.func100, Tryz.ntmps100
      go_wp2_with (first | (go_at_call 142; refine (lower_any _ _).mono ?_; rintro e w' ⟨rfl, rfl⟩))
      go_ret
      exact ⟨ret_bool (by rw [hf.out]), rfl⟩
    · have hl' := Lib.hid hl
      go_enter Tryz.func100, Tryz.ntmps100
      go_wp2_with (first | (go_at_call 142; refine (lower_any _ _).mono ?_; rintro e w' ⟨rfl, rfl⟩))
      clear hl
      go_loop [3] (fun i => ∃ k : Nat, k ≤ s.size ∧ i = .int .i64 k ∧ NameUpto s k) (fun i => s.size - (intOf i).toNat)
      case atStart => exact ⟨0, Nat.zero_le _, rfl, fun j h => absurd h (Nat.not_lt_zero _)⟩
      case round =>
        obtain ⟨k, hk, rfl, hall⟩ := hrel
        by_cases hlt : k < s.size
        · have h0k := Lib.hid (show 0 < k ∨ lowB (s[k].toNat : Int) = true from by
            by_cases e : k = 0
            · subst e; exact .inr hl'.out
            · exact .inl (by omega))
          go_wp2_with (first | (go_at_call 142; refine (lower_any _ _).mono ?_; rintro e w' ⟨rfl, rfl⟩) | (go_at_call 143; refine (number_any _ _).mono ?_; rintro e w' ⟨rfl, rfl⟩))
          all_goals first
            | (go_ret
               exact ⟨ret_bool (by rw [NameUpto.bad hlt (nameAt_no (by assumption) (by assumption) (by assumption))]), rfl⟩)
            | (go_round
               case rel => exact ⟨k + 1, by omega, by go_num, NameUpto.step hlt hall (nameAt_yes h0k.out (by first | exact .inl (by assumption) | exact .inr (.inl (by assumption)) | exact .inr (.inr (by assumption))))⟩
               case measure => simp [intOf]; omega)
        · obtain rfl : k = s.size := by omega
          have hf := Lib.hid (NameUpto.done (by omega) (by omega) hall)
          go_wp2
          go_ret
          exact ⟨ret_bool (by rw [hf.out]), rfl⟩
end Go.Proofs.YtpgbckgjlgecpaaGreat
/- zone: by conv.py from the texts of the zone seat -/
namespace Go.Proofs.YtpgbckgjlgecpaaGreat
open Go.RowKit Go.Sort
set_option linter.unusedSimpArgs false
set_option linter.unusedVariables false
set_option maxRecDepth 100000

/-- the cells of a list of shifts -/
def ShCells (w : World) (b off : Nat) (l : List (Int × Int)) : Prop :=
  ∀ i, i < l.length → w.cell? ⟨b, off + i * 2, none⟩ = some (.int .i64 (shAt l i).1) ∧ w.cell? ⟨b, off + i * 2 + 1, none⟩ = some (.int .i64 (shAt l i).2)
/-- a slice at a holds the shifts l -/
def ShAt (w : World) (a : Option Addr) (l : List (Int × Int)) : Prop := l = [] ∨ ∃ b off, a = some ⟨b, off, none⟩ ∧ b < w.heap.size ∧ ShCells w b off l
theorem ShCells.below {w w' : World} {b off : Nat} {l : List (Int × Int)} (h : ShCells w b off l) (hb : b < w.heap.size) (hw : Below w.heap.size w w') : ShCells w' b off l :=
  fun i hi => ⟨(hw.cell (p := ⟨b, off + i * 2, none⟩) hb).trans (h i hi).1, (hw.cell (p := ⟨b, off + i * 2 + 1, none⟩) hb).trans (h i hi).2⟩
theorem ShAt.below {w w' : World} {a : Option Addr} {l : List (Int × Int)} (h : ShAt w a l) (hw : Below w.heap.size w w') : ShAt w' a l := by
  rcases h with h | ⟨b, off, h, hb, hc⟩
  · exact .inl h
  · exact .inr ⟨b, off, h, Nat.lt_of_lt_of_le hb hw.size, hc.below hb hw⟩

set_option maxHeartbeats 400000 in
theorem validate_nil (s : ByteArray) (o : Int) (a : Option Addr) (cap : Nat) (w : World) (hs : s.size ≤ maxLen) :
    Calls Tryz.prog 132 #[.agg #[.string s, .int .i64 o, .slice a 0 cap]] w fun e w' => e = .returned (.int .i64 (valZone s.data.toList o [])) ∧ Below w.heap.size w w' := by
  cases h1 : nameB s.data.toList
  · have hf := Lib.hid (show valZone s.data.toList o [] = 1 from by simp [valZone, h1])
    go_enter Tryz.func132, Tryz.ntmps132
    go_wp2_with (first | (go_at_call 176; refine (isName_any _ _ hs).mono ?_; rintro e w' ⟨rfl, rfl⟩) | (go_at_call 177; refine (offset_any _ _).mono ?_; rintro e w' ⟨rfl, rfl⟩))
    go_ret
    exact ⟨ret_int hf.out.symm, (Below.refl _ _).alloc (Nat.le_refl _) _⟩
  cases h2 : offB o
  · have hf := Lib.hid (show valZone s.data.toList o [] = 5 from by simp [valZone, h1, h2])
    go_enter Tryz.func132, Tryz.ntmps132
    go_wp2_with (first | (go_at_call 176; refine (isName_any _ _ hs).mono ?_; rintro e w' ⟨rfl, rfl⟩) | (go_at_call 177; refine (offset_any _ _).mono ?_; rintro e w' ⟨rfl, rfl⟩))
    go_ret
    exact ⟨ret_int hf.out.symm, (Below.refl _ _).alloc (Nat.le_refl _) _⟩
  have hf := Lib.hid (show valZone s.data.toList o [] = 0 from by simp [valZone, h1, h2, valShifts])
  go_enter Tryz.func132, Tryz.ntmps132
  go_wp2_with (first | (go_at_call 176; refine (isName_any _ _ hs).mono ?_; rintro e w' ⟨rfl, rfl⟩) | (go_at_call 177; refine (offset_any _ _).mono ?_; rintro e w' ⟨rfl, rfl⟩))
  go_loop [20] (fun i => i = .int .i64 0) (fun _ => 0)
  case atStart => rfl
  case round =>
    subst hrel
    go_wp2
    go_ret
    exact ⟨ret_int hf.out.symm, (Below.refl _ _).alloc (Nat.le_refl _) _⟩

set_option maxHeartbeats 400000 in
theorem validate_walk (s : ByteArray) (o : Int) (l : List (Int × Int)) (b off cap : Nat) (w : World) (hs : s.size ≤ maxLen) (hl : l.length ≤ 1000000) (hb : b < w.heap.size) (hc : ShCells w b off l) :
    Calls Tryz.prog 132 #[.agg #[.string s, .int .i64 o, .slice (some ⟨b, off, none⟩) l.length cap]] w fun e w' => e = .returned (.int .i64 (valZone s.data.toList o l)) ∧ Below w.heap.size w w' := by
  cases h1 : nameB s.data.toList
  · have hf := Lib.hid (show valZone s.data.toList o l = 1 from by simp [valZone, h1])
    go_enter Tryz.func132, Tryz.ntmps132
    go_wp2_with (first | (go_at_call 176; refine (isName_any _ _ hs).mono ?_; rintro e w' ⟨rfl, rfl⟩) | (go_at_call 177; refine (offset_any _ _).mono ?_; rintro e w' ⟨rfl, rfl⟩))
    go_ret
    exact ⟨ret_int hf.out.symm, (Below.refl _ _).alloc (Nat.le_refl _) _⟩
  cases h2 : offB o
  · have hf := Lib.hid (show valZone s.data.toList o l = 5 from by simp [valZone, h1, h2])
    go_enter Tryz.func132, Tryz.ntmps132
    go_wp2_with (first | (go_at_call 176; refine (isName_any _ _ hs).mono ?_; rintro e w' ⟨rfl, rfl⟩) | (go_at_call 177; refine (offset_any _ _).mono ?_; rintro e w' ⟨rfl, rfl⟩))
    go_ret
    exact ⟨ret_int hf.out.symm, (Below.refl _ _).alloc (Nat.le_refl _) _⟩
  by_cases h3 : 16 < l.length
  · have hf := Lib.hid (show valZone s.data.toList o l = 10 from by simp [valZone, h1, h2, h3])
    go_enter Tryz.func132, Tryz.ntmps132
    go_wp2_with (first | (go_at_call 176; refine (isName_any _ _ hs).mono ?_; rintro e w' ⟨rfl, rfl⟩) | (go_at_call 177; refine (offset_any _ _).mono ?_; rintro e w' ⟨rfl, rfl⟩))
    go_ret
    exact ⟨ret_int hf.out.symm, (Below.refl _ _).alloc (Nat.le_refl _) _⟩
  go_enter Tryz.func132, Tryz.ntmps132
  go_wp2_with (first | (go_at_call 176; refine (isName_any _ _ hs).mono ?_; rintro e w' ⟨rfl, rfl⟩) | (go_at_call 177; refine (offset_any _ _).mono ?_; rintro e w' ⟨rfl, rfl⟩))
  have hv : valZone s.data.toList o l = valShifts none l := by simp [valZone, h1, h2, h3]
  have hv := Lib.hid hv
  clear h1 h2
  generalize hW : w.alloc (Obj.cells #[Value.string s, Value.int IntKind.i64 o, Value.slice (some { block := b, off := off }) l.length cap] 85) = W
  have hbW : Below w.heap.size w W := by rw [← hW]; exact (Below.refl _ _).alloc (Nat.le_refl _) _
  have hWs : w.heap.size < W.heap.size := by rw [← hW]; simp
  have hcW : W.cell? ⟨w.heap.size, 2, none⟩ = some (Value.slice (some { block := b, off := off }) l.length cap) := by clear hbW hWs; subst hW; go_simp
  clear hW
  go_loopw [20] (fun i wr => ∃ k : Nat, k ≤ l.length ∧ i = .int .i64 k ∧ ValUpto l k ∧ Below W.heap.size W wr) (fun i _ => l.length - (intOf i).toNat)
  case atStart => exact ⟨0, Nat.zero_le _, rfl, ValUpto.zero _, Below.refl _ _⟩
  case round =>
    obtain ⟨k, hk, rfl, hall, hbel⟩ := hrel
    have hc3 := (hbel.cell (p := ⟨w.heap.size, 2, none⟩) hWs).trans hcW
    have hbk := (hbW.trans (hbel.mono (Nat.le_of_lt hWs)))
    by_cases hlt : k < l.length
    · have hcell := hc k hlt
      have hc1 := (hbel.cell (p := ⟨b, off + k * 2, none⟩) (by simp; omega)).trans ((hbW.cell (p := ⟨b, off + k * 2, none⟩) hb).trans hcell.1)
      have hc2 := (hbel.cell (p := ⟨b, off + k * 2 + 1, none⟩) (by simp; omega)).trans ((hbW.cell (p := ⟨b, off + k * 2 + 1, none⟩) hb).trans hcell.2)
      clear hcell
      have hz1 : w.heap.size < wr.heap.size := Nat.lt_of_lt_of_le hWs hbel.size
      have hz2 : b < wr.heap.size := by omega
      cases i1 : insB (shAt l k).1
      · have hf := Lib.hid (hv.out.trans (hall.bad hlt (.inl i1)))
        go_wp2_with (first | (go_at_call 178; refine (instant_any _ _).mono ?_; rintro e w' ⟨rfl, rfl⟩) | (go_at_call 177; refine (offset_any _ _).mono ?_; rintro e w' ⟨rfl, rfl⟩))
        go_ret
        exact ⟨ret_int hf.out.symm, (hbk.alloc (Nat.le_trans (Nat.le_of_lt hWs) hbel.size) _)⟩
      cases i2 : offB (shAt l k).2
      · have hf := Lib.hid (hv.out.trans (hall.bad hlt (.inr i2)))
        go_wp2_with (first | (go_at_call 178; refine (instant_any _ _).mono ?_; rintro e w' ⟨rfl, rfl⟩) | (go_at_call 177; refine (offset_any _ _).mono ?_; rintro e w' ⟨rfl, rfl⟩))
        go_ret
        exact ⟨ret_int hf.out.symm, (hbk.alloc (Nat.le_trans (Nat.le_of_lt hWs) hbel.size) _)⟩
      by_cases h0 : k = 0
      · have hst := Lib.hid (hall.step hlt i1 i2 (.inl h0))
        have hd : decide (0 < k) = false := by simp; omega
        clear h0
        go_wp2_with (first | (go_at_call 178; refine (instant_any _ _).mono ?_; rintro e w' ⟨rfl, rfl⟩) | (go_at_call 177; refine (offset_any _ _).mono ?_; rintro e w' ⟨rfl, rfl⟩))
        go_quiet (fail)
        go_wp2
        go_roundw
        case rel => exact ⟨k + 1, by omega, by go_num, hst.out, below_drewN (hbel.alloc hbel.size _) _⟩
        case measure => simp [intOf]; omega
      · obtain ⟨m, rfl⟩ : ∃ m, k = m + 1 := ⟨k - 1, by omega⟩
        have hcell := hc m (by omega)
        have hc4 := (hbel.cell (p := ⟨b, off + m * 2, none⟩) (by simp; omega)).trans ((hbW.cell (p := ⟨b, off + m * 2, none⟩) hb).trans hcell.1)
        clear hcell
        by_cases ho : (shAt l (m + 1)).1 ≤ (shAt l m).1
        · have hf := Lib.hid (hv.out.trans (hall.order hlt i1 i2 (by omega) ho))
          go_wp2_with (first | (go_at_call 178; refine (instant_any _ _).mono ?_; rintro e w' ⟨rfl, rfl⟩) | (go_at_call 177; refine (offset_any _ _).mono ?_; rintro e w' ⟨rfl, rfl⟩))
          go_quiet (fail)
          go_wp2
          go_ret
          exact ⟨ret_int hf.out.symm, below_drewN (hbk.alloc (Nat.le_trans (Nat.le_of_lt hWs) hbel.size) _) _⟩
        · have hst := Lib.hid (hall.step hlt i1 i2 (.inr (Int.not_le.1 ho)))
          go_wp2_with (first | (go_at_call 178; refine (instant_any _ _).mono ?_; rintro e w' ⟨rfl, rfl⟩) | (go_at_call 177; refine (offset_any _ _).mono ?_; rintro e w' ⟨rfl, rfl⟩))
          go_quiet (fail)
          go_wp2
          go_roundw
          case rel => exact ⟨m + 1 + 1, by omega, by go_num, hst.out, below_drewN (hbel.alloc hbel.size _) _⟩
          case measure => simp [intOf]; omega
    · obtain rfl : k = l.length := by omega
      have hf := Lib.hid (hv.out.trans hall.done)
      go_wp2
      go_ret
      exact ⟨ret_int hf.out.symm, hbk⟩

theorem validate_any (s : ByteArray) (o : Int) (l : List (Int × Int)) (a : Option Addr) (cap : Nat) (w : World) (hs : s.size ≤ maxLen) (hl : l.length ≤ 1000000) (ha : ShAt w a l) :
    Calls Tryz.prog 132 #[.agg #[.string s, .int .i64 o, .slice a l.length cap]] w fun e w' => e = .returned (.int .i64 (valZone s.data.toList o l)) ∧ Below w.heap.size w w' := by
  rcases ha with rfl | ⟨b, off, rfl, hb, hc⟩
  · exact validate_nil s o a cap w hs
  · exact validate_walk s o l b off cap w hs hl hb hc

set_option maxHeartbeats 400000 in
theorem validateR_nil (s : ByteArray) (o : Int) (a : Option Addr) (cap : Nat) (w : World) (hs : s.size ≤ maxLen) :
    Calls Tryz.prog 51 #[.agg #[.string s, .int .i64 o, .slice a 0 cap]] w fun e w' => e = .returned (.int .i64 (valZone s.data.toList o [])) ∧ Below w.heap.size w w' := by
  cases h1 : nameB s.data.toList
  · have hf := Lib.hid (show valZone s.data.toList o [] = 1 from by simp [valZone, h1])
    go_enter Tryz.func51, Tryz.ntmps51
    go_wp2_with (first | (go_at_call 100; refine (isNameR_any _ _ hs).mono ?_; rintro e w' ⟨rfl, rfl⟩) | (go_at_call 101; refine (offsetR_any _ _).mono ?_; rintro e w' ⟨rfl, rfl⟩))
    go_ret
    exact ⟨ret_int hf.out.symm, (Below.refl _ _).alloc (Nat.le_refl _) _⟩
  cases h2 : offB o
  · have hf := Lib.hid (show valZone s.data.toList o [] = 5 from by simp [valZone, h1, h2])
    go_enter Tryz.func51, Tryz.ntmps51
    go_wp2_with (first | (go_at_call 100; refine (isNameR_any _ _ hs).mono ?_; rintro e w' ⟨rfl, rfl⟩) | (go_at_call 101; refine (offsetR_any _ _).mono ?_; rintro e w' ⟨rfl, rfl⟩))
    go_ret
    exact ⟨ret_int hf.out.symm, (Below.refl _ _).alloc (Nat.le_refl _) _⟩
  have hf := Lib.hid (show valZone s.data.toList o [] = 0 from by simp [valZone, h1, h2, valShifts])
  go_enter Tryz.func51, Tryz.ntmps51
  go_wp2_with (first | (go_at_call 100; refine (isNameR_any _ _ hs).mono ?_; rintro e w' ⟨rfl, rfl⟩) | (go_at_call 101; refine (offsetR_any _ _).mono ?_; rintro e w' ⟨rfl, rfl⟩))
  go_loop [3] (fun i => i = .int .i64 0) (fun _ => 0)
  case atStart => rfl
  case round =>
    subst hrel
    go_wp2
    go_ret
    exact ⟨ret_int hf.out.symm, (Below.refl _ _).alloc (Nat.le_refl _) _⟩

set_option maxHeartbeats 400000 in
theorem validateR_walk (s : ByteArray) (o : Int) (l : List (Int × Int)) (b off cap : Nat) (w : World) (hs : s.size ≤ maxLen) (hl : l.length ≤ 1000000) (hb : b < w.heap.size) (hc : ShCells w b off l) :
    Calls Tryz.prog 51 #[.agg #[.string s, .int .i64 o, .slice (some ⟨b, off, none⟩) l.length cap]] w fun e w' => e = .returned (.int .i64 (valZone s.data.toList o l)) ∧ Below w.heap.size w w' := by
  cases h1 : nameB s.data.toList
  · have hf := Lib.hid (show valZone s.data.toList o l = 1 from by simp [valZone, h1])
    go_enter Tryz.func51, Tryz.ntmps51
    go_wp2_with (first | (go_at_call 100; refine (isNameR_any _ _ hs).mono ?_; rintro e w' ⟨rfl, rfl⟩) | (go_at_call 101; refine (offsetR_any _ _).mono ?_; rintro e w' ⟨rfl, rfl⟩))
    go_ret
    exact ⟨ret_int hf.out.symm, (Below.refl _ _).alloc (Nat.le_refl _) _⟩
  cases h2 : offB o
  · have hf := Lib.hid (show valZone s.data.toList o l = 5 from by simp [valZone, h1, h2])
    go_enter Tryz.func51, Tryz.ntmps51
    go_wp2_with (first | (go_at_call 100; refine (isNameR_any _ _ hs).mono ?_; rintro e w' ⟨rfl, rfl⟩) | (go_at_call 101; refine (offsetR_any _ _).mono ?_; rintro e w' ⟨rfl, rfl⟩))
    go_ret
    exact ⟨ret_int hf.out.symm, (Below.refl _ _).alloc (Nat.le_refl _) _⟩
  by_cases h3 : 16 < l.length
  · have hf := Lib.hid (show valZone s.data.toList o l = 10 from by simp [valZone, h1, h2, h3])
    go_enter Tryz.func51, Tryz.ntmps51
    go_wp2_with (first | (go_at_call 100; refine (isNameR_any _ _ hs).mono ?_; rintro e w' ⟨rfl, rfl⟩) | (go_at_call 101; refine (offsetR_any _ _).mono ?_; rintro e w' ⟨rfl, rfl⟩))
    go_ret
    exact ⟨ret_int hf.out.symm, (Below.refl _ _).alloc (Nat.le_refl _) _⟩
  go_enter Tryz.func51, Tryz.ntmps51
  go_wp2_with (first | (go_at_call 100; refine (isNameR_any _ _ hs).mono ?_; rintro e w' ⟨rfl, rfl⟩) | (go_at_call 101; refine (offsetR_any _ _).mono ?_; rintro e w' ⟨rfl, rfl⟩))
  have hv : valZone s.data.toList o l = valShifts none l := by simp [valZone, h1, h2, h3]
  have hv := Lib.hid hv
  clear h1 h2
  generalize hW : w.alloc (Obj.cells #[Value.string s, Value.int IntKind.i64 o, Value.slice (some { block := b, off := off }) l.length cap] 85) = W
  have hbW : Below w.heap.size w W := by rw [← hW]; exact (Below.refl _ _).alloc (Nat.le_refl _) _
  have hWs : w.heap.size < W.heap.size := by rw [← hW]; simp
  have hcW : W.cell? ⟨w.heap.size, 2, none⟩ = some (Value.slice (some { block := b, off := off }) l.length cap) := by clear hbW hWs; subst hW; go_simp
  clear hW
  go_loopw [3] (fun i wr => ∃ k : Nat, k ≤ l.length ∧ i = .int .i64 k ∧ ValUpto l k ∧ Below W.heap.size W wr) (fun i _ => l.length - (intOf i).toNat)
  case atStart => exact ⟨0, Nat.zero_le _, rfl, ValUpto.zero _, Below.refl _ _⟩
  case round =>
    obtain ⟨k, hk, rfl, hall, hbel⟩ := hrel
    have hc3 := (hbel.cell (p := ⟨w.heap.size, 2, none⟩) hWs).trans hcW
    have hbk := (hbW.trans (hbel.mono (Nat.le_of_lt hWs)))
    by_cases hlt : k < l.length
    · have hcell := hc k hlt
      have hc1 := (hbel.cell (p := ⟨b, off + k * 2, none⟩) (by simp; omega)).trans ((hbW.cell (p := ⟨b, off + k * 2, none⟩) hb).trans hcell.1)
      have hc2 := (hbel.cell (p := ⟨b, off + k * 2 + 1, none⟩) (by simp; omega)).trans ((hbW.cell (p := ⟨b, off + k * 2 + 1, none⟩) hb).trans hcell.2)
      clear hcell
      have hz1 : w.heap.size < wr.heap.size := Nat.lt_of_lt_of_le hWs hbel.size
      have hz2 : b < wr.heap.size := by omega
      cases i1 : insB (shAt l k).1
      · have hf := Lib.hid (hv.out.trans (hall.bad hlt (.inl i1)))
        go_wp2_with (first | (go_at_call 102; refine (instantR_any _ _).mono ?_; rintro e w' ⟨rfl, rfl⟩) | (go_at_call 101; refine (offsetR_any _ _).mono ?_; rintro e w' ⟨rfl, rfl⟩))
        go_ret
        exact ⟨ret_int hf.out.symm, hbk⟩
      cases i2 : offB (shAt l k).2
      · have hf := Lib.hid (hv.out.trans (hall.bad hlt (.inr i2)))
        go_wp2_with (first | (go_at_call 102; refine (instantR_any _ _).mono ?_; rintro e w' ⟨rfl, rfl⟩) | (go_at_call 101; refine (offsetR_any _ _).mono ?_; rintro e w' ⟨rfl, rfl⟩))
        go_ret
        exact ⟨ret_int hf.out.symm, hbk⟩
      by_cases h0 : k = 0
      · have hst := Lib.hid (hall.step hlt i1 i2 (.inl h0))
        have hd : decide (0 < k) = false := by simp; omega
        clear h0
        go_wp2_with (first | (go_at_call 102; refine (instantR_any _ _).mono ?_; rintro e w' ⟨rfl, rfl⟩) | (go_at_call 101; refine (offsetR_any _ _).mono ?_; rintro e w' ⟨rfl, rfl⟩))
        go_quiet (fail)
        go_wp2
        go_roundw
        case rel => exact ⟨k + 1, by omega, by go_num, hst.out, below_drewN hbel _⟩
        case measure => simp [intOf]; omega
      · obtain ⟨m, rfl⟩ : ∃ m, k = m + 1 := ⟨k - 1, by omega⟩
        have hcell := hc m (by omega)
        have hc4 := (hbel.cell (p := ⟨b, off + m * 2, none⟩) (by simp; omega)).trans ((hbW.cell (p := ⟨b, off + m * 2, none⟩) hb).trans hcell.1)
        clear hcell
        by_cases ho : (shAt l (m + 1)).1 ≤ (shAt l m).1
        · have hf := Lib.hid (hv.out.trans (hall.order hlt i1 i2 (by omega) ho))
          go_wp2_with (first | (go_at_call 102; refine (instantR_any _ _).mono ?_; rintro e w' ⟨rfl, rfl⟩) | (go_at_call 101; refine (offsetR_any _ _).mono ?_; rintro e w' ⟨rfl, rfl⟩))
          go_quiet (fail)
          go_wp2
          go_ret
          exact ⟨ret_int hf.out.symm, below_drewN hbk _⟩
        · have hst := Lib.hid (hall.step hlt i1 i2 (.inr (Int.not_le.1 ho)))
          go_wp2_with (first | (go_at_call 102; refine (instantR_any _ _).mono ?_; rintro e w' ⟨rfl, rfl⟩) | (go_at_call 101; refine (offsetR_any _ _).mono ?_; rintro e w' ⟨rfl, rfl⟩))
          go_quiet (fail)
          go_wp2
          go_roundw
          case rel => exact ⟨m + 1 + 1, by omega, by go_num, hst.out, below_drewN hbel _⟩
          case measure => simp [intOf]; omega
    · obtain rfl : k = l.length := by omega
      have hf := Lib.hid (hv.out.trans hall.done)
      go_wp2
      go_ret
      exact ⟨ret_int hf.out.symm, hbk⟩

theorem validateR_any (s : ByteArray) (o : Int) (l : List (Int × Int)) (a : Option Addr) (cap : Nat) (w : World) (hs : s.size ≤ maxLen) (hl : l.length ≤ 1000000) (ha : ShAt w a l) :
    Calls Tryz.prog 51 #[.agg #[.string s, .int .i64 o, .slice a l.length cap]] w fun e w' => e = .returned (.int .i64 (valZone s.data.toList o l)) ∧ Below w.heap.size w w' := by
  rcases ha with rfl | ⟨b, off, rfl, hb, hc⟩
  · exact validateR_nil s o a cap w hs
  · exact validateR_walk s o l b off cap w hs hl hb hc
end Go.Proofs.YtpgbckgjlgecpaaGreat
/- zone: by conv.py from the texts of the zone seat -/
namespace Go.Proofs.YtpgbckgjlgecpaaGreat
open Go.RowKit Go.Sort
set_option linter.unusedSimpArgs false
set_option linter.unusedVariables false
set_option maxRecDepth 100000

set_option maxHeartbeats 400000 in
theorem offsetAt_nil (s : ByteArray) (o t : Int) (a : Option Addr) (cap : Nat) (w : World) :
    Calls Tryz.prog 173 #[.agg #[.string s, .int .i64 o, .slice a 0 cap], .int .i64 t] w fun e w' => e = .returned (.int .i64 (offP o [] t)) ∧ Below w.heap.size w w' := by
  go_enter Tryz.func173, Tryz.ntmps173
  go_wp2
  go_loop [5, 13] (fun m i => m = .int .i64 o ∧ i = .int .i64 0) (fun _ _ => 0)
  case atStart => exact ⟨rfl, rfl⟩
  case round =>
    obtain ⟨rfl, rfl⟩ := hrel
    go_wp2
    go_ret
    exact ⟨rfl, (Below.refl _ _).alloc (Nat.le_refl _) _⟩

set_option maxHeartbeats 400000 in
theorem offsetAt_walk (s : ByteArray) (o t : Int) (l : List (Int × Int)) (b off cap : Nat) (w : World) (hl : l.length ≤ 1000000) (hb : b < w.heap.size) (hc : ShCells w b off l) :
    Calls Tryz.prog 173 #[.agg #[.string s, .int .i64 o, .slice (some ⟨b, off, none⟩) l.length cap], .int .i64 t] w fun e w' => e = .returned (.int .i64 (offP o l t)) ∧ Below w.heap.size w w' := by
  go_enter Tryz.func173, Tryz.ntmps173
  go_wp2
  generalize hW : w.alloc (Obj.cells #[Value.string s, Value.int IntKind.i64 o, Value.slice (some { block := b, off := off }) l.length cap] 85) = W
  have hbW : Below w.heap.size w W := by rw [← hW]; exact (Below.refl _ _).alloc (Nat.le_refl _) _
  have hWs : w.heap.size < W.heap.size := by rw [← hW]; simp
  clear hW
  go_loopw [5, 13] (fun m i wr => ∃ (n : Int) (k : Nat), k ≤ l.length ∧ i = .int .i64 k ∧ m = .int .i64 n ∧ Hid (offP o l t = offP n (l.drop k) t) ∧ Below W.heap.size W wr) (fun _ i _ => l.length - (intOf i).toNat)
  case atStart => exact ⟨o, 0, Nat.zero_le _, rfl, rfl, Lib.hid rfl, Below.refl _ _⟩
  case round =>
    obtain ⟨n, k, hk, rfl, rfl, hall, hbel⟩ := hrel
    have hbk := (hbW.trans (hbel.mono (Nat.le_of_lt hWs)))
    by_cases hlt : k < l.length
    · have hcell := hc k hlt
      have hc1 := (hbel.cell (p := ⟨b, off + k * 2, none⟩) (by simp; omega)).trans ((hbW.cell (p := ⟨b, off + k * 2, none⟩) hb).trans hcell.1)
      have hc2 := (hbel.cell (p := ⟨b, off + k * 2 + 1, none⟩) (by simp; omega)).trans ((hbW.cell (p := ⟨b, off + k * 2 + 1, none⟩) hb).trans hcell.2)
      clear hcell
      have hz1 : w.heap.size < wr.heap.size := Nat.lt_of_lt_of_le hWs hbel.size
      by_cases ht : t < (shAt l k).1
      · have hf := Lib.hid (hall.out.trans (offP_drop_stop hlt ht))
        go_wp2
        go_ret
        exact ⟨ret_int hf.out.symm, hbk.alloc (Nat.le_trans (Nat.le_of_lt hWs) hbel.size) _⟩
      · have hf := Lib.hid (hall.out.trans (offP_drop_step hlt ht))
        go_wp2
        go_roundw
        case rel => exact ⟨_, k + 1, by omega, by go_num, rfl, hf, hbel.alloc hbel.size _⟩
        case measure => simp [intOf]; omega
    · have hf := Lib.hid (hall.out.trans (offP_drop_done hlt))
      go_wp2
      go_ret
      exact ⟨ret_int hf.out.symm, hbk⟩
theorem offsetAt_any (s : ByteArray) (o t : Int) (l : List (Int × Int)) (a : Option Addr) (cap : Nat) (w : World) (hl : l.length ≤ 1000000) (ha : ShAt w a l) :
    Calls Tryz.prog 173 #[.agg #[.string s, .int .i64 o, .slice a l.length cap], .int .i64 t] w fun e w' => e = .returned (.int .i64 (offP o l t)) ∧ Below w.heap.size w w' := by
  rcases ha with rfl | ⟨b, off, rfl, hb, hc⟩
  · exact offsetAt_nil s o t a cap w
  · exact offsetAt_walk s o t l b off cap w hl hb hc

set_option maxHeartbeats 400000 in
theorem offsetRef_nil (s : ByteArray) (o t : Int) (a : Option Addr) (cap : Nat) (w : World) :
    Calls Tryz.prog 149 #[.agg #[.string s, .int .i64 o, .slice a 0 cap], .int .i64 t] w fun e w' => e = .returned (.int .i64 (offR o [] t)) ∧ Below w.heap.size w w' := by
  go_enter Tryz.func149, Tryz.ntmps149
  go_wp2
  go_loop [5, 6] (fun m i => m = .int .i64 o ∧ i = .int .i64 0) (fun _ _ => 0)
  case atStart => exact ⟨rfl, rfl⟩
  case round =>
    obtain ⟨rfl, rfl⟩ := hrel
    go_wp2
    go_ret
    exact ⟨rfl, (Below.refl _ _).alloc (Nat.le_refl _) _⟩
set_option maxHeartbeats 400000 in
theorem offsetRef_walk (s : ByteArray) (o t : Int) (l : List (Int × Int)) (b off cap : Nat) (w : World) (hl : l.length ≤ 1000000) (hb : b < w.heap.size) (hc : ShCells w b off l) :
    Calls Tryz.prog 149 #[.agg #[.string s, .int .i64 o, .slice (some ⟨b, off, none⟩) l.length cap], .int .i64 t] w fun e w' => e = .returned (.int .i64 (offR o l t)) ∧ Below w.heap.size w w' := by
  go_enter Tryz.func149, Tryz.ntmps149
  go_wp2
  generalize hW : w.alloc (Obj.cells #[Value.string s, Value.int IntKind.i64 o, Value.slice (some { block := b, off := off }) l.length cap] 85) = W
  have hbW : Below w.heap.size w W := by rw [← hW]; exact (Below.refl _ _).alloc (Nat.le_refl _) _
  have hWs : w.heap.size < W.heap.size := by rw [← hW]; simp
  have hcW : W.cell? ⟨w.heap.size, 2, none⟩ = some (Value.slice (some { block := b, off := off }) l.length cap) := by clear hbW hWs; subst hW; go_simp
  clear hW
  go_loop [5, 6] (fun m i => ∃ (n : Int) (k : Nat), k ≤ l.length ∧ i = .int .i64 k ∧ m = .int .i64 n ∧ Hid (offR o l t = offR n (l.drop k) t)) (fun _ i => l.length - (intOf i).toNat)
  case atStart => exact ⟨o, 0, Nat.zero_le _, rfl, rfl, Lib.hid rfl⟩
  case round =>
    obtain ⟨n, k, hk, rfl, rfl, hall⟩ := hrel
    by_cases hlt : k < l.length
    · have hcell := hc k hlt
      have hc1 := ((hbW.cell (p := ⟨b, off + k * 2, none⟩) hb).trans hcell.1)
      have hc2 := ((hbW.cell (p := ⟨b, off + k * 2 + 1, none⟩) hb).trans hcell.2)
      clear hcell
      by_cases ht : (shAt l k).1 ≤ t
      · have hf := Lib.hid (hall.out.trans (offR_drop_yes hlt ht))
        go_wp2
        go_round
        case rel => exact ⟨_, k + 1, by omega, by go_num, rfl, hf⟩
        case measure => simp [intOf]; omega
      · have hf := Lib.hid (hall.out.trans (offR_drop_no hlt ht))
        go_wp2
        go_round
        case rel => exact ⟨_, k + 1, by omega, by go_num, rfl, hf⟩
        case measure => simp [intOf]; omega
    · have hf := Lib.hid (hall.out.trans (offR_drop_done hlt))
      go_wp2
      go_ret
      exact ⟨ret_int hf.out.symm, hbW⟩
theorem offsetRef_any (s : ByteArray) (o t : Int) (l : List (Int × Int)) (a : Option Addr) (cap : Nat) (w : World) (hl : l.length ≤ 1000000) (ha : ShAt w a l) :
    Calls Tryz.prog 149 #[.agg #[.string s, .int .i64 o, .slice a l.length cap], .int .i64 t] w fun e w' => e = .returned (.int .i64 (offR o l t)) ∧ Below w.heap.size w w' := by
  rcases ha with rfl | ⟨b, off, rfl, hb, hc⟩
  · exact offsetRef_nil s o t a cap w
  · exact offsetRef_walk s o t l b off cap w hl hb hc

theorem bcell {W w1 : World} (hb : Below W.heap.size W w1) : (∀ b o, b < W.heap.size → w1.cell? ⟨b, o, none⟩ = W.cell? ⟨b, o, none⟩) ∧ (∀ b o, b < W.heap.size → w1.frozen? ⟨b, o, none⟩ = W.frozen? ⟨b, o, none⟩) :=
  ⟨fun b o h => hb.cell (p := ⟨b, o, none⟩) h, fun b o h => hb.frozen (p := ⟨b, o, none⟩) h⟩
theorem Below.then {w W w1 : World} (h : Below w.heap.size w W) (h1 : Below W.heap.size W w1) : Below w.heap.size w w1 := h.trans (h1.mono h.size)
theorem ret_int3 {k1 k2 k3 : IntKind} {a b c d e f : Int} (h : a = b) (h' : c = d) (h'' : e = f) : Ending.returned (.tuple #[.int k1 a, .int k2 c, .int k3 e]) = .returned (.tuple #[.int k1 b, .int k2 d, .int k3 f]) := by rw [h, h', h'']

set_option maxHeartbeats 400000 in
theorem OffsetAt_any (s : ByteArray) (o t : Int) (l : List (Int × Int)) (a : Option Addr) (cap : Nat) (w : World) (hs : s.size ≤ maxLen) (hl : l.length ≤ 1000000) (ha : ShAt w a l) :
    Calls Tryz.prog 146 #[.agg #[.string s, .int .i64 o, .slice a l.length cap], .int .i64 t] w fun e w' => e = .returned (.tuple #[.int .i64 (offAtZ s.data.toList o l t).1, .int .i64 (offAtZ s.data.toList o l t).2]) ∧ Below w.heap.size w w' := by
  have hA := Lib.hid (fun W (h : Below w.heap.size w W) => ha.below h)
  clear ha
  go_enter Tryz.func146, Tryz.ntmps146
  go_wp2_with fail
  refine (validate_any s o l a cap _ hs hl (hA.out _ ((Below.refl _ _).alloc (Nat.le_refl _) _))).mono ?_
  rintro e w1 ⟨rfl, hb1⟩
  have hb2 := Below.then ((Below.refl _ _).alloc (Nat.le_refl _) _) hb1
  have hz1 : w.heap.size < w1.heap.size := by have := hb1.size; simp at this; omega
  obtain ⟨hc, hf⟩ := bcell hb1
  by_cases hv : valZone s.data.toList o l = 0
  · have hv0 := Lib.hid hv
    have hn : (valZone s.data.toList o l != 0) = false := by simpa using hv
    cases hi : insB t
    · have hz := Lib.hid (show offAtZ s.data.toList o l t = (0, 5) from by simp [offAtZ, hv, hi])
      clear hv
      go_wp2_with (go_at_call 178; refine (instant_any _ _).mono ?_; rintro e w' ⟨rfl, rfl⟩)
      go_ret2
      exact ⟨ret_int2 (by rw [hz.out]) (by rw [hz.out]), hb2⟩
    · have hz := Lib.hid (show offAtZ s.data.toList o l t = (offP o l t, 0) from by simp [offAtZ, hv, hi])
      clear hv
      go_wp2_with (first | (go_at_call 178; refine (instant_any _ _).mono ?_; rintro e w' ⟨rfl, rfl⟩) | (go_at_call 173; refine (offsetAt_any s o t l a cap _ hl (hA.out _ hb2)).mono ?_; rintro e w2 ⟨rfl, hb3⟩))
      go_ret2
      exact ⟨ret_int2 (by rw [hz.out]) (by rw [hz.out]), Below.then hb2 hb3⟩
  · have hz := Lib.hid (show offAtZ s.data.toList o l t = (0, valZone s.data.toList o l) from by simp [offAtZ, hv])
    have hn : (valZone s.data.toList o l != 0) = true := by simpa using hv
    clear hv
    go_wp2_with fail
    go_ret2
    exact ⟨ret_int2 (by rw [hz.out]) (by rw [hz.out]), hb2⟩

set_option maxHeartbeats 400000 in
theorem OffsetAtR_any (s : ByteArray) (o t : Int) (l : List (Int × Int)) (a : Option Addr) (cap : Nat) (w : World) (hs : s.size ≤ maxLen) (hl : l.length ≤ 1000000) (ha : ShAt w a l) :
    Calls Tryz.prog 225 #[.agg #[.string s, .int .i64 o, .slice a l.length cap], .int .i64 t] w fun e w' => e = .returned (.tuple #[.int .i64 (offAtZ s.data.toList o l t).1, .int .i64 (offAtZ s.data.toList o l t).2]) ∧ Below w.heap.size w w' := by
  have hA := Lib.hid (fun W (h : Below w.heap.size w W) => ha.below h)
  clear ha
  go_enter Tryz.func225, Tryz.ntmps225
  go_wp2_with fail
  refine (validateR_any s o l a cap _ hs hl (hA.out _ ((Below.refl _ _).alloc (Nat.le_refl _) _))).mono ?_
  rintro e w1 ⟨rfl, hb1⟩
  have hb2 := Below.then ((Below.refl _ _).alloc (Nat.le_refl _) _) hb1
  have hz1 : w.heap.size < w1.heap.size := by have := hb1.size; simp at this; omega
  obtain ⟨hc, hf⟩ := bcell hb1
  by_cases hv : valZone s.data.toList o l = 0
  · have hv0 := Lib.hid hv
    have hn : (valZone s.data.toList o l != 0) = false := by simpa using hv
    cases hi : insB t
    · have hz := Lib.hid (show offAtZ s.data.toList o l t = (0, 5) from by simp [offAtZ, hv, hi])
      clear hv
      go_wp2_with (go_at_call 102; refine (instantR_any _ _).mono ?_; rintro e w' ⟨rfl, rfl⟩)
      go_ret2
      exact ⟨ret_int2 (by rw [hz.out]) (by rw [hz.out]), hb2⟩
    · have hz := Lib.hid (show offAtZ s.data.toList o l t = (offP o l t, 0) from by simp [offAtZ, hv, hi])
      clear hv
      go_wp2_with (first | (go_at_call 102; refine (instantR_any _ _).mono ?_; rintro e w' ⟨rfl, rfl⟩) | (go_at_call 149; refine (offsetRef_any s o t l a cap _ hl (hA.out _ hb2)).mono ?_; rintro e w2 ⟨rfl, hb3⟩))
      go_ret2
      exact ⟨ret_int2 (by rw [hz.out]; exact (offP_eq_offR l none o t (valZone_zero hv0.out).2.2.2).symm) (by rw [hz.out]), Below.then hb2 hb3⟩
  · have hz := Lib.hid (show offAtZ s.data.toList o l t = (0, valZone s.data.toList o l) from by simp [offAtZ, hv])
    have hn : (valZone s.data.toList o l != 0) = true := by simpa using hv
    clear hv
    go_wp2_with fail
    go_ret2
    exact ⟨ret_int2 (by rw [hz.out]) (by rw [hz.out]), hb2⟩

set_option maxHeartbeats 400000 in
theorem LocalMinute_any (s : ByteArray) (o t : Int) (l : List (Int × Int)) (a : Option Addr) (cap : Nat) (w : World) (hs : s.size ≤ maxLen) (hl : l.length ≤ 1000000) (ha : ShAt w a l) :
    Calls Tryz.prog 192 #[.agg #[.string s, .int .i64 o, .slice a l.length cap], .int .i64 t] w fun e w' => e = .returned (.tuple #[.int .i64 (locMinZ s.data.toList o l t).1, .int .i64 (locMinZ s.data.toList o l t).2]) ∧ Below w.heap.size w w' := by
  have hA := Lib.hid (fun W (h : Below w.heap.size w W) => ha.below h)
  clear ha
  have hbd := Lib.hid (offAtZ_bd (nm := s.data.toList) (o := o) (l := l) (t := t))
  have hdef := Lib.hid (locMinZ_eq s.data.toList o l t)
  go_enter Tryz.func192, Tryz.ntmps192
  go_wp2_with fail
  refine (OffsetAt_any s o t l a cap _ hs hl (hA.out _ ((Below.refl _ _).alloc (Nat.le_refl _) _))).mono ?_
  rintro e w1 ⟨rfl, hb1⟩
  have hb2 := Below.then ((Below.refl _ _).alloc (Nat.le_refl _) _) hb1
  obtain ⟨hc, hf⟩ := bcell hb1
  generalize offAtZ s.data.toList o l t = p at *
  obtain ⟨r, e⟩ := p
  simp only at *
  by_cases hv : e = 0
  · subst hv
    have hbd := hbd.out rfl
    go_wp2_with fail
    go_ret2
    exact ⟨ret_int2 (by rw [hdef.out]; simp) (by rw [hdef.out]; simp), hb2⟩
  · have hn : (e != 0) = true := by simpa using hv
    go_wp2_with fail
    go_ret2
    exact ⟨ret_int2 (by rw [hdef.out]; simp [hv]) (by rw [hdef.out]; simp [hv]), hb2⟩

set_option maxHeartbeats 400000 in
theorem LocalMinuteR_any (s : ByteArray) (o t : Int) (l : List (Int × Int)) (a : Option Addr) (cap : Nat) (w : World) (hs : s.size ≤ maxLen) (hl : l.length ≤ 1000000) (ha : ShAt w a l) :
    Calls Tryz.prog 208 #[.agg #[.string s, .int .i64 o, .slice a l.length cap], .int .i64 t] w fun e w' => e = .returned (.tuple #[.int .i64 (locMinZ s.data.toList o l t).1, .int .i64 (locMinZ s.data.toList o l t).2]) ∧ Below w.heap.size w w' := by
  have hA := Lib.hid (fun W (h : Below w.heap.size w W) => ha.below h)
  clear ha
  have hbd := Lib.hid (offAtZ_bd (nm := s.data.toList) (o := o) (l := l) (t := t))
  have hdef := Lib.hid (locMinZ_eq s.data.toList o l t)
  go_enter Tryz.func208, Tryz.ntmps208
  go_wp2_with fail
  refine (OffsetAtR_any s o t l a cap _ hs hl (hA.out _ ((Below.refl _ _).alloc (Nat.le_refl _) _))).mono ?_
  rintro e w1 ⟨rfl, hb1⟩
  have hb2 := Below.then ((Below.refl _ _).alloc (Nat.le_refl _) _) hb1
  obtain ⟨hc, hf⟩ := bcell hb1
  generalize offAtZ s.data.toList o l t = p at *
  obtain ⟨r, e⟩ := p
  simp only at *
  by_cases hv : e = 0
  · subst hv
    have hbd := hbd.out rfl
    go_wp2_with fail
    go_ret2
    exact ⟨ret_int2 (by rw [hdef.out]; simp) (by rw [hdef.out]; simp), hb2⟩
  · have hn : (e != 0) = true := by simpa using hv
    go_wp2_with fail
    go_ret2
    exact ⟨ret_int2 (by rw [hdef.out]; simp [hv]) (by rw [hdef.out]; simp [hv]), hb2⟩

set_option maxHeartbeats 400000 in
theorem LocalTime_any (s : ByteArray) (o t : Int) (l : List (Int × Int)) (a : Option Addr) (cap : Nat) (w : World) (hs : s.size ≤ maxLen) (hl : l.length ≤ 1000000) (ha : ShAt w a l) :
    Calls Tryz.prog 147 #[.agg #[.string s, .int .i64 o, .slice a l.length cap], .int .i64 t] w fun e w' => e = .returned (.tuple #[.int .i64 (locTimeZ s.data.toList o l t).1, .int .i64 (locTimeZ s.data.toList o l t).2.1, .int .i64 (locTimeZ s.data.toList o l t).2.2]) ∧ Below w.heap.size w w' := by
  have hA := Lib.hid (fun W (h : Below w.heap.size w W) => ha.below h)
  clear ha
  have hbd := (locMinZ_bd (nm := s.data.toList) (o := o) (l := l) (t := t))
  have hdef := Lib.hid (locTimeZ_eq s.data.toList o l t)
  go_enter Tryz.func147, Tryz.ntmps147
  go_wp2_with fail
  refine (LocalMinute_any s o t l a cap _ hs hl (hA.out _ ((Below.refl _ _).alloc (Nat.le_refl _) _))).mono ?_
  rintro e w1 ⟨rfl, hb1⟩
  have hb2 := Below.then ((Below.refl _ _).alloc (Nat.le_refl _) _) hb1
  obtain ⟨hc, hf⟩ := bcell hb1
  generalize locMinZ s.data.toList o l t = p at *
  obtain ⟨r, e⟩ := p
  simp only at *
  by_cases hv : e = 0
  · subst hv
    go_wp2_with (go_at_call 172; refine (split_any _ _ (by omega) (by omega)).mono ?_; rintro e w' ⟨rfl, rfl⟩)
    go_ret3
    exact ⟨ret_int3 (by rw [hdef.out]; simp) (by rw [hdef.out]; simp) (by rw [hdef.out]; simp), hb2⟩
  · have hn : (e != 0) = true := by simpa using hv
    go_wp2_with fail
    go_ret3
    exact ⟨ret_int3 (by rw [hdef.out]; simp [hv]) (by rw [hdef.out]; simp [hv]) (by rw [hdef.out]; simp [hv]), hb2⟩

set_option maxHeartbeats 400000 in
theorem LocalTimeR_any (s : ByteArray) (o t : Int) (l : List (Int × Int)) (a : Option Addr) (cap : Nat) (w : World) (hs : s.size ≤ maxLen) (hl : l.length ≤ 1000000) (ha : ShAt w a l) :
    Calls Tryz.prog 175 #[.agg #[.string s, .int .i64 o, .slice a l.length cap], .int .i64 t] w fun e w' => e = .returned (.tuple #[.int .i64 (locTimeZ s.data.toList o l t).1, .int .i64 (locTimeZ s.data.toList o l t).2.1, .int .i64 (locTimeZ s.data.toList o l t).2.2]) ∧ Below w.heap.size w w' := by
  have hA := Lib.hid (fun W (h : Below w.heap.size w W) => ha.below h)
  clear ha
  have hbd := (locMinZ_bd (nm := s.data.toList) (o := o) (l := l) (t := t))
  have hdef := Lib.hid (locTimeZ_eq s.data.toList o l t)
  go_enter Tryz.func175, Tryz.ntmps175
  go_wp2_with fail
  refine (LocalMinuteR_any s o t l a cap _ hs hl (hA.out _ ((Below.refl _ _).alloc (Nat.le_refl _) _))).mono ?_
  rintro e w1 ⟨rfl, hb1⟩
  have hb2 := Below.then ((Below.refl _ _).alloc (Nat.le_refl _) _) hb1
  obtain ⟨hc, hf⟩ := bcell hb1
  generalize locMinZ s.data.toList o l t = p at *
  obtain ⟨r, e⟩ := p
  simp only at *
  by_cases hv : e = 0
  · subst hv
    go_wp2_with (go_at_call 168; refine (splitR_any _ _ (by omega) (by omega)).mono ?_; rintro e w' ⟨rfl, rfl⟩)
    go_ret3
    exact ⟨ret_int3 (by rw [hdef.out]; simp) (by rw [hdef.out]; simp) (by rw [hdef.out]; simp), hb2⟩
  · have hn : (e != 0) = true := by simpa using hv
    go_wp2_with fail
    go_ret3
    exact ⟨ret_int3 (by rw [hdef.out]; simp [hv]) (by rw [hdef.out]; simp [hv]) (by rw [hdef.out]; simp [hv]), hb2⟩
end Go.Proofs.YtpgbckgjlgecpaaGreat
/- zone: by conv.py from the texts of the zone seat -/
namespace Go.Proofs.YtpgbckgjlgecpaaGreat
open Go.RowKit Go.Sort
set_option linter.unusedSimpArgs false
set_option linter.unusedVariables false
set_option maxRecDepth 100000
/-- a zone in a box -/
def ZBox (w : World) (z : Nat) (s : ByteArray) (o : Int) (a : Option Addr) (n cap : Nat) : Prop :=
  z < w.heap.size ∧ w.cell? ⟨z, 0, none⟩ = some (.string s) ∧ w.cell? ⟨z, 1, none⟩ = some (.int .i64 o) ∧ w.cell? ⟨z, 2, none⟩ = some (.slice a n cap)
/-- a span in a box -/
def SBox (w : World) (z : Nat) (x y : Int) : Prop :=
  z < w.heap.size ∧ w.cell? ⟨z, 0, none⟩ = some (.int .i64 x) ∧ w.cell? ⟨z, 1, none⟩ = some (.int .i64 y)
theorem ZBox.below {w w' : World} {z : Nat} {s : ByteArray} {o : Int} {a : Option Addr} {n cap : Nat} (h : ZBox w z s o a n cap) (hb : Below w.heap.size w w') : ZBox w' z s o a n cap :=
  ⟨Nat.lt_of_lt_of_le h.1 hb.size, (hb.cell (p := ⟨z, 0, none⟩) h.1).trans h.2.1, (hb.cell (p := ⟨z, 1, none⟩) h.1).trans h.2.2.1, (hb.cell (p := ⟨z, 2, none⟩) h.1).trans h.2.2.2⟩
theorem SBox.below {w w' : World} {z : Nat} {x y : Int} (h : SBox w z x y) (hb : Below w.heap.size w w') : SBox w' z x y :=
  ⟨Nat.lt_of_lt_of_le h.1 hb.size, (hb.cell (p := ⟨z, 0, none⟩) h.1).trans h.2.1, (hb.cell (p := ⟨z, 1, none⟩) h.1).trans h.2.2⟩
theorem ZBox.new (w : World) (s : ByteArray) (o : Int) (a : Option Addr) (n cap : Nat) : ZBox (w.alloc (Obj.cells #[Value.string s, Value.int IntKind.i64 o, Value.slice a n cap] 85)) w.heap.size s o a n cap := by
  refine ⟨by simp, ?_, ?_, ?_⟩ <;> go_simp
theorem SBox.new (w : World) (x y : Int) : SBox (w.alloc (Obj.cells #[Value.int IntKind.i64 x, Value.int IntKind.i64 y] 50)) w.heap.size x y := by
  refine ⟨by simp, ?_, ?_⟩ <;> go_simp
theorem below_new (w : World) (o : Obj) : Below w.heap.size w (w.alloc o) := (Below.refl _ _).alloc (Nat.le_refl _) _
/-- both boxes, laid one behind the other -/
theorem boxes (w : World) (s : ByteArray) (o : Int) (a : Option Addr) (n cap : Nat) (x y : Int) :
    let W := (w.alloc (Obj.cells #[Value.string s, Value.int IntKind.i64 o, Value.slice a n cap] 85)).alloc (Obj.cells #[Value.int IntKind.i64 x, Value.int IntKind.i64 y] 50)
    ZBox W w.heap.size s o a n cap ∧ SBox W (w.heap.size + 1) x y ∧ Below w.heap.size w W := by
  intro W
  refine ⟨(ZBox.new w s o a n cap).below (below_new _ _), ?_, Below.then (below_new _ _) (below_new _ _)⟩
  have := SBox.new (w.alloc (Obj.cells #[Value.string s, Value.int IntKind.i64 o, Value.slice a n cap] 85)) x y
  simpa using this


theorem same_below {P : Program} {f : FuncId} {args : Array Value} {w : World} {v : Value} (h : Calls P f args w fun e w' => e = .returned v ∧ w = w') : Calls P f args w fun e w' => e = .returned v ∧ Below w.heap.size w w' :=
  h.mono fun _ _ ⟨he, hw⟩ => ⟨he, hw ▸ Below.refl _ _⟩
set_option maxHeartbeats 800000 in
theorem LocalDays_any (s : ByteArray) (o x y : Int) (l : List (Int × Int)) (a : Option Addr) (cap : Nat) (w : World) (hs : s.size ≤ maxLen) (hl : l.length ≤ 1000000) (ha : ShAt w a l) :
    Calls Tryz.prog 129 #[.agg #[.string s, .int .i64 o, .slice a l.length cap], .agg #[.int .i64 x, .int .i64 y]] w fun e w' => e = .returned (.tuple #[.int .i64 (daysZ s.data.toList o l x y).1, .int .i64 (daysZ s.data.toList o l x y).2.1, .int .i64 (daysZ s.data.toList o l x y).2.2]) ∧ Below w.heap.size w w' := by
  have hA := Lib.hid (fun W (h : Below w.heap.size w W) => ha.below h)
  clear ha
  go_enter Tryz.func129, Tryz.ntmps129
  go_wp2_with fail
  obtain ⟨zb, sb, hbW⟩ := boxes w s o a l.length cap x y
  generalize ((w.alloc (Obj.cells #[Value.string s, Value.int IntKind.i64 o, Value.slice a l.length cap] 85)).alloc (Obj.cells #[Value.int IntKind.i64 x, Value.int IntKind.i64 y] 50)) = W at *
  refine (validate_any s o l a cap _ hs hl (hA.out _ hbW)).mono ?_
  rintro e w1 ⟨rfl, hb1⟩
  have hB1 := Below.then hbW hb1
  replace zb := zb.below hb1
  replace sb := sb.below hb1
  obtain ⟨z0, z1, z2, z3⟩ := Lib.hid zb |>.out
  obtain ⟨t0, t1, t2⟩ := Lib.hid sb |>.out
  clear hb1 hbW
  clear W
  by_cases hv : valZone s.data.toList o l = 0
  · have hv0 := Lib.hid hv
    have hn : (valZone s.data.toList o l != 0) = false := by simpa using hv
    cases hi : spnB x y
    · have hz := Lib.hid (show daysZ s.data.toList o l x y = (0, 0, 5) from by simp [daysZ, hv, hi])
      clear hv
      go_wp2_with (go_at_call 171; refine (span_any _ _ _).mono ?_; rintro e w2 ⟨rfl, hb2⟩)
      go_ret3
      exact ⟨ret_int3 (by rw [hz.out]) (by rw [hz.out]) (by rw [hz.out]), Below.then hB1 hb2⟩
    · by_cases he : x = y
      · have hz := Lib.hid (show daysZ s.data.toList o l x y = (0, 0, 8) from by unfold daysZ; rw [if_neg (by simp [hv]), if_neg (by simp [hi]), if_pos he])
        have he' : (x == y) = true := by simpa using he
        clear hv he
        go_wp2_with fail
        refine (span_any _ _ _).mono ?_
        rintro e w2 ⟨rfl, hb2⟩
        obtain ⟨hc, hf⟩ := bcell hb2
        go_wp2_with fail
        go_ret3
        exact ⟨ret_int3 (by rw [hz.out]) (by rw [hz.out]) (by rw [hz.out]), Below.then hB1 hb2⟩
      · have hz := Lib.hid (show daysZ s.data.toList o l x y = ((x + offP o l x) / 1440, (y - 1 + offP o l (y - 1)) / 1440, 0) from by simp [daysZ, hv, hi, he])
        have he' : (x == y) = false := by simpa using he
        have hsp := spnB_iff hi
        have ho1 := off_bd hv x
        have ho2 := off_bd hv (y - 1)
        clear hv 
        go_wp2_with fail
        refine (span_any _ _ _).mono ?_
        rintro e w2 ⟨rfl, hb2⟩
        have hB2 := Below.then hB1 hb2
        replace zb := zb.below hb2
        replace sb := sb.below hb2
        clear hb2 z0 z1 z2 z3 t0 t1 t2 hB1
        clear w1
        obtain ⟨z0, z1, z2, z3⟩ := Lib.hid zb |>.out
        obtain ⟨t0, t1, t2⟩ := Lib.hid sb |>.out
        go_wp2_with fail
        have r1 := fun d os => cell_regrown z1 d os
        have r2 := fun d os => cell_regrown z2 d os
        have r3 := fun d os => cell_regrown z3 d os
        have r4 := fun d os => cell_regrown t1 d os
        have r5 := fun d os => cell_regrown t2 d os
        have c1 := Lib.hid (fun d os t => Calls.regrown_of (offsetAt_any s o t l a cap (grow (redrawn w2 d) os) hl ((hA.out _ hB2).below (below_regrown w2 d os))))
        have c2 := Lib.hid (fun d os t h1 h2 => Calls.regrown_of (same_below (split_any t (grow (redrawn w2 d) os) h1 h2)))
        refine wp_region_quiet_below (by kernel_rfl) (by kernel_rfl) ?_
        repeat (first | go_big_quiet_step (first | exact c1.out _ _ _ | exact c2.out _ _ _ (by omega) (by omega)) | quiet_step (first | exact c1.out _ _ _ | exact c2.out _ _ _ (by omega) (by omega)))
        refine wpQuiet_nil ?_
        intro _ hw'
        obtain ⟨⟨dq, osq⟩, hw''⟩ := hw'
        subst hw''
        have hb3 := below_regrown w2 dq osq
        clear r1 r2 r3 r4 r5
        generalize grow (redrawn w2 dq) osq = w3 at *
        have hB3 := Below.then hB2 hb3
        replace zb := zb.below hb3
        replace sb := sb.below hb3
        clear hb3 z0 z1 z2 z3 t0 t1 t2 hB2 c1 c2
        obtain ⟨z0, z1, z2, z3⟩ := Lib.hid zb |>.out
        obtain ⟨t0, t1, t2⟩ := Lib.hid sb |>.out
        go_wp2_with fail
        have r1 := fun d os => cell_regrown z1 d os
        have r2 := fun d os => cell_regrown z2 d os
        have r3 := fun d os => cell_regrown z3 d os
        have r4 := fun d os => cell_regrown t1 d os
        have r5 := fun d os => cell_regrown t2 d os
        have c1 := Lib.hid (fun d os t => Calls.regrown_of (offsetAt_any s o t l a cap (grow (redrawn w3 d) os) hl ((hA.out _ hB3).below (below_regrown w3 d os))))
        have c2 := Lib.hid (fun d os t h1 h2 => Calls.regrown_of (same_below (split_any t (grow (redrawn w3 d) os) h1 h2)))
        refine wp_region_quiet_below (by kernel_rfl) (by kernel_rfl) ?_
        repeat (first | go_big_quiet_step (first | exact c1.out _ _ _ | exact c2.out _ _ _ (by omega) (by omega)) | quiet_step (first | exact c1.out _ _ _ | exact c2.out _ _ _ (by omega) (by omega)))
        refine wpQuiet_nil ?_
        intro _ hw'
        obtain ⟨⟨dq, osq⟩, hw''⟩ := hw'
        subst hw''
        have hb4 := below_regrown w3 dq osq
        go_wp2_with fail
        go_ret3
        exact ⟨ret_int3 (by rw [hz.out]) (by rw [hz.out]) (by rw [hz.out]), Below.then hB3 hb4⟩
  · have hz := Lib.hid (show daysZ s.data.toList o l x y = (0, 0, valZone s.data.toList o l) from by simp [daysZ, hv])
    have hn : (valZone s.data.toList o l != 0) = true := by simpa using hv
    clear hv
    go_wp2_with fail
    go_ret3
    exact ⟨ret_int3 (by rw [hz.out]) (by rw [hz.out]) (by rw [hz.out]), hB1⟩
set_option maxHeartbeats 800000 in
theorem LocalDaysR_any (s : ByteArray) (o x y : Int) (l : List (Int × Int)) (a : Option Addr) (cap : Nat) (w : World) (hs : s.size ≤ maxLen) (hl : l.length ≤ 1000000) (ha : ShAt w a l) :
    Calls Tryz.prog 131 #[.agg #[.string s, .int .i64 o, .slice a l.length cap], .agg #[.int .i64 x, .int .i64 y]] w fun e w' => e = .returned (.tuple #[.int .i64 (daysZ s.data.toList o l x y).1, .int .i64 (daysZ s.data.toList o l x y).2.1, .int .i64 (daysZ s.data.toList o l x y).2.2]) ∧ Below w.heap.size w w' := by
  have hA := Lib.hid (fun W (h : Below w.heap.size w W) => ha.below h)
  clear ha
  go_enter Tryz.func131, Tryz.ntmps131
  go_wp2_with fail
  obtain ⟨zb, sb, hbW⟩ := boxes w s o a l.length cap x y
  generalize ((w.alloc (Obj.cells #[Value.string s, Value.int IntKind.i64 o, Value.slice a l.length cap] 85)).alloc (Obj.cells #[Value.int IntKind.i64 x, Value.int IntKind.i64 y] 50)) = W at *
  refine (validateR_any s o l a cap _ hs hl (hA.out _ hbW)).mono ?_
  rintro e w1 ⟨rfl, hb1⟩
  have hB1 := Below.then hbW hb1
  replace zb := zb.below hb1
  replace sb := sb.below hb1
  obtain ⟨z0, z1, z2, z3⟩ := Lib.hid zb |>.out
  obtain ⟨t0, t1, t2⟩ := Lib.hid sb |>.out
  clear hb1 hbW
  clear W
  by_cases hv : valZone s.data.toList o l = 0
  · have hv0 := Lib.hid hv
    have hn : (valZone s.data.toList o l != 0) = false := by simpa using hv
    cases hi : spnB x y
    · have hz := Lib.hid (show daysZ s.data.toList o l x y = (0, 0, 5) from by simp [daysZ, hv, hi])
      clear hv
      go_wp2_with (go_at_call 174; refine (spanR_any _ _ _).mono ?_; rintro e w2 ⟨rfl, hb2⟩)
      go_ret3
      exact ⟨ret_int3 (by rw [hz.out]) (by rw [hz.out]) (by rw [hz.out]), Below.then hB1 hb2⟩
    · by_cases he : x = y
      · have hz := Lib.hid (show daysZ s.data.toList o l x y = (0, 0, 8) from by unfold daysZ; rw [if_neg (by simp [hv]), if_neg (by simp [hi]), if_pos he])
        have he' : (x == y) = true := by simpa using he
        clear hv he
        go_wp2_with fail
        refine (spanR_any _ _ _).mono ?_
        rintro e w2 ⟨rfl, hb2⟩
        obtain ⟨hc, hf⟩ := bcell hb2
        go_wp2_with fail
        go_ret3
        exact ⟨ret_int3 (by rw [hz.out]) (by rw [hz.out]) (by rw [hz.out]), Below.then hB1 hb2⟩
      · have hz := Lib.hid (show daysZ s.data.toList o l x y = ((x + offP o l x) / 1440, (y - 1 + offP o l (y - 1)) / 1440, 0) from by simp [daysZ, hv, hi, he])
        have he' : (x == y) = false := by simpa using he
        have hsp := spnB_iff hi
        have ho1 := off_bd hv x
        have ho2 := off_bd hv (y - 1)
        clear hv 
        go_wp2_with fail
        refine (spanR_any _ _ _).mono ?_
        rintro e w2 ⟨rfl, hb2⟩
        have hB2 := Below.then hB1 hb2
        replace zb := zb.below hb2
        replace sb := sb.below hb2
        clear hb2 z0 z1 z2 z3 t0 t1 t2 hB1
        clear w1
        obtain ⟨z0, z1, z2, z3⟩ := Lib.hid zb |>.out
        obtain ⟨t0, t1, t2⟩ := Lib.hid sb |>.out
        go_wp2_with fail
        refine (LocalTimeR_any s o x l a cap _ hs hl (hA.out _ hB2)).mono ?_
        rintro e w3 ⟨rfl, hb3⟩
        have hB3 := Below.then hB2 hb3
        replace zb := zb.below hb3
        replace sb := sb.below hb3
        clear hb3 z0 z1 z2 z3 t0 t1 t2 hB2
        obtain ⟨z0, z1, z2, z3⟩ := Lib.hid zb |>.out
        obtain ⟨t0, t1, t2⟩ := Lib.hid sb |>.out
        have k1 := Lib.hid (locTimeZ_ok (t := x) hv0.out (by omega))
        have k2 := Lib.hid (locTimeZ_ok (t := y - 1) hv0.out (by omega))
        go_wp2_with fail
        refine (LocalTimeR_any s o (y - 1) l a cap _ hs hl (hA.out _ hB3)).mono ?_
        rintro e w4 ⟨rfl, hb4⟩
        go_wp2_with fail
        go_ret3
        exact ⟨ret_int3 (by rw [hz.out, k1.out]) (by rw [hz.out, k2.out]) (by rw [hz.out]), Below.then hB3 hb4⟩
  · have hz := Lib.hid (show daysZ s.data.toList o l x y = (0, 0, valZone s.data.toList o l) from by simp [daysZ, hv])
    have hn : (valZone s.data.toList o l != 0) = true := by simpa using hv
    clear hv
    go_wp2_with fail
    go_ret3
    exact ⟨ret_int3 (by rw [hz.out]) (by rw [hz.out]) (by rw [hz.out]), hB1⟩
end Go.Proofs.YtpgbckgjlgecpaaGreat
/- how Go data lie in cells: a small calculus of representations -/
namespace Go.Proofs.YtpgbckgjlgecpaaGreat
open Go.RowKit
set_option linter.unusedVariables false

/-- the cells from ⟨b, off⟩ on -/
def CellsAt (w : World) (b off : Nat) (cs : List Value) : Prop := ∀ j (h : j < cs.length), w.cell? ⟨b, off + j, none⟩ = some cs[j]
theorem CellsAt.below {w w' : World} {b off : Nat} {cs : List Value} (h : CellsAt w b off cs) (hb : b < w.heap.size) (hw : Below w.heap.size w w') : CellsAt w' b off cs :=
  fun j hj => (hw.cell (p := ⟨b, off + j, none⟩) hb).trans (h j hj)

/-- how data of type A lie in n cells -/
structure RT (A : Type) where
  n : Nat
  rep : World → List Value → A → Prop
  len : ∀ {w cs a}, rep w cs a → cs.length = n
  mono : ∀ {w w' cs a}, rep w cs a → Below w.heap.size w w' → rep w' cs a

def RT.int : RT Int where
  n := 1
  rep _ cs a := cs = [.int .i64 a] ∧ (Lit.int .i64 a).wf = true
  len h := by rw [h.1]; rfl
  mono h _ := h
def RT.bool : RT Bool where
  n := 1
  rep _ cs a := cs = [.bool a]
  len h := by rw [h]; rfl
  mono h _ := h
def RT.str : RT ByteArray where
  n := 1
  rep _ cs a := cs = [.string a] ∧ a.size ≤ 140737488355328
  len h := by rw [h.1]; rfl
  mono h _ := h
def RT.prod {A B : Type} (r : RT A) (q : RT B) : RT (A × B) where
  n := r.n + q.n
  rep w cs a := ∃ c d, cs = c ++ d ∧ r.rep w c a.1 ∧ q.rep w d a.2
  len := by
    rintro w cs a ⟨c, d, rfl, h1, h2⟩
    rw [List.length_append, r.len h1, q.len h2]
  mono := by
    rintro w w' cs a ⟨c, d, rfl, h1, h2⟩ hw
    exact ⟨c, d, rfl, r.mono h1 hw, q.mono h2 hw⟩
/-- a slice at a reads as l -/
def SlAt {A : Type} (r : RT A) (w : World) (a : Option Addr) (l : List A) : Prop :=
  l = [] ∨ ∃ b off, a = some ⟨b, off, none⟩ ∧ b < w.heap.size ∧ ∀ i (h : i < l.length), ∃ cs, CellsAt w b (off + i * r.n) cs ∧ r.rep w cs l[i]
theorem SlAt.below {A : Type} {r : RT A} {w w' : World} {a : Option Addr} {l : List A} (h : SlAt r w a l) (hw : Below w.heap.size w w') : SlAt r w' a l := by
  rcases h with h | ⟨b, off, h, hb, hc⟩
  · exact .inl h
  · refine .inr ⟨b, off, h, Nat.lt_of_lt_of_le hb hw.size, fun i hi => ?_⟩
    obtain ⟨cs, h1, h2⟩ := hc i hi
    exact ⟨cs, h1.below hb hw, r.mono h2 hw⟩
def RT.sl {A : Type} (r : RT A) : RT (List A) where
  n := 1
  rep w cs l := ∃ a cap, cs = [.slice a l.length cap] ∧ l.length ≤ cap ∧ cap ≤ 140737488355328 ∧ SlAt r w a l
  len := by rintro w cs a ⟨_, _, rfl, _⟩; rfl
  mono := by
    rintro w w' cs l ⟨a, cap, h1, h2, h3, h4⟩ hw
    exact ⟨a, cap, h1, h2, h3, h4.below hw⟩
/-- what is read of a slice that is not empty -/
theorem SlAt.at {A : Type} {r : RT A} {w : World} {a : Option Addr} {l : List A} (h : SlAt r w a l) (hl : 0 < l.length) :
    ∃ b off, a = some ⟨b, off, none⟩ ∧ b < w.heap.size ∧ ∀ i (h : i < l.length), ∃ cs, CellsAt w b (off + i * r.n) cs ∧ r.rep w cs l[i] := by
  rcases h with rfl | h
  · simp at hl
  · exact h
end Go.Proofs.YtpgbckgjlgecpaaGreat
/- plain facts: the order of duties and pairings; tasks in memory -/
namespace Go.Proofs.YtpgbckgjlgecpaaGreat
open Go.RowKit
set_option linter.unusedVariables false
def cmpInt (a b : Int) : Int := if a < b then -1 else if b < a then 1 else 0
def taskCmp (a b : Int × Bool) : Int := if cmpInt a.1 b.1 ≠ 0 then cmpInt a.1 b.1 else if a.2 = b.2 then 0 else if b.2 = true then -1 else 1
/-- lists in the order of their first difference -/
def listCmp {A : Type} (c : A → A → Int) : List A → List A → Int
  | [], [] => 0
  | [], _ :: _ => -1
  | _ :: _, [] => 1
  | x :: l, y :: m => if c x y ≠ 0 then c x y else listCmp c l m
def dutyCmp (a b : List (Int × Bool)) : Int := listCmp taskCmp a b
def taskRT : RT (Int × Bool) := RT.prod RT.int RT.bool
def tAt (l : List (Int × Bool)) (k : Nat) : Int × Bool := l.getD k (0, false)
theorem t_drop (l : List (Int × Bool)) (k : Nat) (h : k < l.length) : l.drop k = tAt l k :: l.drop (k + 1) := by
  rw [tAt, List.drop_eq_getElem_cons h, List.getD_eq_getElem?_getD, List.getElem?_eq_getElem h]; rfl
/-- the cells of tasks -/
def TaskCells (w : World) (b off : Nat) (l : List (Int × Bool)) : Prop :=
  ∀ i, i < l.length → w.cell? ⟨b, off + i * 2, none⟩ = some (.int .i64 (tAt l i).1) ∧ w.cell? ⟨b, off + i * 2 + 1, none⟩ = some (.bool (tAt l i).2)
theorem TaskCells.below {w w' : World} {b off : Nat} {l : List (Int × Bool)} (h : TaskCells w b off l) (hb : b < w.heap.size) (hw : Below w.heap.size w w') : TaskCells w' b off l :=
  fun i hi => ⟨(hw.cell (p := ⟨b, off + i * 2, none⟩) hb).trans (h i hi).1, (hw.cell (p := ⟨b, off + i * 2 + 1, none⟩) hb).trans (h i hi).2⟩
theorem task_cells {w : World} {a : Option Addr} {l : List (Int × Bool)} (h : SlAt taskRT w a l) (hl : 0 < l.length) : ∃ b off, a = some ⟨b, off, none⟩ ∧ b < w.heap.size ∧ TaskCells w b off l := by
  obtain ⟨b, off, ha, hb, hc⟩ := h.at hl
  refine ⟨b, off, ha, hb, fun i hi => ?_⟩
  obtain ⟨cs, h1, c, d, rfl, ⟨rfl, _⟩, rfl⟩ := hc i hi
  have e : tAt l i = l[i] := by rw [tAt, List.getD_eq_getElem?_getD, List.getElem?_eq_getElem hi]; rfl
  rw [e]
  have g0 := h1 0 (by simp)
  have g1 := h1 1 (by simp)
  exact ⟨by simpa [taskRT, RT.prod, RT.int, RT.bool] using g0, by simpa [taskRT, RT.prod, RT.int, RT.bool] using g1⟩
theorem dutyCmp_drop {l m : List (Int × Bool)} {k : Nat} (h1 : k < l.length) (h2 : k < m.length) : dutyCmp (l.drop k) (m.drop k) = if taskCmp (tAt l k) (tAt m k) ≠ 0 then taskCmp (tAt l k) (tAt m k) else dutyCmp (l.drop (k + 1)) (m.drop (k + 1)) := by
  rw [t_drop l k h1, t_drop m k h2]; rfl
theorem dutyCmp_more {l m : List (Int × Bool)} {k : Nat} (h1 : k < l.length) (h2 : ¬ k < m.length) : dutyCmp (l.drop k) (m.drop k) = 1 := by
  rw [t_drop l k h1, List.drop_of_length_le (by omega : m.length ≤ k)]; rfl
theorem dutyCmp_less {l m : List (Int × Bool)} {k : Nat} (h1 : ¬ k < l.length) (h2 : k < m.length) : dutyCmp (l.drop k) (m.drop k) = -1 := by
  rw [t_drop m k h2, List.drop_of_length_le (by omega : l.length ≤ k)]; rfl
theorem dutyCmp_end {l m : List (Int × Bool)} {k : Nat} (h1 : ¬ k < l.length) (h2 : ¬ k < m.length) : dutyCmp (l.drop k) (m.drop k) = 0 := by
  rw [List.drop_of_length_le (by omega : l.length ≤ k), List.drop_of_length_le (by omega : m.length ≤ k)]; rfl
end Go.Proofs.YtpgbckgjlgecpaaGreat
/- contracts of the comparisons -/
namespace Go.Proofs.YtpgbckgjlgecpaaGreat
open Go.RowKit Go.Sort
set_option linter.unusedVariables false
set_option linter.unusedSimpArgs false
set_option maxRecDepth 100000

def strCmp (a b : ByteArray) : Int := if Op.bytesLess a.toList b.toList = true then -1 else if (a.toList == b.toList) = true then 0 else 1
end Go.Proofs.YtpgbckgjlgecpaaGreat
/- contracts of the comparisons: duties and pairings -/
namespace Go.Proofs.YtpgbckgjlgecpaaGreat
open Go.RowKit Go.Sort
set_option linter.unusedVariables false
set_option linter.unusedSimpArgs false
set_option maxRecDepth 100000

abbrev Duty := List (Int × Bool)
def dutyRT : RT Duty := RT.sl taskRT
def dAt (L : List Duty) (k : Nat) : Duty := L.getD k []
theorem d_drop (l : List Duty) (k : Nat) (h : k < l.length) : l.drop k = dAt l k :: l.drop (k + 1) := by
  rw [dAt, List.drop_eq_getElem_cons h, List.getD_eq_getElem?_getD, List.getElem?_eq_getElem h]; rfl
/-- the cells of duties -/
def DutyCells (w : World) (b off : Nat) (L : List Duty) : Prop :=
  ∀ i, i < L.length → ∃ a cap, w.cell? ⟨b, off + i, none⟩ = some (.slice a (dAt L i).length cap) ∧ (dAt L i).length ≤ 140737488355328 ∧ SlAt taskRT w a (dAt L i)
theorem DutyCells.below {w w' : World} {b off : Nat} {L : List Duty} (h : DutyCells w b off L) (hb : b < w.heap.size) (hw : Below w.heap.size w w') : DutyCells w' b off L := by
  intro i hi
  obtain ⟨a, cap, h1, h2, h3⟩ := h i hi
  exact ⟨a, cap, (hw.cell (p := ⟨b, off + i, none⟩) hb).trans h1, h2, h3.below hw⟩
theorem duty_cells {w : World} {a : Option Addr} {L : List Duty} (h : SlAt dutyRT w a L) (hl : 0 < L.length) : ∃ b off, a = some ⟨b, off, none⟩ ∧ b < w.heap.size ∧ DutyCells w b off L := by
  obtain ⟨b, off, ha, hb, hc⟩ := h.at hl
  refine ⟨b, off, ha, hb, fun i hi => ?_⟩
  obtain ⟨cs, h1, a', cap', rfl, h2, h3, h4⟩ := hc i hi
  have e : dAt L i = L[i] := by rw [dAt, List.getD_eq_getElem?_getD, List.getElem?_eq_getElem hi]; rfl
  rw [e]
  have g0 := h1 0 (by simp)
  exact ⟨a', cap', by simpa [dutyRT, RT.sl] using g0, by omega, h4⟩
def dutiesCmp (a b : List Duty) : Int := listCmp dutyCmp a b
theorem dutiesCmp_drop {l m : List Duty} {k : Nat} (h1 : k < l.length) (h2 : k < m.length) : dutiesCmp (l.drop k) (m.drop k) = if dutyCmp (dAt l k) (dAt m k) ≠ 0 then dutyCmp (dAt l k) (dAt m k) else dutiesCmp (l.drop (k + 1)) (m.drop (k + 1)) := by
  rw [d_drop l k h1, d_drop m k h2]; rfl
theorem dutiesCmp_more {l m : List Duty} {k : Nat} (h1 : k < l.length) (h2 : ¬ k < m.length) : dutiesCmp (l.drop k) (m.drop k) = 1 := by
  rw [d_drop l k h1, List.drop_of_length_le (by omega : m.length ≤ k)]; rfl
theorem dutiesCmp_less {l m : List Duty} {k : Nat} (h1 : ¬ k < l.length) (h2 : k < m.length) : dutiesCmp (l.drop k) (m.drop k) = -1 := by
  rw [d_drop m k h2, List.drop_of_length_le (by omega : l.length ≤ k)]; rfl
theorem dutiesCmp_end {l m : List Duty} {k : Nat} (h1 : ¬ k < l.length) (h2 : ¬ k < m.length) : dutiesCmp (l.drop k) (m.drop k) = 0 := by
  rw [List.drop_of_length_le (by omega : l.length ≤ k), List.drop_of_length_le (by omega : m.length ≤ k)]; rfl

/-- the order of pairings -/
def pairCmp (a b : ByteArray × List Duty) : Int := if strCmp a.1 b.1 ≠ 0 then strCmp a.1 b.1 else dutiesCmp a.2 b.2
end Go.Proofs.YtpgbckgjlgecpaaGreat
/- contracts of IsCode and IsAirport -/
namespace Go.Proofs.YtpgbckgjlgecpaaGreat
open Go.RowKit Go.Sort
set_option linter.unusedVariables false
set_option linter.unusedSimpArgs false
set_option maxRecDepth 100000
def uppB (c : Int) : Bool := decide (65 ≤ c ∧ c ≤ 90)
def cdeB (c : Int) : Bool := uppB c || numB c
def codeB (l : List UInt8) : Bool := decide (1 ≤ l.length ∧ l.length ≤ 8) && l.all fun c => cdeB (c.toNat : Int)
def airB (l : List UInt8) : Bool := decide (l.length = 3) && l.all fun c => uppB (c.toNat : Int)
/-- the bytes before k have P -/
def AllUpto (P : Int → Bool) (s : ByteArray) (k : Nat) : Prop := ∀ j, j < k → P ((s.data.toList.getD j 0).toNat : Int) = true
theorem AllUpto.step {P : Int → Bool} {s : ByteArray} {k : Nat} (h : k < s.size) (H : AllUpto P s k) (hk : P (s[k].toNat : Int) = true) : AllUpto P s (k + 1) := by
  intro j hj
  by_cases e : j = k
  · subst e; rw [getD_byte s j h]; exact hk
  · exact H j (by omega)
theorem AllUpto.done {P : Int → Bool} {s : ByteArray} (H : AllUpto P s s.size) : (s.data.toList.all fun c => P (c.toNat : Int)) = true := by
  rw [List.all_eq_true]
  intro c hc
  obtain ⟨i, hi, rfl⟩ := List.mem_iff_getElem.1 hc
  have := H i (by simpa using hi)
  rw [List.getD_eq_getElem?_getD, List.getElem?_eq_getElem hi] at this
  exact this
theorem all_bad {P : Int → Bool} {s : ByteArray} {k : Nat} (h : k < s.size) (hk : P (s[k].toNat : Int) = false) : (s.data.toList.all fun c => P (c.toNat : Int)) = false := by
  rw [List.all_eq_false]
  exact ⟨s[k], by show s.data.toList[k]'(by simpa using h) ∈ _; exact List.getElem_mem _, by rw [hk]; decide⟩
set_option maxHeartbeats 400000 in
theorem upper_any (n : Int) (w : World) : Calls Tryz.prog 103 #[.int .u8 n] w fun e w' => e = .returned (.bool (uppB n)) ∧ w = w' := by
  go_enter Tryz.func103, Tryz.ntmps103
  go_wp2
  all_goals (go_ret; exact ⟨by simp [uppB]; omega, rfl⟩)
set_option maxHeartbeats 400000 in
theorem isAirport_any (s : ByteArray) (w : World) (hs : s.size ≤ 140737488355328) : Calls Tryz.prog 133 #[.string s] w fun e w' => e = .returned (.bool (airB s.data.toList)) ∧ w = w' := by
  have hlen : s.data.toList.length = s.size := by simp
  by_cases h1 : s.size = 3
  · have hn : ((s.size : Int) != 3) = false := by simp; omega
    have H1 := Lib.hid (show decide (s.data.toList.length = 3) = true from by simp [h1])
    have hb1 : s.size ≤ 3 := by omega
    clear h1 hlen
    go_enter Tryz.func133, Tryz.ntmps133
    go_wp2_with fail
    go_loop [9] (fun i => ∃ k : Nat, k ≤ s.size ∧ i = .int .i64 k ∧ AllUpto uppB s k) (fun i => s.size - (intOf i).toNat)
    case atStart => exact ⟨0, Nat.zero_le _, rfl, fun j h => absurd h (Nat.not_lt_zero _)⟩
    case round =>
      obtain ⟨k, hk, rfl, hall⟩ := hrel
      by_cases hlt : k < s.size
      · go_wp2_with fail
        all_goals first
          | (go_ret
             exact ⟨ret_bool (by rw [airB, all_bad (P := uppB) hlt (by simp only [uppB, decide_eq_false_iff_not]; omega)]; simp), rfl⟩)
          | (go_round
             case rel => exact ⟨k + 1, by omega, by go_num, AllUpto.step hlt hall (by simp only [uppB, decide_eq_true_eq]; omega)⟩
             case measure => simp [intOf]; omega)
      · obtain rfl : k = s.size := by omega
        go_wp2_with fail
        go_ret
        exact ⟨ret_bool (by rw [airB, H1.out, hall.done]; simp), rfl⟩
  · have hn : ((s.size : Int) != 3) = true := by simp; omega
    have H1 := Lib.hid (show airB s.data.toList = false from by simp [airB, h1])
    clear h1 hlen
    go_enter Tryz.func133, Tryz.ntmps133
    go_wp2_with fail
    go_ret
    exact ⟨ret_bool (by rw [H1.out]), rfl⟩
set_option maxHeartbeats 800000 in
theorem isCode_any (s : ByteArray) (w : World) (hs : s.size ≤ 140737488355328) : Calls Tryz.prog 179 #[.string s] w fun e w' => e = .returned (.bool (codeB s.data.toList)) ∧ w = w' := by
  have hlen : s.data.toList.length = s.size := by simp
  by_cases h1 : s.size < 1 ∨ 8 < s.size
  · have hf := Lib.hid (show codeB s.data.toList = false from by simp [codeB]; omega)
    clear hlen
    rcases h1 with h1 | h1
    all_goals
      go_enter Tryz.func179, Tryz.ntmps179
      go_wp2_with fail
      go_ret
      exact ⟨ret_bool (by rw [hf.out]), rfl⟩
  · have H1 := Lib.hid (show decide (1 ≤ s.data.toList.length ∧ s.data.toList.length ≤ 8) = true from by simp; omega)
    clear hlen
    go_enter Tryz.func179, Tryz.ntmps179
    go_wp2_with fail
    go_loop [15] (fun i => ∃ k : Nat, k ≤ s.size ∧ i = .int .i64 k ∧ AllUpto cdeB s k) (fun i => s.size - (intOf i).toNat)
    case atStart => exact ⟨0, Nat.zero_le _, rfl, fun j h => absurd h (Nat.not_lt_zero _)⟩
    case round =>
      obtain ⟨k, hk, rfl, hall⟩ := hrel
      by_cases hlt : k < s.size
      · have hcase : (65 ≤ (s[k].toNat : Int) ∧ (s[k].toNat : Int) ≤ 90) ∨ (48 ≤ (s[k].toNat : Int) ∧ (s[k].toNat : Int) ≤ 57) ∨ (s[k].toNat : Int) < 48 ∨ (57 < (s[k].toNat : Int) ∧ (s[k].toNat : Int) < 65) ∨ 90 < (s[k].toNat : Int) := by omega
        rcases hcase with ⟨c1, c2⟩ | ⟨c1, c2⟩ | c1 | ⟨c1, c2⟩ | c1
        · have hz := Lib.hid (AllUpto.step (P := cdeB) hlt hall (by simp [cdeB, uppB, c1, c2]))
          go_wp2_with fail
          go_round
          case rel => exact ⟨k + 1, by omega, by go_num, hz.out⟩
          case measure => simp [intOf]; omega
        · have hz := Lib.hid (AllUpto.step (P := cdeB) hlt hall (by simp [cdeB, numB, c1, c2]))
          go_wp2_with fail
          go_round
          case rel => exact ⟨k + 1, by omega, by go_num, hz.out⟩
          case measure => simp [intOf]; omega
        all_goals
          have hz := Lib.hid (show codeB s.data.toList = false from by rw [codeB, all_bad (P := cdeB) hlt (by simp only [cdeB, uppB, numB, Bool.or_eq_false_iff, decide_eq_false_iff_not]; omega)]; simp)
          go_wp2_with fail
          all_goals first
            | (go_ret; exact ⟨ret_bool (by rw [hz.out]), rfl⟩)
            | (exfalso; simp only [Bool.not_eq_false', decide_eq_true_eq] at *; omega)
      · obtain rfl : k = s.size := by omega
        go_wp2_with fail
        go_ret
        exact ⟨ret_bool (by rw [codeB, H1.out, hall.done]; simp), rfl⟩
set_option maxHeartbeats 400000 in
theorem isAirportR_any (s : ByteArray) (w : World) (hs : s.size ≤ 140737488355328) : Calls Tryz.prog 53 #[.string s] w fun e w' => e = .returned (.bool (airB s.data.toList)) ∧ w = w' := by
  have hlen : s.data.toList.length = s.size := by simp
  by_cases h1 : s.size = 3
  · have hn : ((s.size : Int) == 3) = true := by simp; omega
    have H1 := Lib.hid (show decide (s.data.toList.length = 3) = true from by simp [h1])
    have g0 : 0 < s.size := by omega
    have g1 : 1 < s.size := by omega
    have g2 : 2 < s.size := by omega
    have G := Lib.hid (show uppB (s[0].toNat : Int) = true → uppB (s[1].toNat : Int) = true → uppB (s[2].toNat : Int) = true → airB s.data.toList = true from fun a b c => by
      rw [airB, AllUpto.done (P := uppB) (s := s) (fun j hj => by
        rw [getD_byte s j hj]
        have : j = 0 ∨ j = 1 ∨ j = 2 := by omega
        rcases this with rfl | rfl | rfl <;> assumption), H1.out]; rfl)
    have F := Lib.hid (fun (k : Nat) (hk : k < s.size) (hx : uppB (s[k].toNat : Int) = false) => show airB s.data.toList = false from by rw [airB, all_bad hk hx]; simp)
    clear h1 hlen
    cases u0 : uppB (s[0].toNat : Int)
    · have hz := Lib.hid (F.out 0 g0 u0)
      go_enter Tryz.func53, Tryz.ntmps53
      go_wp2_with (go_at_call 103; refine (upper_any _ _).mono ?_; rintro e w' ⟨rfl, rfl⟩)
      go_ret
      exact ⟨ret_bool (by rw [hz.out]), rfl⟩
    cases u1 : uppB (s[1].toNat : Int)
    · have hz := Lib.hid (F.out 1 g1 u1)
      go_enter Tryz.func53, Tryz.ntmps53
      go_wp2_with (go_at_call 103; refine (upper_any _ _).mono ?_; rintro e w' ⟨rfl, rfl⟩)
      go_ret
      exact ⟨ret_bool (by rw [hz.out]), rfl⟩
    cases u2 : uppB (s[2].toNat : Int)
    · have hz := Lib.hid (F.out 2 g2 u2)
      go_enter Tryz.func53, Tryz.ntmps53
      go_wp2_with (go_at_call 103; refine (upper_any _ _).mono ?_; rintro e w' ⟨rfl, rfl⟩)
      go_ret
      exact ⟨ret_bool (by rw [hz.out]), rfl⟩
    · have hz := Lib.hid (G.out u0 u1 u2)
      go_enter Tryz.func53, Tryz.ntmps53
      go_wp2_with (go_at_call 103; refine (upper_any _ _).mono ?_; rintro e w' ⟨rfl, rfl⟩)
      go_ret
      exact ⟨ret_bool (by rw [hz.out]), rfl⟩
  · have hn : ((s.size : Int) == 3) = false := by simp; omega
    have H1 := Lib.hid (show airB s.data.toList = false from by simp [airB, h1])
    clear h1 hlen
    go_enter Tryz.func53, Tryz.ntmps53
    go_wp2_with fail
    go_ret
    exact ⟨ret_bool (by rw [H1.out]), rfl⟩
set_option maxHeartbeats 800000 in
theorem isCodeR_any (s : ByteArray) (w : World) (hs : s.size ≤ 140737488355328) : Calls Tryz.prog 104 #[.string s] w fun e w' => e = .returned (.bool (codeB s.data.toList)) ∧ w = w' := by
  have hlen : s.data.toList.length = s.size := by simp
  go_enter Tryz.func104, Tryz.ntmps104
  go_wp2_with fail
  have HL := Lib.hid hlen
  clear hlen
  go_loop [3] (fun i => ∃ k : Nat, k ≤ s.size ∧ i = .int .i64 k ∧ AllUpto cdeB s k) (fun i => s.size - (intOf i).toNat)
  case atStart => exact ⟨0, Nat.zero_le _, rfl, fun j h => absurd h (Nat.not_lt_zero _)⟩
  case round =>
    obtain ⟨k, hk, rfl, hall⟩ := hrel
    by_cases hlt : k < s.size
    · cases u0 : uppB (s[k].toNat : Int)
      · cases u1 : numB (s[k].toNat : Int)
        · have hz := Lib.hid (show codeB s.data.toList = false from by rw [codeB, all_bad (P := cdeB) hlt (by simp [cdeB, u0, u1])]; simp)
          go_wp2_with (first | (go_at_call 103; refine (upper_any _ _).mono ?_; rintro e w' ⟨rfl, rfl⟩) | (go_at_call 143; refine (number_any _ _).mono ?_; rintro e w' ⟨rfl, rfl⟩))
          go_ret
          exact ⟨ret_bool (by rw [hz.out]), rfl⟩
        · have hz := Lib.hid (AllUpto.step (P := cdeB) hlt hall (by simp [cdeB, u1]))
          go_wp2_with (first | (go_at_call 103; refine (upper_any _ _).mono ?_; rintro e w' ⟨rfl, rfl⟩) | (go_at_call 143; refine (number_any _ _).mono ?_; rintro e w' ⟨rfl, rfl⟩))
          go_round
          case rel => exact ⟨k + 1, by omega, by go_num, hz.out⟩
          case measure => simp [intOf]; omega
      · have hz := Lib.hid (AllUpto.step (P := cdeB) hlt hall (by simp [cdeB, u0]))
        go_wp2_with (first | (go_at_call 103; refine (upper_any _ _).mono ?_; rintro e w' ⟨rfl, rfl⟩) | (go_at_call 143; refine (number_any _ _).mono ?_; rintro e w' ⟨rfl, rfl⟩))
        go_round
        case rel => exact ⟨k + 1, by omega, by go_num, hz.out⟩
        case measure => simp [intOf]; omega
    · obtain rfl : k = s.size := by omega
      have hz := Lib.hid (hall.done)
      go_wp2_with fail
      all_goals
        go_ret
        refine ⟨ret_bool ?_, rfl⟩
        rw [codeB, hz.out, HL.out]
        simp only [Bool.and_true, decide_eq_true_eq, Bool.false_eq_true, false_iff, true_iff]
        omega
end Go.Proofs.YtpgbckgjlgecpaaGreat
/- maps with string keys and with integer keys: what a look-up and an update do -/
namespace Go.Proofs.YtpgbckgjlgecpaaGreat
open Go.RowKit
set_option linter.unusedVariables false
set_option linter.unusedSimpArgs false

/-- a map's block: its entries, in the order in which they came -/
def MapAt (w : World) (b : Nat) (M : List (Value × Value)) : Prop := ∃ es c, w.heap[b]? = some (.map es c) ∧ es.toList.map (fun e => (e.key, e.val)) = M
/-- plain keys: strings, or integers of one kind -/
def plainKey : TypeDesc → Value → Prop
  | .string, .string _ => True
  | .int k, .int k' _ => k = k'
  | _, _ => False
theorem ba_beq (a b : ByteArray) : (a == b) = decide (a = b) := by
  rw [Bool.eq_iff_iff, decide_eq_true_eq]
  show (a.data == b.data) = true ↔ _
  rw [beq_iff_eq]
  exact ⟨ByteArray.ext, fun h => by rw [h]⟩
def keyEq : Value → Value → Bool
  | .string a, .string b => decide (a = b)
  | .int _ a, .int _ b => decide (a = b)
  | _, _ => false
def mget (M : List (Value × Value)) (k : Value) : Option Value := (M.find? fun p => keyEq k p.1).map (·.2)
def mput (M : List (Value × Value)) (k v : Value) : List (Value × Value) :=
  match M with
  | [] => [(k, v)]
  | p :: M => if keyEq k p.1 then (k, v) :: M else p :: mput M k v

theorem sameNow_plain {d : TypeDesc} {k q : Value} (hk : plainKey d k) (hq : plainKey d q) : Instr.sameNow d k q = some (keyEq k q) := by
  cases d <;> cases k <;> simp [plainKey] at hk <;> cases q <;> simp [plainKey] at hq <;> simp [Instr.sameNow, keyEq, ba_beq]
  subst hk; subst hq
  simp only [if_true, Option.some.injEq]
  rw [Bool.eq_iff_iff]; simp
theorem findNow_plain {d : TypeDesc} {k : Value} (hk : plainKey d k) : ∀ (es : List MapEntry) (i : Nat), (∀ e ∈ es, plainKey d e.key) →
    Instr.findNow d k es i = some ((es.zipIdx i).findSome? fun e => if keyEq k e.1.key then some (e.2, e.1.val) else none) := by
  intro es
  induction es with
  | nil => intro i _; rfl
  | cons e es ih =>
    intro i h
    rw [Instr.findNow, sameNow_plain hk (h e (by simp))]
    simp only [List.zipIdx_cons, List.findSome?_cons]
    cases hh : keyEq k e.key
    · simp only [hh]; exact ih (i + 1) (fun e he => h e (by simp [he]))
    · simp [hh]
theorem checkKey_succ {P : Program} {k : TypeId} {d : TypeDesc} (hk : P.underlying k = some d) {v : Value} (hv : plainKey d v) (em : Bool) (n : Nat) (w : World) : (Instr.checkKey em (n + 1) k v).run P w = .ok () w := by
  cases d <;> cases v <;> simp [plainKey] at hv <;> simp [Instr.checkKey, run_underlying hk]
theorem checkKey_plain {P : Program} {k : TypeId} {d : TypeDesc} (hk : P.underlying k = some d) {v : Value} (hv : plainKey d v) (em : Bool) (w : World) : (Instr.checkKey em 10000 k v).run P w = .ok () w := checkKey_succ hk hv em 9999 w
/-- the entry with a key -/
def efind (k : Value) (es : List MapEntry) : Option (Nat × Value) := (es.zipIdx 0).findSome? fun e => if keyEq k e.1.key then some (e.2, e.1.val) else none
theorem findKey_plain {P : Program} {k : TypeId} {d : TypeDesc} (hk : P.underlying k = some d) {v : Value} (hv : plainKey d v) (es : List MapEntry) (h : ∀ e ∈ es, plainKey d e.key) (w : World) :
    (Instr.findKey k v es).run P w = .ok (efind v es) w := by
  simp [Instr.findKey, run_underlying hk, findNow_plain hv es 0 h, efind]
theorem efind_mget (k : Value) : ∀ (es : List MapEntry) (i : Nat), ((es.zipIdx i).findSome? fun e => if keyEq k e.1.key then some (e.2, e.1.val) else none).map (·.2) = mget (es.map fun e => (e.key, e.val)) k := by
  intro es
  induction es with
  | nil => intro i; rfl
  | cons e es ih =>
    intro i
    simp only [List.zipIdx_cons, List.findSome?_cons, List.map_cons, mget, List.find?_cons]
    cases hh : keyEq k e.key
    · simp only [hh]; exact ih (i + 1)
    · simp [hh]
/-- a map's block, its keys plain -/
def MapOf (P : Program) (w : World) (b : Nat) (d : TypeDesc) (M : List (Value × Value)) : Prop := MapAt w b M ∧ ∀ p ∈ M, plainKey d p.1
theorem MapOf.keys {P : Program} {w : World} {b : Nat} {d : TypeDesc} {M : List (Value × Value)} (h : MapOf P w b d M) : ∃ es c, w.heap[b]? = some (.map es c) ∧ es.toList.map (fun e => (e.key, e.val)) = M ∧ ∀ e ∈ es.toList, plainKey d e.key := by
  obtain ⟨⟨es, c, h1, h2⟩, h3⟩ := h
  refine ⟨es, c, h1, h2, fun e he => ?_⟩
  exact h3 (e.key, e.val) (by rw [← h2]; exact List.mem_map.2 ⟨e, he, rfl⟩)
theorem run_lookup {P : Program} {w : World} {t k e : TypeId} {d : TypeDesc} {b : Nat} {M : List (Value × Value)} (ht : P.underlying t = some (.map k e)) (hk : P.underlying k = some d) (h : MapOf P w b d M)
    {key z : Value} (hkey : plainKey d key) (hz : (zeroValue e).run P w = .ok z w) : (Instr.lookup t (.map (some b)) key false).run P w = .ok ((mget M key).getD z) w := by
  obtain ⟨es, c, h1, h2, h3⟩ := h.keys
  have hf := findKey_plain hk hkey es.toList h3 w
  have hg := efind_mget key es.toList 0
  rw [h2] at hg
  change (efind key es.toList).map (·.2) = _ at hg
  cases he : efind key es.toList with
  | none =>
    rw [he] at hg hf
    simp at hg
    simp [Instr.lookup, run_underlying ht, getObj, Sem.run, h1, checkKey_plain hk hkey, hf, hz, ← hg]
  | some r =>
    rw [he] at hg hf
    obtain ⟨i, v⟩ := r
    simp at hg
    simp [Instr.lookup, run_underlying ht, getObj, Sem.run, h1, checkKey_plain hk hkey, hf, ← hg]
theorem run_lookup_ok {P : Program} {w : World} {t k e : TypeId} {d : TypeDesc} {b : Nat} {M : List (Value × Value)} (ht : P.underlying t = some (.map k e)) (hk : P.underlying k = some d) (h : MapOf P w b d M)
    {key z : Value} (hkey : plainKey d key) (hz : (zeroValue e).run P w = .ok z w) : (Instr.lookup t (.map (some b)) key true).run P w = .ok (.tuple #[(mget M key).getD z, .bool (mget M key).isSome]) w := by
  obtain ⟨es, c, h1, h2, h3⟩ := h.keys
  have hf := findKey_plain hk hkey es.toList h3 w
  have hg := efind_mget key es.toList 0
  rw [h2] at hg
  change (efind key es.toList).map (·.2) = _ at hg
  cases he : efind key es.toList with
  | none =>
    rw [he] at hg hf
    simp at hg
    simp [Instr.lookup, run_underlying ht, getObj, Sem.run, h1, checkKey_plain hk hkey, hf, hz, ← hg]
  | some r =>
    rw [he] at hg hf
    obtain ⟨i, v⟩ := r
    simp at hg
    simp [Instr.lookup, run_underlying ht, getObj, Sem.run, h1, checkKey_plain hk hkey, hf, ← hg]
theorem efind_some_at (k : Value) : ∀ (es : List MapEntry) (n i : Nat) (v : Value), ((es.zipIdx n).findSome? fun e => if keyEq k e.1.key then some (e.2, e.1.val) else none) = some (i, v) →
    n ≤ i ∧ ∃ h : i - n < es.length, keyEq k es[i - n].key = true ∧ ∀ (f : MapEntry → MapEntry) (u : Value), (∀ e, (f e).key = k ∧ (f e).val = u) → (es.modify (i - n) f).map (fun e => (e.key, e.val)) = mput (es.map fun e => (e.key, e.val)) k u := by
  intro es
  induction es with
  | nil => intro n i v h; simp at h
  | cons e es ih =>
    intro n i v h
    simp only [List.zipIdx_cons, List.findSome?_cons] at h
    cases hh : keyEq k e.key
    · simp only [hh] at h
      obtain ⟨h1, h2, h3, h4⟩ := ih (n + 1) i v (by simpa using h)
      obtain ⟨m, hm⟩ : ∃ m, i - n = m + 1 := ⟨i - n - 1, by omega⟩
      have hm2 : i - (n + 1) = m := by omega
      simp only [hm2] at h2 h3 h4
      simp only [hm]
      refine ⟨by omega, by simpa using h2, by simpa using h3, fun f u hf => ?_⟩
      simp only [List.modify_succ_cons, List.map_cons, mput, hh]
      rw [h4 f u hf]
      simp
    · simp [hh] at h
      obtain ⟨rfl, _⟩ := h
      simp only [Nat.sub_self]
      refine ⟨Nat.le_refl _, by simp, by simpa using hh, fun f u hf => ?_⟩
      simp [mput, hh, hf e]
theorem efind_none (k : Value) (u : Value) : ∀ (es : List MapEntry) (n : Nat), ((es.zipIdx n).findSome? fun e => if keyEq k e.1.key then some (e.2, e.1.val) else none) = none → mput (es.map fun e => (e.key, e.val)) k u = (es.map fun e => (e.key, e.val)) ++ [(k, u)] := by
  intro es
  induction es with
  | nil => intro n _; rfl
  | cons e es ih =>
    intro n h
    simp only [List.zipIdx_cons, List.findSome?_cons] at h
    cases hh : keyEq k e.key
    · simp only [hh] at h
      simp only [List.map_cons, mput, hh]
      rw [ih (n + 1) (by simpa using h)]
      simp
    · simp [hh] at h
theorem sameBits_plain {d : TypeDesc} {k q : Value} (hk : plainKey d k) (hq : plainKey d q) (h : keyEq k q = true) (n : Nat) : Instr.sameBits n q k = true := by
  cases d <;> cases k <;> simp [plainKey] at hk <;> cases q <;> simp [plainKey] at hq <;> simp [keyEq] at h <;> subst h <;> cases n <;> simp [Instr.sameBits, ba_beq]
  all_goals (subst hk; subst hq; rfl)
theorem run_update {P : Program} {w : World} {t k e : TypeId} {d : TypeDesc} {b : Nat} {M : List (Value × Value)} (ht : P.underlying t = some (.map k e)) (hk : P.underlying k = some d) (h : MapOf P w b d M)
    {key : Value} (v : Value) (hkey : plainKey d key) : ∃ w', (Instr.mapUpdate t (.map (some b)) key v).run P w = .ok () w' ∧ MapOf P w' b d (mput M key v) ∧ w.grownBy w' (some b) := by
  obtain ⟨es, c, h1, h2, h3⟩ := h.keys
  have hf := findKey_plain hk hkey es.toList h3 w
  have hlt : b < w.heap.size := (Array.getElem?_eq_some_iff.1 h1).1
  have hall : ∀ p ∈ mput M key v, plainKey d p.1 := by
    have hM := h.2
    clear h h2 hf
    induction M with
    | nil => intro p hp; simp [mput] at hp; subst hp; exact hkey
    | cons q M ih =>
      intro p hp
      rw [mput] at hp
      split at hp
      · rcases List.mem_cons.1 hp with rfl | hp
        · exact hkey
        · exact hM p (by simp [hp])
      · rcases List.mem_cons.1 hp with rfl | hp
        · exact hM p (by simp)
        · exact ih (fun p hp => hM p (by simp [hp])) p hp
  have hgr : ∀ o : Obj, w.grownBy { w with heap := w.heap.setIfInBounds b o } (some b) := fun o => ⟨rfl, rfl, rfl, by simp, fun i hi hne => by
    have : b ≠ i := fun e => hne (by rw [e])
    simp [Array.getElem?_setIfInBounds, this]⟩
  cases he : efind key es.toList with
  | none =>
    rw [he] at hf
    refine ⟨{ w with heap := w.heap.setIfInBounds b (.map (es.push { key, val := v, born := c }) (c + 1)) }, ?_, ⟨⟨es.push { key, val := v, born := c }, c + 1, by simp [Array.getElem?_setIfInBounds, hlt], ?_⟩, hall⟩, hgr _⟩
    · simp [Instr.mapUpdate, run_underlying ht, getObj, setObj, Sem.run, h1, checkKey_plain hk hkey, hf]
    · have := efind_none key v es.toList 0 he
      rw [h2] at this
      rw [this, ← h2]
      simp
  | some r =>
    obtain ⟨i, u⟩ := r
    rw [he] at hf
    obtain ⟨_, g1, g2, g3⟩ := efind_some_at key es.toList 0 i u he
    simp only [Nat.sub_zero] at g1 g2 g3
    have g1' : i < es.size := by simpa using g1
    have hold : plainKey d es[i].key := h3 es[i] (by simp)
    have hsb := sameBits_plain hkey hold (by simpa using g2) 10000
    refine ⟨{ w with heap := w.heap.setIfInBounds b (.map (es.modify i fun e => { e with key, val := v }) c) }, ?_, ⟨⟨es.modify i fun e => { e with key, val := v }, c, by simp [Array.getElem?_setIfInBounds, hlt], ?_⟩, hall⟩, hgr _⟩
    · have hks : (Instr.keyThatStays (((es[i]?).map (·.key)).getD key) key).run P w = .ok key w := by
        rw [Array.getElem?_eq_getElem g1']
        simp only [Option.map_some, Option.getD_some]
        unfold Instr.keyThatStays
        rw [if_pos hsb]
        rfl
      simp [Instr.mapUpdate, run_underlying ht, getObj, setObj, Sem.run, h1, checkKey_plain hk hkey, hf, hks]
    · rw [← h2, ← g3 (fun e => { e with key, val := v }) v (fun e => ⟨rfl, rfl⟩)]
      simp
theorem MapOf.below {P : Program} {w w' : World} {b : Nat} {d : TypeDesc} {M : List (Value × Value)} (h : MapOf P w b d M) (hb : Below w.heap.size w w') : MapOf P w' b d M := by
  obtain ⟨⟨es, c, h1, h2⟩, h3⟩ := h
  exact ⟨⟨es, c, (hb.block b (Array.getElem?_eq_some_iff.1 h1).1).trans h1, h2⟩, h3⟩
theorem MapOf.lt {P : Program} {w : World} {b : Nat} {d : TypeDesc} {M : List (Value × Value)} (h : MapOf P w b d M) : b < w.heap.size := by
  obtain ⟨⟨es, c, h1, _⟩, _⟩ := h
  exact (Array.getElem?_eq_some_iff.1 h1).1
theorem MapOf.grown {P : Program} {w w' : World} {b : Nat} {d : TypeDesc} {M : List (Value × Value)} {row : Option Nat} (h : MapOf P w b d M) (hg : w.grownBy w' row) (hne : some b ≠ row) : MapOf P w' b d M := by
  have hlt := h.lt
  obtain ⟨⟨es, c, h1, h2⟩, h3⟩ := h
  exact ⟨⟨es, c, (hg.block b hlt hne).trans h1, h2⟩, h3⟩
theorem MapOf.alloc {P : Program} {w : World} {b : Nat} {d : TypeDesc} {M : List (Value × Value)} (h : MapOf P w b d M) (o : Obj) : MapOf P (w.alloc o) b d M := h.below ((Below.refl _ _).alloc (Nat.le_refl _) _)
theorem MapOf.drewN {P : Program} {w : World} {b : Nat} {d : TypeDesc} {M : List (Value × Value)} (h : MapOf P w b d M) (n : Nat) : MapOf P (w.drewN n) b d M := h
theorem MapOf.made (P : Program) (w : World) (d : TypeDesc) : MapOf P (w.alloc (.map #[] 0)) w.heap.size d [] := by
  refine ⟨⟨#[], 0, ?_, rfl⟩, fun p hp => by simp at hp⟩
  show (w.heap.push _)[w.heap.size]? = _
  simp
section
variable {P : Program} {ops : Array Oper} {Q : Exit → Act → World → Prop} {a : Act} {w : World} {rest : List Oper} {o : Oper}
/-- an operation that runs and yields a value -/
theorem wpList_value (hw : Region.wanted o (yielded ops a.tmps) = true) {v : Value} {w' : World} (hrun : (execOp a.eval o).run P w = .ok (.value v) w') (h : wpList P ops Q rest (a.put o.dst v) w') : wpList P ops Q (o :: rest) a w :=
  wpList_step fun K hK => by
    rw [if_pos hw]
    unfold Oper.wp
    rw [hrun]
    exact hK _ _ h
/-- m[k] -/
theorem wpList_look (hw : Region.wanted o (yielded ops a.tmps) = true) {t k e : TypeId} {m x : Operand} (hop : o.op = Op.lookup t m x false) {d : TypeDesc} {b : Nat} {M : List (Value × Value)} (ht : P.underlying t = some (.map k e)) (hk : P.underlying k = some d)
    (hm : a.eval m = .map (some b)) (hM : MapOf P w b d M) {key z : Value} (hx : a.eval x = key) (hkey : plainKey d key) (hz : (zeroValue e).run P w = .ok z w) (h : wpList P ops Q rest (a.put o.dst ((mget M key).getD z)) w) : wpList P ops Q (o :: rest) a w :=
  wpList_value hw (by simp [execOp, hop, hm, hx, run_lookup ht hk hM hkey hz, Result.andThen]) h
/-- v, ok := m[k] -/
theorem wpList_look_ok (hw : Region.wanted o (yielded ops a.tmps) = true) {t k e : TypeId} {m x : Operand} (hop : o.op = Op.lookup t m x true) {d : TypeDesc} {b : Nat} {M : List (Value × Value)} (ht : P.underlying t = some (.map k e)) (hk : P.underlying k = some d)
    (hm : a.eval m = .map (some b)) (hM : MapOf P w b d M) {key z : Value} (hx : a.eval x = key) (hkey : plainKey d key) (hz : (zeroValue e).run P w = .ok z w) (h : wpList P ops Q rest (a.put o.dst (.tuple #[(mget M key).getD z, .bool (mget M key).isSome])) w) : wpList P ops Q (o :: rest) a w :=
  wpList_value hw (by simp [execOp, hop, hm, hx, run_lookup_ok ht hk hM hkey hz, Result.andThen]) h
/-- m[k] = v -/
theorem wpList_mset (hw : Region.wanted o (yielded ops a.tmps) = true) {t k e : TypeId} {m x y : Operand} (hop : o.op = Op.mapUpdate t m x y) {d : TypeDesc} {b : Nat} {M : List (Value × Value)} (ht : P.underlying t = some (.map k e)) (hk : P.underlying k = some d)
    (hm : a.eval m = .map (some b)) (hM : MapOf P w b d M) {key v : Value} (hx : a.eval x = key) (hy : a.eval y = v) (hkey : plainKey d key)
    (h : ∀ w', MapOf P w' b d (mput M key v) → w.grownBy w' (some b) → wpList P ops Q rest (a.put o.dst undef) w') : wpList P ops Q (o :: rest) a w := by
  obtain ⟨w', h1, h2, h3⟩ := run_update ht hk hM v hkey
  refine wpList_step fun K hK => ?_
  rw [if_pos hw]
  unfold Oper.wp
  have : (execOp a.eval o).run P w = .ok .skip w' := by simp [execOp, hop, hm, hx, hy, h1, Result.andThen]
  rw [this]
  exact hK _ _ (h w' h2 h3)
end
end Go.Proofs.YtpgbckgjlgecpaaGreat
/- timetables: plain facts and how they lie in memory -/
namespace Go.Proofs.YtpgbckgjlgecpaaGreat
open Go.RowKit
set_option linter.unusedVariables false
set_option linter.unusedSimpArgs false

structure ZoneM where
  name : ByteArray
  off : Int
  sh : List (Int × Int)
structure AirM where
  code : ByteArray
  zone : ByteArray
structure FlightM where
  num : ByteArray
  frm : ByteArray
  to : ByteArray
  dep : Int
  arr : Int
  typ : ByteArray
  n0 : Int
  n1 : Int
  n2 : Int
structure TTM where
  zones : List ZoneM
  airs : List AirM
  fls : List FlightM
/-- is the word in the list? -/
def hasB (l : List ByteArray) (s : ByteArray) : Bool := l.any fun x => decide (s = x)
def zval (z : ZoneM) : Int := valZone z.name.data.toList z.off z.sh
/-- the zones' errors; the names so far -/
def valZ : List ByteArray → List ZoneM → Int × List ByteArray
  | acc, [] => (0, acc)
  | acc, z :: l => if zval z ≠ 0 then (zval z, acc) else if hasB acc z.name = true then (7, acc) else valZ (acc ++ [z.name]) l
def valA (zs : List ByteArray) : List ByteArray → List AirM → Int × List ByteArray
  | acc, [] => (0, acc)
  | acc, a :: l => if airB a.code.data.toList = false then (1, acc) else if hasB acc a.code = true then (7, acc) else if hasB zs a.zone = false then (6, acc) else valA zs (acc ++ [a.code]) l
def needOk (n : Int) : Bool := decide (0 ≤ n ∧ n ≤ 8)
def flTime (f : FlightM) : Bool := decide (2880 ≤ f.dep ∧ f.arr ≤ 52593120 ∧ f.dep < f.arr ∧ f.arr - f.dep ≤ 1440)
def valFl (ar : List ByteArray) (f : FlightM) : Int :=
  if (codeB f.num.data.toList && nameB f.typ.data.toList) = false then 1 else if (hasB ar f.frm && hasB ar f.to) = false then 6 else if (f.frm.toList == f.to.toList) = true then 14
  else if flTime f = false then 5 else if (needOk f.n0 && needOk f.n1 && needOk f.n2) = false then 5 else 0
def beforeB (f g : FlightM) : Bool := if f.dep ≠ g.dep then decide (f.dep < g.dep) else Op.bytesLess f.num.toList g.num.toList
def valF (ar : List ByteArray) : Option FlightM → List FlightM → Int
  | _, [] => 0
  | p, f :: l => if valFl ar f ≠ 0 then valFl ar f else if p.any (fun g => !beforeB g f) = true then 8 else valF ar (some f) l
def valTT (t : TTM) : Int :=
  if 16 < t.zones.length ∨ 64 < t.airs.length ∨ 200 < t.fls.length then 10
  else if (valZ [] t.zones).1 ≠ 0 then (valZ [] t.zones).1
  else if (valA (valZ [] t.zones).2 [] t.airs).1 ≠ 0 then (valA (valZ [] t.zones).2 [] t.airs).1
  else valF (valA (valZ [] t.zones).2 [] t.airs).2 none t.fls

def shRT : RT (Int × Int) := RT.prod RT.int RT.int
def zoneRT : RT ZoneM where
  n := 3
  rep w cs z := ∃ a cap, cs = [.string z.name, .int .i64 z.off, .slice a z.sh.length cap] ∧ z.name.size ≤ 140737488355328 ∧ (Lit.int .i64 z.off).wf = true ∧ z.sh.length ≤ 140737488355328 ∧ SlAt shRT w a z.sh
  len := by rintro w cs z ⟨_, _, rfl, _⟩; rfl
  mono := by
    rintro w w' cs z ⟨a, cap, h1, h2, h3, h4, h5⟩ hw
    exact ⟨a, cap, h1, h2, h3, h4, h5.below hw⟩
def airRT : RT AirM where
  n := 2
  rep w cs a := cs = [.string a.code, .string a.zone] ∧ a.code.size ≤ 140737488355328 ∧ a.zone.size ≤ 140737488355328
  len := by rintro w cs z ⟨rfl, _⟩; rfl
  mono := by rintro w w' cs z h _; exact h
def flightRT : RT FlightM where
  n := 9
  rep w cs f := cs = [.string f.num, .string f.frm, .string f.to, .int .i64 f.dep, .int .i64 f.arr, .string f.typ, .int .i64 f.n0, .int .i64 f.n1, .int .i64 f.n2] ∧
    (f.num.size ≤ 140737488355328 ∧ f.frm.size ≤ 140737488355328 ∧ f.to.size ≤ 140737488355328 ∧ f.typ.size ≤ 140737488355328) ∧ (Lit.int .i64 f.dep).wf = true ∧ (Lit.int .i64 f.arr).wf = true
  len := by rintro w cs z ⟨rfl, _⟩; rfl
  mono := by rintro w w' cs z h _; exact h
def zAt (l : List ZoneM) (k : Nat) : ZoneM := l.getD k ⟨ByteArray.empty, 0, []⟩
def aAt (l : List AirM) (k : Nat) : AirM := l.getD k ⟨ByteArray.empty, ByteArray.empty⟩
def fAt (l : List FlightM) (k : Nat) : FlightM := l.getD k ⟨ByteArray.empty, ByteArray.empty, ByteArray.empty, 0, 0, ByteArray.empty, 0, 0, 0⟩
theorem z_drop (l : List ZoneM) (k : Nat) (h : k < l.length) : l.drop k = zAt l k :: l.drop (k + 1) := by
  rw [zAt, List.drop_eq_getElem_cons h, List.getD_eq_getElem?_getD, List.getElem?_eq_getElem h]; rfl
theorem a_drop (l : List AirM) (k : Nat) (h : k < l.length) : l.drop k = aAt l k :: l.drop (k + 1) := by
  rw [aAt, List.drop_eq_getElem_cons h, List.getD_eq_getElem?_getD, List.getElem?_eq_getElem h]; rfl
theorem f_drop (l : List FlightM) (k : Nat) (h : k < l.length) : l.drop k = fAt l k :: l.drop (k + 1) := by
  rw [fAt, List.drop_eq_getElem_cons h, List.getD_eq_getElem?_getD, List.getElem?_eq_getElem h]; rfl
theorem shAt_of_slAt {w : World} {a : Option Addr} {l : List (Int × Int)} (h : SlAt shRT w a l) : ShAt w a l := by
  rcases h with h | ⟨b, off, ha, hb, hc⟩
  · exact .inl h
  · refine .inr ⟨b, off, ha, hb, fun i hi => ?_⟩
    obtain ⟨cs, h1, c, d, rfl, ⟨rfl, _⟩, rfl, _⟩ := hc i hi
    have e : shAt l i = l[i] := by rw [shAt, List.getD_eq_getElem?_getD, List.getElem?_eq_getElem hi]; rfl
    rw [e]
    have g0 := h1 0 (by simp)
    have g1 := h1 1 (by simp)
    exact ⟨by simpa [shRT, RT.prod, RT.int] using g0, by simpa [shRT, RT.prod, RT.int] using g1⟩
/-- the cells of zones -/
def ZoneCells (w : World) (b off : Nat) (l : List ZoneM) : Prop :=
  ∀ i, i < l.length → ∃ a cap, w.cell? ⟨b, off + i * 3, none⟩ = some (.string (zAt l i).name) ∧ w.cell? ⟨b, off + i * 3 + 1, none⟩ = some (.int .i64 (zAt l i).off) ∧ w.cell? ⟨b, off + i * 3 + 2, none⟩ = some (.slice a (zAt l i).sh.length cap) ∧
    (zAt l i).name.size ≤ 140737488355328 ∧ (zAt l i).sh.length ≤ 140737488355328 ∧ ShAt w a (zAt l i).sh
theorem ZoneCells.below {w w' : World} {b off : Nat} {l : List ZoneM} (h : ZoneCells w b off l) (hb : b < w.heap.size) (hw : Below w.heap.size w w') : ZoneCells w' b off l := by
  intro i hi
  obtain ⟨a, cap, h1, h2, h3, h4, h5, h6⟩ := h i hi
  exact ⟨a, cap, (hw.cell (p := ⟨b, off + i * 3, none⟩) hb).trans h1, (hw.cell (p := ⟨b, off + i * 3 + 1, none⟩) hb).trans h2, (hw.cell (p := ⟨b, off + i * 3 + 2, none⟩) hb).trans h3, h4, h5, h6.below hw⟩
theorem zone_cells {w : World} {a : Option Addr} {l : List ZoneM} (h : SlAt zoneRT w a l) (hl : 0 < l.length) : ∃ b off, a = some ⟨b, off, none⟩ ∧ b < w.heap.size ∧ ZoneCells w b off l := by
  obtain ⟨b, off, ha, hb, hc⟩ := h.at hl
  refine ⟨b, off, ha, hb, fun i hi => ?_⟩
  obtain ⟨cs, h1, a', cap', rfl, h2, _, h3, h4⟩ := hc i hi
  have e : zAt l i = l[i] := by rw [zAt, List.getD_eq_getElem?_getD, List.getElem?_eq_getElem hi]; rfl
  rw [e]
  have g0 := h1 0 (by simp)
  have g1 := h1 1 (by simp)
  have g2 := h1 2 (by simp)
  exact ⟨a', cap', by simpa [zoneRT] using g0, by simpa [zoneRT] using g1, by simpa [zoneRT] using g2, h2, h3, shAt_of_slAt h4⟩
def AirCells (w : World) (b off : Nat) (l : List AirM) : Prop :=
  ∀ i, i < l.length → w.cell? ⟨b, off + i * 2, none⟩ = some (.string (aAt l i).code) ∧ w.cell? ⟨b, off + i * 2 + 1, none⟩ = some (.string (aAt l i).zone) ∧ (aAt l i).code.size ≤ 140737488355328 ∧ (aAt l i).zone.size ≤ 140737488355328
theorem AirCells.below {w w' : World} {b off : Nat} {l : List AirM} (h : AirCells w b off l) (hb : b < w.heap.size) (hw : Below w.heap.size w w') : AirCells w' b off l := by
  intro i hi
  obtain ⟨h1, h2, h3⟩ := h i hi
  exact ⟨(hw.cell (p := ⟨b, off + i * 2, none⟩) hb).trans h1, (hw.cell (p := ⟨b, off + i * 2 + 1, none⟩) hb).trans h2, h3⟩
theorem air_cells {w : World} {a : Option Addr} {l : List AirM} (h : SlAt airRT w a l) (hl : 0 < l.length) : ∃ b off, a = some ⟨b, off, none⟩ ∧ b < w.heap.size ∧ AirCells w b off l := by
  obtain ⟨b, off, ha, hb, hc⟩ := h.at hl
  refine ⟨b, off, ha, hb, fun i hi => ?_⟩
  obtain ⟨cs, h1, rfl, h2, h3⟩ := hc i hi
  have e : aAt l i = l[i] := by rw [aAt, List.getD_eq_getElem?_getD, List.getElem?_eq_getElem hi]; rfl
  rw [e]
  have g0 := h1 0 (by simp)
  have g1 := h1 1 (by simp)
  exact ⟨by simpa [airRT] using g0, by simpa [airRT] using g1, h2, h3⟩
def FlightCells (w : World) (b off : Nat) (l : List FlightM) : Prop :=
  ∀ i, i < l.length → (w.cell? ⟨b, off + i * 9, none⟩ = some (.string (fAt l i).num) ∧ w.cell? ⟨b, off + i * 9 + 1, none⟩ = some (.string (fAt l i).frm) ∧ w.cell? ⟨b, off + i * 9 + 2, none⟩ = some (.string (fAt l i).to) ∧
    w.cell? ⟨b, off + i * 9 + 3, none⟩ = some (.int .i64 (fAt l i).dep) ∧ w.cell? ⟨b, off + i * 9 + 4, none⟩ = some (.int .i64 (fAt l i).arr) ∧ w.cell? ⟨b, off + i * 9 + 5, none⟩ = some (.string (fAt l i).typ) ∧
    w.cell? ⟨b, off + i * 9 + 6, none⟩ = some (.int .i64 (fAt l i).n0) ∧ w.cell? ⟨b, off + i * 9 + 7, none⟩ = some (.int .i64 (fAt l i).n1) ∧ w.cell? ⟨b, off + i * 9 + 8, none⟩ = some (.int .i64 (fAt l i).n2)) ∧
    ((fAt l i).num.size ≤ 140737488355328 ∧ (fAt l i).frm.size ≤ 140737488355328 ∧ (fAt l i).to.size ≤ 140737488355328 ∧ (fAt l i).typ.size ≤ 140737488355328)
theorem FlightCells.below {w w' : World} {b off : Nat} {l : List FlightM} (h : FlightCells w b off l) (hb : b < w.heap.size) (hw : Below w.heap.size w w') : FlightCells w' b off l := by
  intro i hi
  obtain ⟨⟨h0, h1, h2, h3, h4, h5, h6, h7, h8⟩, hs⟩ := h i hi
  have g := fun (o : Nat) => hw.cell (p := ⟨b, o, none⟩) hb
  exact ⟨⟨(g _).trans h0, (g _).trans h1, (g _).trans h2, (g _).trans h3, (g _).trans h4, (g _).trans h5, (g _).trans h6, (g _).trans h7, (g _).trans h8⟩, hs⟩
theorem flight_cells {w : World} {a : Option Addr} {l : List FlightM} (h : SlAt flightRT w a l) (hl : 0 < l.length) : ∃ b off, a = some ⟨b, off, none⟩ ∧ b < w.heap.size ∧ FlightCells w b off l := by
  obtain ⟨b, off, ha, hb, hc⟩ := h.at hl
  refine ⟨b, off, ha, hb, fun i hi => ?_⟩
  obtain ⟨cs, h1, rfl, hs, _⟩ := hc i hi
  have e : fAt l i = l[i] := by rw [fAt, List.getD_eq_getElem?_getD, List.getElem?_eq_getElem hi]; rfl
  rw [e]
  have g := fun j (hj : j < 9) => h1 j (by simpa using hj)
  refine ⟨⟨?_, ?_, ?_, ?_, ?_, ?_, ?_, ?_, ?_⟩, hs⟩
  · simpa [flightRT] using g 0 (by omega)
  · simpa [flightRT] using g 1 (by omega)
  · simpa [flightRT] using g 2 (by omega)
  · simpa [flightRT] using g 3 (by omega)
  · simpa [flightRT] using g 4 (by omega)
  · simpa [flightRT] using g 5 (by omega)
  · simpa [flightRT] using g 6 (by omega)
  · simpa [flightRT] using g 7 (by omega)
  · simpa [flightRT] using g 8 (by omega)
/-- a map that holds a set of words -/
def setMap (l : List ByteArray) : List (Value × Value) := l.map fun s => (.string s, .bool true)
theorem mget_setMap (l : List ByteArray) (s : ByteArray) : (mget (setMap l) (.string s)).getD (.bool false) = .bool (hasB l s) := by
  induction l with
  | nil => rfl
  | cons x l ih =>
    by_cases e : s = x
    · subst e; simp [mget, setMap, keyEq, hasB]
    · have : mget (setMap (x :: l)) (.string s) = mget (setMap l) (.string s) := by simp [mget, setMap, keyEq, e]
      rw [this, ih]
      simp [hasB, e]
theorem mput_setMap (l : List ByteArray) (s : ByteArray) (h : hasB l s = false) : mput (setMap l) (.string s) (.bool true) = setMap (l ++ [s]) := by
  induction l with
  | nil => rfl
  | cons x l ih =>
    simp only [hasB, List.any_cons, Bool.or_eq_false_iff, decide_eq_false_iff_not] at h
    have := ih h.2
    simp only [setMap, List.map_cons, List.cons_append] at this ⊢
    rw [mput]
    simp only [keyEq, h.1, decide_false]
    rw [if_neg (by decide), this]
end Go.Proofs.YtpgbckgjlgecpaaGreat
