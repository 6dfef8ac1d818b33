/- merged texts: Ex0 Gr1 Gr2 Gr3 Gr4 Co0 TT TV TV1 Co1 Co2 Co3 -/
import Derived.Lib.Bytealg
import Derived.Lib.IndexMore
import Derived.BigCall
import Derived.Outline
import Derived.OneCell
import Derived.Lib.BufferOwn
import Derived.DeepKeys3
import Derived.Test.YtpgbckgjlgecpaaGreatG1
/- expressions: plain facts and how they lie in memory -/
namespace Go.Proofs.YtpgbckgjlgecpaaGreat
open Go.RowKit
set_option linter.unusedVariables false
set_option linter.unusedSimpArgs false

inductive ExprM where
  | mk (op num : Int) (name : ByteArray) (args : List ExprM)
def ExprM.op : ExprM → Int
  | .mk o _ _ _ => o
def ExprM.num : ExprM → Int
  | .mk _ n _ _ => n
def ExprM.name : ExprM → ByteArray
  | .mk _ _ s _ => s
def ExprM.args : ExprM → List ExprM
  | .mk _ _ _ l => l
def eAt (l : List ExprM) (k : Nat) : ExprM := l.getD k (.mk 0 0 ByteArray.empty [])
theorem e_drop (l : List ExprM) (k : Nat) (h : k < l.length) : l.drop k = eAt l k :: l.drop (k + 1) := by
  rw [eAt, List.drop_eq_getElem_cons h, List.getD_eq_getElem?_getD, List.getElem?_eq_getElem h]; rfl
theorem eAt_mem {l : List ExprM} {k : Nat} (h : k < l.length) : eAt l k ∈ l := by
  unfold eAt; rw [List.getD_eq_getElem?_getD, List.getElem?_eq_getElem h]; exact List.getElem_mem h
theorem size_arg {x : ExprM} {k : Nat} (h : k < x.args.length) : SizeOf.sizeOf (eAt x.args k) < SizeOf.sizeOf x := by
  cases x with
  | mk o n s l =>
    have := List.sizeOf_lt_of_mem (eAt_mem (l := l) h)
    simp only [ExprM.args, ExprM.mk.sizeOf_spec]
    omega

/-- expressions one behind the other, all that they hold in blocks below B -/
inductive ExprsAt (B : Nat) (w : World) : Nat → Nat → List ExprM → Prop
  | nil (b off : Nat) : ExprsAt B w b off []
  | cons {b off b' off' : Nat} {x : ExprM} {l : List ExprM} {a : Option Addr} {cap : Nat} (hb : b < B)
      (h0 : w.cell? ⟨b, off, none⟩ = some (.int .i64 x.op)) (h1 : w.cell? ⟨b, off + 1, none⟩ = some (.int .i64 x.num)) (h2 : w.cell? ⟨b, off + 2, none⟩ = some (.string x.name))
      (h3 : w.cell? ⟨b, off + 3, none⟩ = some (.slice a x.args.length cap)) (hs : x.name.size ≤ 140737488355328) (hl : x.args.length ≤ 140737488355328)
      (g0 : (Lit.int .i64 x.op).wf = true) (g1 : (Lit.int .i64 x.num).wf = true) (ha : x.args ≠ [] → a = some ⟨b', off', none⟩) (hx : ExprsAt B w b' off' x.args) (ht : ExprsAt B w b (off + 4) l) : ExprsAt B w b off (x :: l)
/-- a slice of expressions -/
def ArgsAt (B : Nat) (w : World) (a : Option Addr) (l : List ExprM) : Prop := ∃ b off, (l ≠ [] → a = some ⟨b, off, none⟩) ∧ ExprsAt B w b off l
/-- an expression's own numbers are in range -/
def ExprFit (x : ExprM) : Prop := x.name.size ≤ 140737488355328 ∧ x.args.length ≤ 140737488355328 ∧ (Lit.int .i64 x.op).wf = true ∧ (Lit.int .i64 x.num).wf = true

theorem ExprsAt.keep {B : Nat} {w w' : World} {b off : Nat} {l : List ExprM} (h : ExprsAt B w b off l) (hw : Below B w w') : ExprsAt B w' b off l := by
  induction h with
  | nil b off => exact .nil b off
  | cons hb h0 h1 h2 h3 hs hl g0 g1 ha hx ht ih1 ih2 =>
    exact .cons hb ((hw.cell (p := ⟨_, _, none⟩) hb).trans h0) ((hw.cell (p := ⟨_, _, none⟩) hb).trans h1) ((hw.cell (p := ⟨_, _, none⟩) hb).trans h2) ((hw.cell (p := ⟨_, _, none⟩) hb).trans h3) hs hl g0 g1 ha ih1 ih2
theorem ExprsAt.more {B B' : Nat} {w : World} {b off : Nat} {l : List ExprM} (h : ExprsAt B w b off l) (hB : B ≤ B') : ExprsAt B' w b off l := by
  induction h with
  | nil b off => exact .nil b off
  | cons hb h0 h1 h2 h3 hs hl g0 g1 ha hx ht ih1 ih2 => exact .cons (Nat.lt_of_lt_of_le hb hB) h0 h1 h2 h3 hs hl g0 g1 ha ih1 ih2
theorem ArgsAt.keep {B : Nat} {w w' : World} {a : Option Addr} {l : List ExprM} (h : ArgsAt B w a l) (hw : Below B w w') : ArgsAt B w' a l := by
  obtain ⟨b, off, h1, h2⟩ := h
  exact ⟨b, off, h1, h2.keep hw⟩
theorem ArgsAt.more {B B' : Nat} {w : World} {a : Option Addr} {l : List ExprM} (h : ArgsAt B w a l) (hB : B ≤ B') : ArgsAt B' w a l := by
  obtain ⟨b, off, h1, h2⟩ := h
  exact ⟨b, off, h1, h2.more hB⟩
theorem ExprsAt.at {B : Nat} {w : World} {b off : Nat} {l : List ExprM} (h : ExprsAt B w b off l) (k : Nat) (hk : k < l.length) :
    ∃ a cap, b < B ∧ (w.cell? ⟨b, off + k * 4, none⟩ = some (.int .i64 (eAt l k).op) ∧ w.cell? ⟨b, off + k * 4 + 1, none⟩ = some (.int .i64 (eAt l k).num) ∧ w.cell? ⟨b, off + k * 4 + 2, none⟩ = some (.string (eAt l k).name) ∧
      w.cell? ⟨b, off + k * 4 + 3, none⟩ = some (.slice a (eAt l k).args.length cap)) ∧ ExprFit (eAt l k) ∧ ArgsAt B w a (eAt l k).args := by
  induction h generalizing k with
  | nil b off => simp at hk
  | @cons b off b' off' x l a cap hb h0 h1 h2 h3 hs hl g0 g1 ha hx ht ih1 ih2 =>
    cases k with
    | zero => exact ⟨a, cap, hb, ⟨by simpa [eAt] using h0, by simpa [eAt] using h1, by simpa [eAt] using h2, by simpa [eAt] using h3⟩, ⟨hs, hl, g0, g1⟩, b', off', ha, hx⟩
    | succ k =>
      have := ih2 k (by simpa using hk)
      have e : off + (k + 1) * 4 = off + 4 + k * 4 := by omega
      have e2 : eAt (x :: l) (k + 1) = eAt l k := rfl
      rw [e, e2]
      exact this
theorem ArgsAt.cells {B : Nat} {w : World} {a : Option Addr} {l : List ExprM} (h : ArgsAt B w a l) (hl : 0 < l.length) : ∃ b off, a = some ⟨b, off, none⟩ ∧ b < B ∧ ExprsAt B w b off l := by
  obtain ⟨b, off, h1, h2⟩ := h
  obtain ⟨_, _, hb, _⟩ := h2.at 0 hl
  exact ⟨b, off, h1 (by rintro rfl; simp at hl), hb, h2⟩

/- the nodes, the levels -/
mutual
def cntE : ExprM → Nat
  | .mk _ _ _ l => 1 + cntL l
def cntL : List ExprM → Nat
  | [] => 0
  | x :: l => cntE x + cntL l
end
mutual
def depE : ExprM → Nat
  | .mk _ _ _ l => 1 + depL l
def depL : List ExprM → Nat
  | [] => 0
  | x :: l => max (depE x) (depL l)
end
/- fits: the answer and the nodes seen -/
mutual
def fitE : Nat → Nat → ExprM → Bool × Nat
  | lv, n, .mk _ _ _ l => if 200 < n + 1 ∨ 16 < lv then (false, n + 1) else fitL (lv + 1) (n + 1) l
def fitL : Nat → Nat → List ExprM → Bool × Nat
  | _, n, [] => (true, n)
  | lv, n, x :: l => if (fitE lv n x).1 = true then fitL lv (fitE lv n x).2 l else (false, (fitE lv n x).2)
end
/- the sizes that the reference counts -/
mutual
def sizR : Nat → ExprM → Nat × Nat
  | lv, .mk _ _ _ l => if 16 < lv then (1, 1) else sizL (lv + 1) 1 1 l
def sizL : Nat → Nat → Nat → List ExprM → Nat × Nat
  | _, n, d, [] => (n, d)
  | lv, n, d, x :: l => if n ≤ 200 then sizL lv (n + (sizR lv x).1) (max d ((sizR lv x).2 + 1)) l else (n, d)
end
mutual
theorem fitE_val (x : ExprM) : ∀ (lv n : Nat), ((fitE lv n x).1 = true ↔ n + cntE x ≤ 200 ∧ lv + depE x ≤ 17) ∧ ((fitE lv n x).1 = true → (fitE lv n x).2 = n + cntE x) ∧ n ≤ (fitE lv n x).2 ∧ (fitE lv n x).2 ≤ max n 201 + 1 := by
  intro lv n
  cases x with
  | mk o m s l =>
    rw [fitE, cntE, depE]
    by_cases h : 200 < n + 1 ∨ 16 < lv
    · rw [if_pos h]
      simp
      omega
    · rw [if_neg h]
      obtain ⟨h1, h2, h3, h4⟩ := fitL_val l (lv + 1) (n + 1) (by omega) (by omega)
      refine ⟨?_, ?_, by omega, by omega⟩
      · rw [h1]; omega
      · intro hh; rw [h2 hh]; omega
theorem fitL_val (l : List ExprM) : ∀ (lv n : Nat), lv ≤ 17 → n ≤ 200 → ((fitL lv n l).1 = true ↔ n + cntL l ≤ 200 ∧ lv + depL l ≤ 17) ∧ ((fitL lv n l).1 = true → (fitL lv n l).2 = n + cntL l) ∧ n ≤ (fitL lv n l).2 ∧ (fitL lv n l).2 ≤ max n 201 + 1 := by
  intro lv n hlv hn
  cases l with
  | nil => simp [fitL, cntL, depL]; omega
  | cons x l =>
    rw [fitL, cntL, depL]
    obtain ⟨h1, h2, h3, h4⟩ := fitE_val x lv n
    by_cases h : (fitE lv n x).1 = true
    · rw [if_pos h]
      have e := h2 h
      have g := h1.1 h
      obtain ⟨k1, k2, k3, k4⟩ := fitL_val l lv (fitE lv n x).2 hlv (by omega)
      rw [e] at k1 k2 k3 k4 ⊢
      refine ⟨?_, ?_, by omega, by omega⟩
      · rw [k1]; omega
      · intro hh; rw [k2 hh]; omega
    · rw [if_neg h]
      refine ⟨?_, by simp, h3, h4⟩
      constructor
      · intro a; simp at a
      · intro a
        exact absurd (h1.2 ⟨by omega, by omega⟩) h
end
mutual
/-- the reference's count is right where nothing is too large -/
theorem sizR_val (x : ExprM) : ∀ lv : Nat, lv ≤ 17 → (cntE x ≤ 200 ∧ lv + depE x ≤ 17 → sizR lv x = (cntE x, depE x)) ∧ (¬ (cntE x ≤ 200 ∧ lv + depE x ≤ 17) → 200 < (sizR lv x).1 ∨ 17 < lv + (sizR lv x).2) ∧ 1 ≤ (sizR lv x).1 := by
  intro lv hlv
  cases x with
  | mk o m s l =>
    rw [sizR, cntE, depE]
    by_cases h : 16 < lv
    · rw [if_pos h]
      refine ⟨fun a => by omega, fun _ => .inr (by omega), by simp⟩
    · rw [if_neg h]
      obtain ⟨h1, h2, h3⟩ := sizL_val l (lv + 1) 1 1 (by omega)
      refine ⟨fun a => ?_, fun a => ?_, by omega⟩
      · rw [h1 ⟨by omega, by omega⟩]
        cases l with
        | nil => simp [cntL, depL]
        | cons y l => simp; omega
      · rcases h2 (by omega) with b | b
        · exact .inl b
        · exact .inr (by omega)
theorem sizL_val (l : List ExprM) : ∀ lv n d : Nat, lv ≤ 17 → (n + cntL l ≤ 200 ∧ lv + depL l ≤ 17 → sizL lv n d l = (n + cntL l, max d (if l = [] then 0 else depL l + 1))) ∧ (¬ (n + cntL l ≤ 200 ∧ lv + depL l ≤ 17) → 200 < (sizL lv n d l).1 ∨ 18 < lv + (sizL lv n d l).2) ∧ n ≤ (sizL lv n d l).1 ∧ d ≤ (sizL lv n d l).2 := by
  intro lv n d hlv
  cases l with
  | nil =>
    refine ⟨fun _ => by simp [sizL, cntL], fun a => .inl ?_, by simp [sizL], by simp [sizL]⟩
    simp [cntL, depL] at a
    simp only [sizL]; omega
  | cons x l =>
    rw [sizL, cntL, depL]
    obtain ⟨h1, h2, h3⟩ := sizR_val x lv hlv
    by_cases h : n ≤ 200
    · rw [if_pos h]
      obtain ⟨k1, k2, k3, k4⟩ := sizL_val l lv (n + (sizR lv x).1) (max d ((sizR lv x).2 + 1)) hlv
      refine ⟨fun a => ?_, fun a => ?_, by omega, by omega⟩
      · rw [h1 (by omega)] at k1 ⊢
        rw [k1 (by simp only; omega)]
        cases l with
        | nil => simp [cntL, depL]
        | cons y l => simp; omega
      · by_cases b : cntE x ≤ 200 ∧ lv + depE x ≤ 17
        · rw [h1 b] at k2 k3 k4 ⊢
          simp only at k2 k3 k4
          by_cases c : n + cntE x + cntL l ≤ 200 ∧ lv + depL l ≤ 17
          · omega
          · exact k2 c
        · rcases h2 b with c | c
          · exact .inl (by omega)
          · exact .inr (by omega)
    · rw [if_neg h]
      refine ⟨fun a => by omega, fun _ => .inl (by omega), by simp, by simp⟩
end
end Go.Proofs.YtpgbckgjlgecpaaGreat
/- contracts of the small functions of package grammar -/
namespace Go.Proofs.YtpgbckgjlgecpaaGreat
open Go.RowKit Go.Sort
set_option linter.unusedVariables false
set_option linter.unusedSimpArgs false
set_option maxRecDepth 100000
theorem ret_boolE {a b : Bool} (h : a = b) : Ending.returned (.bool a) = .returned (.bool b) := by rw [h]
def argsFitB (o n : Int) : Bool :=
  if (o == 1) = true then n == 0 else if (o == 2) = true then n == 0 else if (o == 3) = true then n == 0 else if (o == 4) = true then n == 0 else if (o == 5) = true then n == 0 else if (o == 6) = true then n == 0
  else if (o == 7) = true then n == 1 else if (o == 19) = true then n == 1 else if (o == 12) = true then decide (2 ≤ n) else if (o == 13) = true then decide (2 ≤ n) else if (o == 14) = true then n == 3 else if (o == 15) = true then n == 3 else n == 2
set_option maxHeartbeats 400000 in
theorem argsFit_any (o : Int) (n : Nat) (w : World) : Calls Tryz.prog 227 #[.int .i64 o, .int .i64 n] w fun e w' => e = .returned (.bool (argsFitB o n)) ∧ w = w' := by
  go_enter Tryz.func227, Tryz.ntmps227
  go_wp2_with fail
  all_goals (go_ret; exact ⟨ret_bool (by simp [argsFitB, *] <;> omega), rfl⟩)
def btwB (n a b : Int) : Bool := decide (a ≤ n) && decide (n ≤ b)
theorem btwB_iff {n a b : Int} : btwB n a b = true ↔ a ≤ n ∧ n ≤ b := by simp [btwB]
set_option maxHeartbeats 400000 in
theorem within_any (n a b : Int) (w : World) : Calls Tryz.prog 180 #[.int .i64 n, .int .i64 a, .int .i64 b] w fun e w' => e = .returned (.bool (btwB n a b)) ∧ w = w' := by
  by_cases h : a ≤ n
  all_goals
    go_enter Tryz.func180, Tryz.ntmps180
    go_wp2_with fail
    all_goals (go_ret; exact ⟨ret_bool (by simp [btwB, h] <;> omega), rfl⟩)
set_option maxHeartbeats 400000 in
theorem scopeValid_any (n : Int) (w : World) : Calls Tryz.prog 183 #[.int .i64 n] w fun e w' => e = .returned (.bool (btwB n 1 3)) ∧ w = w' := by
  go_enter Tryz.func183, Tryz.ntmps183
  go_wp2_with fail
  refine (within_any _ _ _ _).mono ?_
  rintro e w' ⟨rfl, rfl⟩
  go_wp2_with fail
  go_ret
  exact ⟨rfl, rfl⟩
/-- one of these words? -/
def inWords (L : List (List UInt8)) (s : ByteArray) : Bool := L.any fun x => s.toList == x
def resWords : List (List UInt8) := [[97, 110, 100], [111, 114], [110, 111, 116], [105, 109, 112, 108, 105, 101, 115], [105, 110], [116, 111], [116, 114, 117, 101], [102, 97, 108, 115, 101], [109, 105, 110], [109, 97, 120], [105, 102], [116, 104, 101, 110], [101, 108, 115, 101]]
def reservedB (s : ByteArray) : Bool := inWords resWords s
set_option maxHeartbeats 400000 in
theorem reserved_any (s : ByteArray) (w : World) : Calls Tryz.prog 226 #[.string s] w fun e w' => e = .returned (.bool (reservedB s)) ∧ w = w' := by
  go_enter Tryz.func226, Tryz.ntmps226
  go_wp2_with fail
  all_goals (go_ret; exact ⟨ret_boolE (by first | (simp only [reservedB, inWords, resWords, List.any_cons, List.any_nil, *]; rfl) | simp_all), rfl⟩)
def isNameB (s : ByteArray) : Bool := nameB s.data.toList && !reservedB s
set_option maxHeartbeats 400000 in
theorem isNameG_any (s : ByteArray) (w : World) (hs : s.size ≤ maxLen) : Calls Tryz.prog 209 #[.string s] w fun e w' => e = .returned (.bool (isNameB s)) ∧ w = w' := by
  cases b1 : nameB s.data.toList
  · go_enter Tryz.func209, Tryz.ntmps209
    go_wp2_with fail
    refine (isName_any _ _ hs).mono ?_
    rintro e w' ⟨rfl, rfl⟩
    go_wp2_with fail
    go_ret
    exact ⟨ret_boolE (by simp [isNameB, b1]), rfl⟩
  · go_enter Tryz.func209, Tryz.ntmps209
    go_wp2_with fail
    refine (isName_any _ _ hs).mono ?_
    rintro e w' ⟨rfl, rfl⟩
    go_wp2_with fail
    refine (reserved_any _ _).mono ?_
    rintro e w' ⟨rfl, rfl⟩
    go_wp2_with fail
    go_ret
    exact ⟨ret_boolE (by simp [isNameB, b1]), rfl⟩
/-- the place of the first point -/
def ptI (s : ByteArray) : Int := Lib.indexByte s.data.toList 46
set_option maxHeartbeats 400000 in
theorem indexByte_pt (s : ByteArray) (w : World) : Calls Tryz.prog 244 #[.string s, .int .u8 46] w fun e w' => e = .returned (.int .i64 (ptI s)) ∧ w = w' := by
  go_enter Tryz.func244, Tryz.ntmps244
  go_wp2
  rw [run_callFunc_extern Tryz.func248 (by kernel_rfl) (by kernel_rfl) (by kernel_rfl) (e := Extern.BytealgIndexByte.indexByte) (by kernel_rfl), Lib.run_indexByteString]
  simp only [Result.andThen]
  rw [Oper.upon_value]
  go_wp2
  go_ret
  exact ⟨rfl, rfl⟩
theorem ptI_one {s : ByteArray} (h : ([46] == s.toList) = true) : ptI s = 0 := by
  have : s.data.toList = [46] := by rw [← Lib.toList_data]; exact (beq_iff_eq.1 h).symm
  rw [ptI, this]; rfl
set_option maxHeartbeats 400000 in
theorem index_pt (s : ByteArray) (w : World) : Calls Tryz.prog 243 #[.string s, .string ⟨#[46]⟩] w fun e w' => e = .returned (.int .i64 (ptI s)) ∧ w = w' := by
  cases h : ([46] == s.toList)
  · go_enter Tryz.func243, Tryz.ntmps243
    go_wp2_with fail
    have e46 : ((((⟨#[46]⟩ : ByteArray)[0]).toNat : Nat) : Int) = 46 := rfl
    rw [e46]
    refine (indexByte_pt _ _).mono ?_
    rintro e w' ⟨rfl, rfl⟩
    go_wp2_with fail
    go_ret
    exact ⟨rfl, rfl⟩
  · have hz := Lib.hid (ptI_one h)
    go_enter Tryz.func243, Tryz.ntmps243
    go_wp2_with fail
    go_ret
    exact ⟨ret_int hz.out.symm, rfl⟩
theorem indexByte_lt : ∀ (l : List UInt8) (c : UInt8), Lib.indexByte l c < l.length ∧ -1 ≤ Lib.indexByte l c
  | [], c => by simp [Lib.indexByte]
  | b :: l, c => by
    have := indexByte_lt l c
    unfold Lib.indexByte
    simp only [List.length_cons]
    split
    · omega
    · split <;> omega
theorem ptI_lt (s : ByteArray) : ptI s < s.size ∧ -1 ≤ ptI s := by
  have := indexByte_lt s.data.toList 46
  exact ⟨by simpa [ptI] using this.1, this.2⟩
set_option maxHeartbeats 400000 in
theorem cutL_yes (s : ByteArray) (k : Nat) (w : World) (hs : s.size ≤ 140737488355328) (hk : k < s.size) (h : Hid (ptI s = k)) : Calls Tryz.prog 242 #[.string s, .string ⟨#[46]⟩] w fun e w' => e = .returned (.tuple #[.string (s.extract 0 k), .string (s.extract (k + 1) s.size), .bool true]) ∧ Below w.heap.size w w' := by
  go_enter Tryz.func242, Tryz.ntmps242
  go_wp2_with fail
  refine (index_pt _ _).mono ?_
  rintro e w' ⟨rfl, rfl⟩
  rw [h.out]
  go_wp2_with fail
  go_quiet (fail)
  go_wp2_with fail
  go_ret3
  exact ⟨rfl, below_drewN (Below.refl _ _) _⟩
set_option maxHeartbeats 400000 in
theorem cutL_no (s : ByteArray) (w : World) (h : Hid (ptI s = -1)) : Calls Tryz.prog 242 #[.string s, .string ⟨#[46]⟩] w fun e w' => e = .returned (.tuple #[.string s, .string ByteArray.empty, .bool false]) ∧ w = w' := by
  go_enter Tryz.func242, Tryz.ntmps242
  go_wp2_with fail
  refine (index_pt _ _).mono ?_
  rintro e w' ⟨rfl, rfl⟩
  rw [h.out]
  go_wp2_with fail
  go_ret3
  exact ⟨rfl, rfl⟩
set_option maxHeartbeats 400000 in
theorem cut_yes (s : ByteArray) (k : Nat) (w : World) (hs : s.size ≤ 140737488355328) (hk : k < s.size) (h : Hid (ptI s = k)) : Calls Tryz.prog 235 #[.string s, .string ⟨#[46]⟩] w fun e w' => e = .returned (.tuple #[.string (s.extract 0 k), .string (s.extract (k + 1) s.size), .bool true]) ∧ Below w.heap.size w w' := by
  go_enter Tryz.func235, Tryz.ntmps235
  go_wp2_with fail
  refine (cutL_yes _ k _ hs hk h).mono ?_
  rintro e w' ⟨rfl, hb⟩
  go_wp2_with fail
  go_ret3
  exact ⟨rfl, hb⟩
set_option maxHeartbeats 400000 in
theorem cut_no (s : ByteArray) (w : World) (h : Hid (ptI s = -1)) : Calls Tryz.prog 235 #[.string s, .string ⟨#[46]⟩] w fun e w' => e = .returned (.tuple #[.string s, .string ByteArray.empty, .bool false]) ∧ w = w' := by
  go_enter Tryz.func235, Tryz.ntmps235
  go_wp2_with fail
  refine (cutL_no _ _ h).mono ?_
  rintro e w' ⟨rfl, rfl⟩
  go_wp2_with fail
  go_ret3
  exact ⟨rfl, rfl⟩
/-- a name in an expression -/
def attrB (s : ByteArray) : Bool := if 0 ≤ ptI s then nameB (s.data.toList.take (ptI s).toNat) && nameB (s.data.toList.drop ((ptI s).toNat + 1)) else isNameB s
set_option maxHeartbeats 400000 in
theorem isAttribute_any (s : ByteArray) (w : World) (hs : s.size ≤ 140737488355328) : Calls Tryz.prog 228 #[.string s] w fun e w' => e = .returned (.bool (attrB s)) ∧ Below w.heap.size w w' := by
  have hl := ptI_lt s
  have hm : s.size ≤ maxLen := by unfold maxLen; omega
  by_cases hp : 0 ≤ ptI s
  · obtain ⟨k, hk⟩ := Int.eq_ofNat_of_zero_le hp
    have hks : k < s.size := by omega
    have Hk := Lib.hid hk
    have hz : attrB s = (nameB (s.data.toList.take k) && nameB (s.data.toList.drop (k + 1))) := by rw [attrB, if_pos hp, hk]; rfl
    have Hz := Lib.hid hz
    have h1 : (s.extract 0 k).size ≤ maxLen := by unfold maxLen; simp; omega
    have h2 : (s.extract (k + 1) s.size).size ≤ maxLen := by unfold maxLen; simp; omega
    clear hk hz hp hl
    have e2 : List.take (s.size - (k + 1)) (List.drop (k + 1) s.data.toList) = List.drop (k + 1) s.data.toList := List.take_of_length_le (by simp)
    have E2 := Lib.hid e2
    clear e2
    cases b1 : nameB (List.take k s.data.toList)
    · go_enter Tryz.func228, Tryz.ntmps228
      go_wp2_with fail
      refine (cut_yes _ k _ hs hks Hk).mono ?_
      rintro e w' ⟨rfl, hb⟩
      go_wp2_with fail
      refine (isName_any _ _ h1).mono ?_
      rintro e w1 ⟨rfl, rfl⟩
      go_wp2_with fail
      go_ret
      exact ⟨ret_boolE (by rw [Hz.out, b1]; rfl), hb⟩
    · go_enter Tryz.func228, Tryz.ntmps228
      go_wp2_with fail
      refine (cut_yes _ k _ hs hks Hk).mono ?_
      rintro e w' ⟨rfl, hb⟩
      go_wp2_with fail
      refine (isName_any _ _ h1).mono ?_
      rintro e w1 ⟨rfl, rfl⟩
      go_wp2_with fail
      refine (isName_any _ _ h2).mono ?_
      rintro e w1 ⟨rfl, rfl⟩
      go_wp2_with fail
      go_ret
      exact ⟨ret_boolE (by rw [Hz.out, b1, E2.out]; rfl), hb⟩
  · have Hk := Lib.hid (show ptI s = -1 by omega)
    have Hz := Lib.hid (show attrB s = isNameB s from if_neg hp)
    clear hp hl
    go_enter Tryz.func228, Tryz.ntmps228
    go_wp2_with fail
    refine (cut_no _ _ Hk).mono ?_
    rintro e w' ⟨rfl, rfl⟩
    go_wp2_with fail
    refine (isNameG_any _ _ hm).mono ?_
    rintro e w1 ⟨rfl, rfl⟩
    go_wp2_with fail
    go_ret
    exact ⟨ret_boolE Hz.out.symm, Below.refl _ _⟩
end Go.Proofs.YtpgbckgjlgecpaaGreat
/- contract of grammar.wellFormed -/
namespace Go.Proofs.YtpgbckgjlgecpaaGreat
open Go.RowKit Go.Sort
set_option linter.unusedVariables false
set_option linter.unusedSimpArgs false
set_option maxRecDepth 100000
def leafB (o n : Int) : Bool := if (o == 1) = true then btwB n 0 1099511627776 else if (o == 2) = true then btwB n 0 1099511627776 else if (o == 3) = true then btwB n 0 1439 else n == 0
def nmB (o : Int) (s : ByteArray) : Bool := if (o == 6) = true then attrB s else s.toList.isEmpty
def headB (o n : Int) (s : ByteArray) (k : Nat) : Bool := btwB o 1 22 && argsFitB o k && leafB o n && nmB o s
mutual
def wfE : ExprM → Bool
  | .mk o n s l => headB o n s l.length && wfL l
def wfL : List ExprM → Bool
  | [] => true
  | x :: l => wfE x && wfL l
end
theorem wfL_drop (l : List ExprM) (k : Nat) (h : k < l.length) : wfL (l.drop k) = (wfE (eAt l k) && wfL (l.drop (k + 1))) := by rw [e_drop l k h, wfL]

set_option maxHeartbeats 1600000 in
theorem wf_fail (o n : Int) (s : ByteArray) (a : Option Addr) (k cap : Nat) (w : World) (hs : s.size ≤ 140737488355328) (h : headB o n s k = false) :
    Calls Tryz.prog 211 #[.agg #[.int .i64 o, .int .i64 n, .string s, .slice a k cap]] w fun e w' => e = .returned (.bool false) ∧ Below w.heap.size w w' := by
  by_cases h1 : o < 1
  · clear h
    go_enter Tryz.func211, Tryz.ntmps211
    go_wp2_with fail
    go_ret
    exact ⟨rfl, below_new _ _⟩
  by_cases h2 : 22 < o
  · clear h
    go_enter Tryz.func211, Tryz.ntmps211
    go_wp2_with fail
    go_ret
    exact ⟨rfl, below_new _ _⟩
  have h0 : btwB o 1 22 = true := by simp [btwB]; omega
  rw [headB, h0, Bool.true_and] at h
  have H := Lib.hid h
  clear h h0
  cases h3 : argsFitB o k
  · go_enter Tryz.func211, Tryz.ntmps211
    go_wp2_with (go_at_call 227; refine (argsFit_any _ _ _).mono ?_; rintro e w' ⟨rfl, rfl⟩)
    go_ret
    exact ⟨rfl, below_new _ _⟩
  have H2 := Lib.hid (H.out)
  rw [h3, Bool.true_and] at H2
  clear H
  cases h4 : leafB o n
  · clear H2
    by_cases o1 : o = 1
    · subst o1
      have : n < 0 ∨ 1099511627776 < n := by simp [leafB, btwB] at h4; omega
      clear h4
      rcases this with h5 | h5
      · go_enter Tryz.func211, Tryz.ntmps211
        go_wp2_with (go_at_call 227; refine (argsFit_any _ _ _).mono ?_; rintro e w' ⟨rfl, rfl⟩)
        go_ret
        exact ⟨rfl, below_new _ _⟩
      · go_enter Tryz.func211, Tryz.ntmps211
        go_wp2_with (go_at_call 227; refine (argsFit_any _ _ _).mono ?_; rintro e w' ⟨rfl, rfl⟩)
        go_ret
        exact ⟨rfl, below_new _ _⟩
    by_cases o2 : o = 2
    · subst o2
      have : n < 0 ∨ 1099511627776 < n := by simp [leafB, btwB] at h4; omega
      clear h4
      rcases this with h5 | h5
      · go_enter Tryz.func211, Tryz.ntmps211
        go_wp2_with (go_at_call 227; refine (argsFit_any _ _ _).mono ?_; rintro e w' ⟨rfl, rfl⟩)
        go_ret
        exact ⟨rfl, below_new _ _⟩
      · go_enter Tryz.func211, Tryz.ntmps211
        go_wp2_with (go_at_call 227; refine (argsFit_any _ _ _).mono ?_; rintro e w' ⟨rfl, rfl⟩)
        go_ret
        exact ⟨rfl, below_new _ _⟩
    by_cases o3 : o = 3
    · subst o3
      have : n < 0 ∨ 1439 < n := by simp [leafB, btwB] at h4; omega
      clear h4
      rcases this with h5 | h5
      · go_enter Tryz.func211, Tryz.ntmps211
        go_wp2_with (go_at_call 227; refine (argsFit_any _ _ _).mono ?_; rintro e w' ⟨rfl, rfl⟩)
        go_ret
        exact ⟨rfl, below_new _ _⟩
      · go_enter Tryz.func211, Tryz.ntmps211
        go_wp2_with (go_at_call 227; refine (argsFit_any _ _ _).mono ?_; rintro e w' ⟨rfl, rfl⟩)
        go_ret
        exact ⟨rfl, below_new _ _⟩
    · have e1 : (o == 1) = false := by simpa using o1
      have e2 : (o == 2) = false := by simpa using o2
      have e3 : (o == 3) = false := by simpa using o3
      have e4 : (n != 0) = true := by simpa [leafB, e1, e2, e3] using h4
      clear h4 o1 o2 o3
      go_enter Tryz.func211, Tryz.ntmps211
      go_wp2_with (go_at_call 227; refine (argsFit_any _ _ _).mono ?_; rintro e w' ⟨rfl, rfl⟩)
      go_ret
      exact ⟨rfl, below_new _ _⟩
  have h6 : nmB o s = false := by have := H2.out; rwa [h4, Bool.true_and] at this
  clear H2
  by_cases o6 : o = 6
  · subst o6
    have e4 : (n != 0) = false := by simpa [leafB] using h4
    have h7 : attrB s = false := by simpa [nmB] using h6
    clear h4 h6
    go_enter Tryz.func211, Tryz.ntmps211
    go_wp2_with (go_at_call 227; refine (argsFit_any _ _ _).mono ?_; rintro e w' ⟨rfl, rfl⟩)
    refine (isAttribute_any _ _ hs).mono ?_
    rintro e w' ⟨rfl, hb⟩
    go_wp2_with fail
    go_ret
    exact ⟨rfl, Below.then (below_new _ _) hb⟩
  have e6 : (o == 6) = false := by simpa using o6
  have h7 : s.toList.isEmpty = false := by simpa [nmB, e6] using h6
  clear h6
  by_cases o1 : o = 1
  · subst o1
    obtain ⟨h5, h8⟩ : 0 ≤ n ∧ n ≤ 1099511627776 := by simpa [leafB, btwB] using h4
    clear h4
    go_enter Tryz.func211, Tryz.ntmps211
    go_wp2_with (go_at_call 227; refine (argsFit_any _ _ _).mono ?_; rintro e w' ⟨rfl, rfl⟩)
    go_ret
    exact ⟨rfl, below_new _ _⟩
  by_cases o2 : o = 2
  · subst o2
    obtain ⟨h5, h8⟩ : 0 ≤ n ∧ n ≤ 1099511627776 := by simpa [leafB, btwB] using h4
    clear h4
    go_enter Tryz.func211, Tryz.ntmps211
    go_wp2_with (go_at_call 227; refine (argsFit_any _ _ _).mono ?_; rintro e w' ⟨rfl, rfl⟩)
    go_ret
    exact ⟨rfl, below_new _ _⟩
  by_cases o3 : o = 3
  · subst o3
    obtain ⟨h5, h8⟩ : 0 ≤ n ∧ n ≤ 1439 := by simpa [leafB, btwB] using h4
    clear h4
    go_enter Tryz.func211, Tryz.ntmps211
    go_wp2_with (go_at_call 227; refine (argsFit_any _ _ _).mono ?_; rintro e w' ⟨rfl, rfl⟩)
    go_ret
    exact ⟨rfl, below_new _ _⟩
  · have e1 : (o == 1) = false := by simpa using o1
    have e2 : (o == 2) = false := by simpa using o2
    have e3 : (o == 3) = false := by simpa using o3
    have e4 : (n != 0) = false := by simpa [leafB, e1, e2, e3] using h4
    clear h4 o1 o2 o3
    go_enter Tryz.func211, Tryz.ntmps211
    go_wp2_with (go_at_call 227; refine (argsFit_any _ _ _).mono ?_; rintro e w' ⟨rfl, rfl⟩)
    go_ret
    exact ⟨rfl, below_new _ _⟩
end Go.Proofs.YtpgbckgjlgecpaaGreat
/- contract of grammar.wellFormed: the whole -/
namespace Go.Proofs.YtpgbckgjlgecpaaGreat
open Go.RowKit Go.Sort
set_option linter.unusedVariables false
set_option linter.unusedSimpArgs false
set_option maxRecDepth 100000
set_option maxHeartbeats 3200000 in
theorem wf_step (o n : Int) (s : ByteArray) (l : List ExprM) (a : Option Addr) (cap : Nat) (w : World) (B : Nat) (hB : B ≤ w.heap.size) (hf : ExprFit (.mk o n s l)) (ha : ArgsAt B w a l)
    (IH : Hid (∀ x : ExprM, SizeOf.sizeOf x < SizeOf.sizeOf (ExprM.mk o n s l) → ∀ (a : Option Addr) (cap : Nat) (w : World) (B : Nat), B ≤ w.heap.size → ExprFit x → ArgsAt B w a x.args → Calls Tryz.prog 211 #[.agg #[.int .i64 x.op, .int .i64 x.num, .string x.name, .slice a x.args.length cap]] w fun e w' => e = .returned (.bool (wfE x)) ∧ Below w.heap.size w w')) :
    Calls Tryz.prog 211 #[.agg #[.int .i64 o, .int .i64 n, .string s, .slice a l.length cap]] w fun e w' => e = .returned (.bool (wfE (.mk o n s l))) ∧ Below w.heap.size w w' := by
  obtain ⟨hs, hl, _, _⟩ := hf
  replace hs : s.size ≤ 140737488355328 := hs
  replace hl : l.length ≤ 140737488355328 := hl
  have HA := Lib.hid ha
  clear ha
  cases h0 : headB o n s l.length
  · refine (wf_fail o n s a l.length cap w hs h0).mono ?_
    rintro e w' ⟨rfl, hb⟩
    exact ⟨ret_boolE (by rw [wfE, h0]; rfl), hb⟩
  have Hv := Lib.hid (show wfE (.mk o n s l) = wfL l from by rw [wfE, h0, Bool.true_and])
  simp only [headB, Bool.and_eq_true] at h0
  obtain ⟨⟨⟨g1, h3⟩, h4⟩, h6⟩ := h0
  obtain ⟨h1, h2⟩ := btwB_iff.1 g1
  clear g1
  by_cases o6 : o = 6
  · subst o6
    have e4 : (n != 0) = false := by simpa [leafB] using h4
    have h7 : attrB s = true := by simpa [nmB] using h6
    clear h4 h6
    go_enter Tryz.func211, Tryz.ntmps211
    go_wp2_with (go_at_call 227; refine (argsFit_any _ _ _).mono ?_; rintro e w' ⟨rfl, rfl⟩)
    refine (isAttribute_any _ _ hs).mono ?_
    rintro e w' ⟨rfl, hb0⟩
    have q : w'.cell? ⟨w.heap.size, 3, none⟩ = some (.slice a l.length cap) := ((bcell hb0).1 _ 3 (by simp)).trans (by clear hb0; go_simp)
    have hsz : w.heap.size < w'.heap.size := Nat.lt_of_lt_of_le (by simp) hb0.size
    have HB0 := Lib.hid (Below.then (below_new _ _) hb0)
    clear hb0
    go_wp2_with fail
    clear q hsz
    go_loopw [61] (fun i wr => ∃ k : Nat, k ≤ l.length ∧ i = .int .i64 k ∧ Hid (wfL l = wfL (l.drop k)) ∧ Hid (Below w.heap.size w wr)) (fun i _ => l.length - (intOf i).toNat)
    case atStart => exact ⟨0, Nat.zero_le _, rfl, Lib.hid rfl, Lib.hid HB0.out⟩
    case round =>
      obtain ⟨k, hk, rfl, hval, hbel⟩ := hrel
      by_cases hlt : k < l.length
      · obtain ⟨b, off, rfl, hb, hcs⟩ := HA.out.cells (by omega)
        obtain ⟨a2, cap2, hbB, ⟨c0, c1, c2, c3⟩, hfit, hargs⟩ := (hcs.keep (hbel.out.mono hB)).at k hlt
        have hbr : b < wr.heap.size := Nat.lt_of_lt_of_le hb (Nat.le_trans hB hbel.out.size)
        have hBr : B ≤ (wr.alloc (.cells #[.int .i64 (eAt l k).op, .int .i64 (eAt l k).num, .string (eAt l k).name, .slice a2 (eAt l k).args.length cap2] 111)).heap.size := by have := hbel.out.size; simp; omega
        have HAr := Lib.hid hargs
        clear hargs hcs
        go_wp2_with fail
        refine (IH.out (eAt l k) (size_arg (x := .mk 6 n s l) hlt) a2 cap2 _ B hBr hfit (HAr.out.keep ((below_new _ _).mono (Nat.le_trans hB hbel.out.size)))).mono ?_
        rintro e w1 ⟨rfl, hb1⟩
        have HB1 := Lib.hid (Below.then hbel.out (Below.then (below_new wr _) hb1))
        have hst := Lib.hid (hval.out.trans (wfL_drop l k hlt))
        clear hb1 c0 c1 c2 c3 HAr hBr
        cases e0 : wfE (eAt l k)
        · have hr := Lib.hid (show wfE (.mk 6 n s l) = false from Hv.out.trans (by rw [hst.out, e0]; rfl))
          go_wp2_with fail
          go_ret
          exact ⟨ret_boolE hr.out.symm, HB1.out⟩
        · have hst2 := Lib.hid (hst.out.trans (by rw [e0, Bool.true_and]))
          go_wp2_with fail
          go_roundw
          case rel => exact ⟨k + 1, by omega, by go_num, hst2, HB1⟩
          case measure => simp [intOf]; omega
      · obtain rfl : k = l.length := by omega
        have hr := Lib.hid (show wfE (.mk 6 n s l) = true from Hv.out.trans (by rw [hval.out, List.drop_length]; rfl))
        go_wp2_with fail
        go_ret
        exact ⟨ret_boolE hr.out.symm, hbel.out⟩
  have e6 : (o == 6) = false := by simpa using o6
  have h7 : s.toList.isEmpty = true := by simpa [nmB, e6] using h6
  clear h6
  by_cases o1 : o = 1
  · subst o1
    obtain ⟨h5, h8⟩ : 0 ≤ n ∧ n ≤ 1099511627776 := by simpa [leafB, btwB] using h4
    clear h4
    go_enter Tryz.func211, Tryz.ntmps211
    go_wp2_with (go_at_call 227; refine (argsFit_any _ _ _).mono ?_; rintro e w' ⟨rfl, rfl⟩)
    go_loopw [61] (fun i wr => ∃ k : Nat, k ≤ l.length ∧ i = .int .i64 k ∧ Hid (wfL l = wfL (l.drop k)) ∧ Hid (Below w.heap.size w wr)) (fun i _ => l.length - (intOf i).toNat)
    case atStart => exact ⟨0, Nat.zero_le _, rfl, Lib.hid rfl, Lib.hid (below_new _ _)⟩
    case round =>
      obtain ⟨k, hk, rfl, hval, hbel⟩ := hrel
      by_cases hlt : k < l.length
      · obtain ⟨b, off, rfl, hb, hcs⟩ := HA.out.cells (by omega)
        obtain ⟨a2, cap2, hbB, ⟨c0, c1, c2, c3⟩, hfit, hargs⟩ := (hcs.keep (hbel.out.mono hB)).at k hlt
        have hbr : b < wr.heap.size := Nat.lt_of_lt_of_le hb (Nat.le_trans hB hbel.out.size)
        have hBr : B ≤ (wr.alloc (.cells #[.int .i64 (eAt l k).op, .int .i64 (eAt l k).num, .string (eAt l k).name, .slice a2 (eAt l k).args.length cap2] 111)).heap.size := by have := hbel.out.size; simp; omega
        have HAr := Lib.hid hargs
        clear hargs hcs
        go_wp2_with fail
        refine (IH.out (eAt l k) (size_arg (x := .mk 1 n s l) hlt) a2 cap2 _ B hBr hfit (HAr.out.keep ((below_new _ _).mono (Nat.le_trans hB hbel.out.size)))).mono ?_
        rintro e w1 ⟨rfl, hb1⟩
        have HB1 := Lib.hid (Below.then hbel.out (Below.then (below_new wr _) hb1))
        have hst := Lib.hid (hval.out.trans (wfL_drop l k hlt))
        clear hb1 c0 c1 c2 c3 HAr hBr
        cases e0 : wfE (eAt l k)
        · have hr := Lib.hid (show wfE (.mk 1 n s l) = false from Hv.out.trans (by rw [hst.out, e0]; rfl))
          go_wp2_with fail
          go_ret
          exact ⟨ret_boolE hr.out.symm, HB1.out⟩
        · have hst2 := Lib.hid (hst.out.trans (by rw [e0, Bool.true_and]))
          go_wp2_with fail
          go_roundw
          case rel => exact ⟨k + 1, by omega, by go_num, hst2, HB1⟩
          case measure => simp [intOf]; omega
      · obtain rfl : k = l.length := by omega
        have hr := Lib.hid (show wfE (.mk 1 n s l) = true from Hv.out.trans (by rw [hval.out, List.drop_length]; rfl))
        go_wp2_with fail
        go_ret
        exact ⟨ret_boolE hr.out.symm, hbel.out⟩
  by_cases o2 : o = 2
  · subst o2
    obtain ⟨h5, h8⟩ : 0 ≤ n ∧ n ≤ 1099511627776 := by simpa [leafB, btwB] using h4
    clear h4
    go_enter Tryz.func211, Tryz.ntmps211
    go_wp2_with (go_at_call 227; refine (argsFit_any _ _ _).mono ?_; rintro e w' ⟨rfl, rfl⟩)
    go_loopw [61] (fun i wr => ∃ k : Nat, k ≤ l.length ∧ i = .int .i64 k ∧ Hid (wfL l = wfL (l.drop k)) ∧ Hid (Below w.heap.size w wr)) (fun i _ => l.length - (intOf i).toNat)
    case atStart => exact ⟨0, Nat.zero_le _, rfl, Lib.hid rfl, Lib.hid (below_new _ _)⟩
    case round =>
      obtain ⟨k, hk, rfl, hval, hbel⟩ := hrel
      by_cases hlt : k < l.length
      · obtain ⟨b, off, rfl, hb, hcs⟩ := HA.out.cells (by omega)
        obtain ⟨a2, cap2, hbB, ⟨c0, c1, c2, c3⟩, hfit, hargs⟩ := (hcs.keep (hbel.out.mono hB)).at k hlt
        have hbr : b < wr.heap.size := Nat.lt_of_lt_of_le hb (Nat.le_trans hB hbel.out.size)
        have hBr : B ≤ (wr.alloc (.cells #[.int .i64 (eAt l k).op, .int .i64 (eAt l k).num, .string (eAt l k).name, .slice a2 (eAt l k).args.length cap2] 111)).heap.size := by have := hbel.out.size; simp; omega
        have HAr := Lib.hid hargs
        clear hargs hcs
        go_wp2_with fail
        refine (IH.out (eAt l k) (size_arg (x := .mk 2 n s l) hlt) a2 cap2 _ B hBr hfit (HAr.out.keep ((below_new _ _).mono (Nat.le_trans hB hbel.out.size)))).mono ?_
        rintro e w1 ⟨rfl, hb1⟩
        have HB1 := Lib.hid (Below.then hbel.out (Below.then (below_new wr _) hb1))
        have hst := Lib.hid (hval.out.trans (wfL_drop l k hlt))
        clear hb1 c0 c1 c2 c3 HAr hBr
        cases e0 : wfE (eAt l k)
        · have hr := Lib.hid (show wfE (.mk 2 n s l) = false from Hv.out.trans (by rw [hst.out, e0]; rfl))
          go_wp2_with fail
          go_ret
          exact ⟨ret_boolE hr.out.symm, HB1.out⟩
        · have hst2 := Lib.hid (hst.out.trans (by rw [e0, Bool.true_and]))
          go_wp2_with fail
          go_roundw
          case rel => exact ⟨k + 1, by omega, by go_num, hst2, HB1⟩
          case measure => simp [intOf]; omega
      · obtain rfl : k = l.length := by omega
        have hr := Lib.hid (show wfE (.mk 2 n s l) = true from Hv.out.trans (by rw [hval.out, List.drop_length]; rfl))
        go_wp2_with fail
        go_ret
        exact ⟨ret_boolE hr.out.symm, hbel.out⟩
  by_cases o3 : o = 3
  · subst o3
    obtain ⟨h5, h8⟩ : 0 ≤ n ∧ n ≤ 1439 := by simpa [leafB, btwB] using h4
    clear h4
    go_enter Tryz.func211, Tryz.ntmps211
    go_wp2_with (go_at_call 227; refine (argsFit_any _ _ _).mono ?_; rintro e w' ⟨rfl, rfl⟩)
    go_loopw [61] (fun i wr => ∃ k : Nat, k ≤ l.length ∧ i = .int .i64 k ∧ Hid (wfL l = wfL (l.drop k)) ∧ Hid (Below w.heap.size w wr)) (fun i _ => l.length - (intOf i).toNat)
    case atStart => exact ⟨0, Nat.zero_le _, rfl, Lib.hid rfl, Lib.hid (below_new _ _)⟩
    case round =>
      obtain ⟨k, hk, rfl, hval, hbel⟩ := hrel
      by_cases hlt : k < l.length
      · obtain ⟨b, off, rfl, hb, hcs⟩ := HA.out.cells (by omega)
        obtain ⟨a2, cap2, hbB, ⟨c0, c1, c2, c3⟩, hfit, hargs⟩ := (hcs.keep (hbel.out.mono hB)).at k hlt
        have hbr : b < wr.heap.size := Nat.lt_of_lt_of_le hb (Nat.le_trans hB hbel.out.size)
        have hBr : B ≤ (wr.alloc (.cells #[.int .i64 (eAt l k).op, .int .i64 (eAt l k).num, .string (eAt l k).name, .slice a2 (eAt l k).args.length cap2] 111)).heap.size := by have := hbel.out.size; simp; omega
        have HAr := Lib.hid hargs
        clear hargs hcs
        go_wp2_with fail
        refine (IH.out (eAt l k) (size_arg (x := .mk 3 n s l) hlt) a2 cap2 _ B hBr hfit (HAr.out.keep ((below_new _ _).mono (Nat.le_trans hB hbel.out.size)))).mono ?_
        rintro e w1 ⟨rfl, hb1⟩
        have HB1 := Lib.hid (Below.then hbel.out (Below.then (below_new wr _) hb1))
        have hst := Lib.hid (hval.out.trans (wfL_drop l k hlt))
        clear hb1 c0 c1 c2 c3 HAr hBr
        cases e0 : wfE (eAt l k)
        · have hr := Lib.hid (show wfE (.mk 3 n s l) = false from Hv.out.trans (by rw [hst.out, e0]; rfl))
          go_wp2_with fail
          go_ret
          exact ⟨ret_boolE hr.out.symm, HB1.out⟩
        · have hst2 := Lib.hid (hst.out.trans (by rw [e0, Bool.true_and]))
          go_wp2_with fail
          go_roundw
          case rel => exact ⟨k + 1, by omega, by go_num, hst2, HB1⟩
          case measure => simp [intOf]; omega
      · obtain rfl : k = l.length := by omega
        have hr := Lib.hid (show wfE (.mk 3 n s l) = true from Hv.out.trans (by rw [hval.out, List.drop_length]; rfl))
        go_wp2_with fail
        go_ret
        exact ⟨ret_boolE hr.out.symm, hbel.out⟩
  · have e1 : (o == 1) = false := by simpa using o1
    have e2 : (o == 2) = false := by simpa using o2
    have e3 : (o == 3) = false := by simpa using o3
    have e4 : (n != 0) = false := by simpa [leafB, e1, e2, e3] using h4
    clear h4 o1 o2 o3
    go_enter Tryz.func211, Tryz.ntmps211
    go_wp2_with (go_at_call 227; refine (argsFit_any _ _ _).mono ?_; rintro e w' ⟨rfl, rfl⟩)
    go_loopw [61] (fun i wr => ∃ k : Nat, k ≤ l.length ∧ i = .int .i64 k ∧ Hid (wfL l = wfL (l.drop k)) ∧ Hid (Below w.heap.size w wr)) (fun i _ => l.length - (intOf i).toNat)
    case atStart => exact ⟨0, Nat.zero_le _, rfl, Lib.hid rfl, Lib.hid (below_new _ _)⟩
    case round =>
      obtain ⟨k, hk, rfl, hval, hbel⟩ := hrel
      by_cases hlt : k < l.length
      · obtain ⟨b, off, rfl, hb, hcs⟩ := HA.out.cells (by omega)
        obtain ⟨a2, cap2, hbB, ⟨c0, c1, c2, c3⟩, hfit, hargs⟩ := (hcs.keep (hbel.out.mono hB)).at k hlt
        have hbr : b < wr.heap.size := Nat.lt_of_lt_of_le hb (Nat.le_trans hB hbel.out.size)
        have hBr : B ≤ (wr.alloc (.cells #[.int .i64 (eAt l k).op, .int .i64 (eAt l k).num, .string (eAt l k).name, .slice a2 (eAt l k).args.length cap2] 111)).heap.size := by have := hbel.out.size; simp; omega
        have HAr := Lib.hid hargs
        clear hargs hcs
        go_wp2_with fail
        refine (IH.out (eAt l k) (size_arg (x := .mk o n s l) hlt) a2 cap2 _ B hBr hfit (HAr.out.keep ((below_new _ _).mono (Nat.le_trans hB hbel.out.size)))).mono ?_
        rintro e w1 ⟨rfl, hb1⟩
        have HB1 := Lib.hid (Below.then hbel.out (Below.then (below_new wr _) hb1))
        have hst := Lib.hid (hval.out.trans (wfL_drop l k hlt))
        clear hb1 c0 c1 c2 c3 HAr hBr
        cases e0 : wfE (eAt l k)
        · have hr := Lib.hid (show wfE (.mk o n s l) = false from Hv.out.trans (by rw [hst.out, e0]; rfl))
          go_wp2_with fail
          go_ret
          exact ⟨ret_boolE hr.out.symm, HB1.out⟩
        · have hst2 := Lib.hid (hst.out.trans (by rw [e0, Bool.true_and]))
          go_wp2_with fail
          go_roundw
          case rel => exact ⟨k + 1, by omega, by go_num, hst2, HB1⟩
          case measure => simp [intOf]; omega
      · obtain rfl : k = l.length := by omega
        have hr := Lib.hid (show wfE (.mk o n s l) = true from Hv.out.trans (by rw [hval.out, List.drop_length]; rfl))
        go_wp2_with fail
        go_ret
        exact ⟨ret_boolE hr.out.symm, hbel.out⟩
theorem wellFormed_any (x : ExprM) (a : Option Addr) (cap : Nat) (w : World) (B : Nat) (hB : B ≤ w.heap.size) (hf : ExprFit x) (ha : ArgsAt B w a x.args) :
    Calls Tryz.prog 211 #[.agg #[.int .i64 x.op, .int .i64 x.num, .string x.name, .slice a x.args.length cap]] w fun e w' => e = .returned (.bool (wfE x)) ∧ Below w.heap.size w w' := by
  obtain ⟨m, hm⟩ : ∃ m, m = SizeOf.sizeOf x := ⟨_, rfl⟩
  induction m using Nat.strongRecOn generalizing x a cap w B with
  | _ m ih =>
    subst hm
    obtain ⟨o, n, s, l⟩ := x
    exact wf_step o n s l a cap w B hB hf ha (fun x hx a cap w B hB hf ha => ih _ hx x a cap w B hB hf ha rfl)
end Go.Proofs.YtpgbckgjlgecpaaGreat
/- contract of grammar.fits, ValidateExpr -/
namespace Go.Proofs.YtpgbckgjlgecpaaGreat
open Go.RowKit Go.Sort
set_option linter.unusedVariables false
set_option linter.unusedSimpArgs false
set_option maxRecDepth 100000
theorem fitL_drop (lv n : Nat) (l : List ExprM) (k : Nat) (h : k < l.length) : fitL lv n (l.drop k) = if (fitE lv n (eAt l k)).1 = true then fitL lv (fitE lv n (eAt l k)).2 (l.drop (k + 1)) else (false, (fitE lv n (eAt l k)).2) := by rw [e_drop l k h, fitL]
theorem one_alloc {w : World} {nb : Nat} {o o' : Obj} (h : w.heap[nb]? = some o) : (w.alloc o').heap[nb]? = some o := by
  rw [Below.heap_alloc w o' nb (lt_of_block h)]; exact h
theorem heap_new (w : World) (o : Obj) : (w.alloc o).heap[w.heap.size]? = some o := by
  show (w.heap.push o)[w.heap.size]? = some o
  exact Array.getElem?_push_size
theorem alloc_size (w : World) (o : Obj) : (w.alloc o).heap.size = w.heap.size + 1 := by simp
set_option maxHeartbeats 1600000 in
theorem fits_step (o n : Int) (s : ByteArray) (l : List ExprM) (lv m : Nat) (a : Option Addr) (cap : Nat) (w : World) (B nb : Nat) (hB : B ≤ nb) (hnb : nb < w.heap.size) (hlv : lv ≤ 100) (hm : m ≤ 300) (hl : l.length ≤ 140737488355328) (ha : ArgsAt B w a l) (hn : w.heap[nb]? = some (.cells #[.int .i64 m] 3 (0, 0)))
    (IH : Hid (∀ x : ExprM, SizeOf.sizeOf x < SizeOf.sizeOf (ExprM.mk o n s l) → ∀ (lv m : Nat) (a : Option Addr) (cap : Nat) (w : World), nb < w.heap.size → lv ≤ 100 → m ≤ 300 → x.args.length ≤ 140737488355328 → ArgsAt B w a x.args → w.heap[nb]? = some (.cells #[.int .i64 m] 3 (0, 0)) →
      Calls Tryz.prog 210 #[.agg #[.int .i64 x.op, .int .i64 x.num, .string x.name, .slice a x.args.length cap], .int .i64 lv, .pointer (some ⟨nb, 0, none⟩)] w fun e w' => e = .returned (.bool (fitE lv m x).1) ∧ w'.heap[nb]? = some (.cells #[.int .i64 (fitE lv m x).2] 3 (0, 0)) ∧ w.grownBy w' (some nb))) :
    Calls Tryz.prog 210 #[.agg #[.int .i64 o, .int .i64 n, .string s, .slice a l.length cap], .int .i64 lv, .pointer (some ⟨nb, 0, none⟩)] w fun e w' => e = .returned (.bool (fitE lv m (.mk o n s l)).1) ∧ w'.heap[nb]? = some (.cells #[.int .i64 (fitE lv m (.mk o n s l)).2] 3 (0, 0)) ∧ w.grownBy w' (some nb) := by
  have HA := Lib.hid ha
  have c0 := cell_of_one hn
  have f0 := free_of_one hn
  have HN := Lib.hid hn
  have e1 : ((m + 1 : Nat) : Int) = (m : Int) + 1 := by omega
  have G := Lib.hid (Lib.grownBy_setCell w nb 0 (.int .i64 ((m : Int) + 1)))
  have HN1 := Lib.hid (one_setCell (u := .int .i64 ((m : Int) + 1)) hn)
  have hbox := Lib.hid (fun o => Lib.grownBy_allocR G.out o)
  have hbn := Lib.hid (fun o => one_alloc (o' := o) HN1.out)
  clear ha hn G HN1
  by_cases t : 200 < m + 1 ∨ 16 < lv
  · have hv : fitE lv m (.mk o n s l) = (false, m + 1) := by rw [fitE, if_pos t]
    rw [hv]
    simp only [e1]
    clear e1 hv
    by_cases t1 : (200 : Int) < (m : Int) + 1
    · clear t
      go_enter Tryz.func210, Tryz.ntmps210
      go_wp2_with fail
      go_ret
      exact ⟨rfl, hbn.out _, hbox.out _⟩
    · have t2 : (16 : Int) < (lv : Int) := by omega
      replace t1 : (m : Int) + 1 ≤ 200 := by omega
      clear t
      go_enter Tryz.func210, Tryz.ntmps210
      go_wp2_with fail
      go_ret
      exact ⟨rfl, hbn.out _, hbox.out _⟩
  · have t1 : (m : Int) + 1 ≤ 200 := by omega
    have t2 : (lv : Int) ≤ 16 := by omega
    have Hv := Lib.hid (show fitE lv m (.mk o n s l) = fitL (lv + 1) (m + 1) l by rw [fitE, if_neg t])
    clear e1 t
    go_enter Tryz.func210, Tryz.ntmps210
    go_wp2_with fail
    go_loopw [25] (fun i wr => ∃ k q : Nat, k ≤ l.length ∧ i = .int .i64 k ∧ q ≤ 200 ∧ Hid (fitL (lv + 1) (m + 1) l = fitL (lv + 1) q (l.drop k)) ∧ Hid (wr.heap[nb]? = some (.cells #[.int .i64 q] 3 (0, 0))) ∧ Hid (w.grownBy wr (some nb))) (fun i _ => l.length - (intOf i).toNat)
    case atStart => exact ⟨0, m + 1, Nat.zero_le _, rfl, by omega, Lib.hid rfl, Lib.hid (by have := hbn.out (Obj.cells #[Value.int .i64 o, Value.int .i64 n, Value.string s, Value.slice a l.length cap] 111); simpa using this), Lib.hid (hbox.out _)⟩
    clear hbn hbox c0 f0 HN
    case round =>
      obtain ⟨k, q, hk, rfl, hq, hval, hN, hgr⟩ := hrel
      by_cases hlt : k < l.length
      · obtain ⟨b, off, rfl, hb, hcs⟩ := HA.out.cells (by omega)
        have hBw : Below B w wr := (Below.refl B w).grown hgr.out (by omega) (fun j hj => by cases hj; exact hB)
        obtain ⟨a2, cap2, hbB, ⟨c0, c1, c2, c3⟩, hfit, hargs⟩ := (hcs.keep hBw).at k hlt
        have hws : w.heap.size ≤ wr.heap.size := hgr.out.size
        have hbr : b < wr.heap.size := by omega
        have HAr := Lib.hid hargs
        have HBW := Lib.hid hBw
        clear hargs hcs hBw
        have e2 : ((lv + 1 : Nat) : Int) = (lv : Int) + 1 := by omega
        go_wp2_with fail
        rw [← e2]
        refine (IH.out (eAt l k) (size_arg (x := .mk o n s l) hlt) (lv + 1) q a2 cap2 _ (by simp; omega) (by omega) (by omega) hfit.2.1 (HAr.out.keep ((below_new _ _).mono (by omega))) (one_alloc hN.out)).mono ?_
        rintro e w1 ⟨rfl, hN1, hg1⟩
        rw [e2]
        have HN1 := Lib.hid hN1
        have HG1 := Lib.hid (Lib.grownBy_trans hgr.out (Lib.grownBy_trans (World.grownBy_alloc wr _ _) hg1))
        have hst := Lib.hid (hval.out.trans (fitL_drop (lv + 1) q l k hlt))
        have fv := fitE_val (eAt l k) (lv + 1) q
        clear hN1 hg1 c0 c1 c2 c3 HAr e2 hN hgr hval HBW
        cases e0 : (fitE (lv + 1) q (eAt l k)).1
        · have hr := Lib.hid (show fitE lv m (.mk o n s l) = (false, (fitE (lv + 1) q (eAt l k)).2) from Hv.out.trans (by rw [hst.out, e0]; rfl))
          clear fv
          go_wp2_with fail
          go_ret
          exact ⟨ret_boolE (by rw [hr.out]), by rw [hr.out]; exact HN1.out, HG1.out⟩
        · have hst2 := Lib.hid (hst.out.trans (by rw [if_pos e0]))
          have hq2 : (fitE (lv + 1) q (eAt l k)).2 ≤ 200 := by have := fv.2.1 e0; have := fv.1.1 e0; omega
          clear fv
          go_wp2_with fail
          go_roundw
          case rel => exact ⟨k + 1, _, by omega, by go_num, hq2, hst2, HN1, HG1⟩
          case measure => simp [intOf]; omega
      · obtain rfl : k = l.length := by omega
        have hr := Lib.hid (show fitE lv m (.mk o n s l) = (true, q) from Hv.out.trans (by rw [hval.out, List.drop_length]; rfl))
        go_wp2_with fail
        go_ret
        exact ⟨ret_boolE (by rw [hr.out]), by rw [hr.out]; exact hN.out, hgr.out⟩
theorem fits_any (B nb : Nat) (hB : B ≤ nb) (x : ExprM) (lv m : Nat) (a : Option Addr) (cap : Nat) (w : World) (hnb : nb < w.heap.size) (hlv : lv ≤ 100) (hm : m ≤ 300) (hl : x.args.length ≤ 140737488355328) (ha : ArgsAt B w a x.args) (hn : w.heap[nb]? = some (.cells #[.int .i64 m] 3 (0, 0))) :
    Calls Tryz.prog 210 #[.agg #[.int .i64 x.op, .int .i64 x.num, .string x.name, .slice a x.args.length cap], .int .i64 lv, .pointer (some ⟨nb, 0, none⟩)] w fun e w' => e = .returned (.bool (fitE lv m x).1) ∧ w'.heap[nb]? = some (.cells #[.int .i64 (fitE lv m x).2] 3 (0, 0)) ∧ w.grownBy w' (some nb) := by
  obtain ⟨z, hz⟩ : ∃ m, m = SizeOf.sizeOf x := ⟨_, rfl⟩
  induction z using Nat.strongRecOn generalizing x lv m a cap w with
  | _ z ih =>
    subst hz
    obtain ⟨o, n, s, l⟩ := x
    exact fits_step o n s l lv m a cap w B nb hB hnb hlv hm hl ha hn (fun x hx lv m a cap w h1 h2 h3 h4 h5 h6 => ih _ hx x lv m a cap w h1 h2 h3 h4 h5 h6 rfl)
/-- what ValidateExpr says -/
def valE (x : ExprM) : Int := if cntE x ≤ 200 ∧ depE x ≤ 16 then (if wfE x = true then 0 else 1) else 10
set_option maxHeartbeats 800000 in
theorem validateExpr_any (x : ExprM) (a : Option Addr) (cap : Nat) (w : World) (B : Nat) (hB : B ≤ w.heap.size) (hf : ExprFit x) (ha : ArgsAt B w a x.args) :
    Calls Tryz.prog 184 #[.agg #[.int .i64 x.op, .int .i64 x.num, .string x.name, .slice a x.args.length cap]] w fun e w' => e = .returned (.int .i64 (valE x)) ∧ Below w.heap.size w w' := by
  have fv := (fitE_val x 1 0).1
  have HA := Lib.hid ha
  clear ha
  go_enter Tryz.func184, Tryz.ntmps184
  go_wp2_with fail
  obtain ⟨W, hW⟩ : ∃ W, W = (w.alloc (Obj.cells #[Value.int .i64 x.op, Value.int .i64 x.num, Value.string x.name, Value.slice a x.args.length cap] 111)).alloc (Obj.cells #[Value.int .i64 0] 3) := ⟨_, rfl⟩
  have hB0 : Below w.heap.size w W := by rw [hW]; exact Below.then (below_new _ _) (below_new _ _)
  have hsz : W.heap.size = w.heap.size + 2 := by rw [hW]; simp
  have hone : W.heap[w.heap.size + 1]? = some (.cells #[.int .i64 ((0 : Nat) : Int)] 3 (0, 0)) := by rw [hW, ← alloc_size w (Obj.cells #[Value.int .i64 x.op, Value.int .i64 x.num, Value.string x.name, Value.slice a x.args.length cap] 111)]; exact heap_new _ _
  have q0 : W.heap[w.heap.size]? = some (Obj.cells #[Value.int .i64 x.op, Value.int .i64 x.num, Value.string x.name, Value.slice a x.args.length cap] 111) := by rw [hW]; exact one_alloc (heap_new _ _)
  simp only [← hW]
  clear hW
  refine (fits_any w.heap.size (w.heap.size + 1) (Nat.le_succ _) x 1 0 a cap W (by omega) (by omega) (by omega) hf.2.1 ((HA.out.more hB).keep hB0) hone).mono ?_
  rintro e w1 ⟨rfl, hN1, hg1⟩
  have hB1 : Below w.heap.size w w1 := hB0.grown hg1 (by omega) (fun j hj => by cases hj; omega)
  have q1 : w1.heap[w.heap.size]? = some (Obj.cells #[Value.int .i64 x.op, Value.int .i64 x.num, Value.string x.name, Value.slice a x.args.length cap] 111) := (hg1.block _ (by omega) (by simp)).trans q0
  have hs1 : w.heap.size + 1 < w1.heap.size := by have := hg1.size; omega
  have d0 : w1.cell? ⟨w.heap.size, 0, none⟩ = some (.int .i64 x.op) := by simp [World.cell?, q1]
  have d1 : w1.cell? ⟨w.heap.size, 1, none⟩ = some (.int .i64 x.num) := by simp [World.cell?, q1]
  have d2 : w1.cell? ⟨w.heap.size, 2, none⟩ = some (.string x.name) := by simp [World.cell?, q1]
  have d3 : w1.cell? ⟨w.heap.size, 3, none⟩ = some (.slice a x.args.length cap) := by simp [World.cell?, q1]
  have HB1 := Lib.hid hB1
  clear q0 q1 hone hN1 hg1 hB0 hsz hB1
  cases e0 : (fitE 1 0 x).1
  · have hz := Lib.hid (show valE x = 10 from if_neg (fun h => by have := fv.2 (by omega); rw [e0] at this; cases this))
    clear fv
    go_wp2_with fail
    go_ret
    exact ⟨ret_int hz.out.symm, HB1.out⟩
  · have hz := Lib.hid (show valE x = if wfE x = true then 0 else 1 from if_pos (by have := fv.1 e0; omega))
    clear fv
    go_wp2_with fail
    refine (wellFormed_any x a cap w1 w.heap.size HB1.out.size hf ((HA.out.more hB).keep HB1.out)).mono ?_
    rintro e w2 ⟨rfl, hb2⟩
    have HB2 := Lib.hid (Below.then HB1.out hb2)
    clear hb2 d0 d1 d2 d3 HB1
    cases e1 : wfE x
    · have hz2 := Lib.hid (hz.out.trans (by rw [e1]; rfl : _ = (1 : Int)))
      go_wp2_with fail
      go_ret
      exact ⟨ret_int hz2.out.symm, HB2.out⟩
    · have hz2 := Lib.hid (hz.out.trans (by rw [e1]; rfl : _ = (0 : Int)))
      go_wp2_with fail
      go_ret
      exact ⟨ret_int hz2.out.symm, HB2.out⟩
end Go.Proofs.YtpgbckgjlgecpaaGreat
/- contracts (of crews): plain facts and how they lie in memory -/
namespace Go.Proofs.YtpgbckgjlgecpaaGreat
open Go.RowKit
set_option linter.unusedVariables false
set_option linter.unusedSimpArgs false
set_option maxRecDepth 100000

structure ConstM where
  name : ByteArray
  ex : ExprM
structure RuleM where
  scope : Int
  name : ByteArray
  ex : ExprM
structure CostM where
  scope : Int
  ex : ExprM
structure LimM where
  name : ByteArray
  meas : ByteArray
  most : Int
  days : Int
structure OffM where
  name : ByteArray
  cnt : Int
  days : Int
structure ConM where
  report : Int
  release : Int
  connect : Int
  sit : Int
  layover : Int
  nf : Int
  nt : Int
  consts : List ConstM
  rules : List RuleM
  costs : List CostM
  credit : List ExprM
  lims : List LimM
  offs : List OffM
  guar : Int
/-- where the lists of a contract lie -/
structure ConP where
  ca : Option Addr
  cc : Nat
  ra : Option Addr
  rc : Nat
  ka : Option Addr
  kc : Nat
  xa : Option Addr
  xc : Nat
  la : Option Addr
  lc : Nat
  oa : Option Addr
  oc : Nat
def conVals (c : ConM) (p : ConP) : Array Value := #[.int .i64 c.report, .int .i64 c.release, .int .i64 c.connect, .int .i64 c.sit, .int .i64 c.layover, .int .i64 c.nf, .int .i64 c.nt,
  .slice p.ca c.consts.length p.cc, .slice p.ra c.rules.length p.rc, .slice p.ka c.costs.length p.kc, .slice p.xa c.credit.length p.xc, .slice p.la c.lims.length p.lc, .slice p.oa c.offs.length p.oc, .int .i64 c.guar]
def e0 : ExprM := .mk 0 0 ByteArray.empty []
def csAt (l : List ConstM) (k : Nat) : ConstM := l.getD k ⟨ByteArray.empty, e0⟩
def rlAt (l : List RuleM) (k : Nat) : RuleM := l.getD k ⟨0, ByteArray.empty, e0⟩
def coAt (l : List CostM) (k : Nat) : CostM := l.getD k ⟨0, e0⟩
def liAt (l : List LimM) (k : Nat) : LimM := l.getD k ⟨ByteArray.empty, ByteArray.empty, 0, 0⟩
def ofAt (l : List OffM) (k : Nat) : OffM := l.getD k ⟨ByteArray.empty, 0, 0⟩
theorem cs_drop (l : List ConstM) (k : Nat) (h : k < l.length) : l.drop k = csAt l k :: l.drop (k + 1) := by
  rw [csAt, List.drop_eq_getElem_cons h, List.getD_eq_getElem?_getD, List.getElem?_eq_getElem h]; rfl
theorem rl_drop (l : List RuleM) (k : Nat) (h : k < l.length) : l.drop k = rlAt l k :: l.drop (k + 1) := by
  rw [rlAt, List.drop_eq_getElem_cons h, List.getD_eq_getElem?_getD, List.getElem?_eq_getElem h]; rfl
theorem co_drop (l : List CostM) (k : Nat) (h : k < l.length) : l.drop k = coAt l k :: l.drop (k + 1) := by
  rw [coAt, List.drop_eq_getElem_cons h, List.getD_eq_getElem?_getD, List.getElem?_eq_getElem h]; rfl
theorem li_drop (l : List LimM) (k : Nat) (h : k < l.length) : l.drop k = liAt l k :: l.drop (k + 1) := by
  rw [liAt, List.drop_eq_getElem_cons h, List.getD_eq_getElem?_getD, List.getElem?_eq_getElem h]; rfl
theorem of_drop (l : List OffM) (k : Nat) (h : k < l.length) : l.drop k = ofAt l k :: l.drop (k + 1) := by
  rw [ofAt, List.drop_eq_getElem_cons h, List.getD_eq_getElem?_getD, List.getElem?_eq_getElem h]; rfl

/-- an expression in four cells -/
def ExprC (B : Nat) (w : World) (b off : Nat) (x : ExprM) : Prop := ∃ a cap, (w.cell? ⟨b, off, none⟩ = some (.int .i64 x.op) ∧ w.cell? ⟨b, off + 1, none⟩ = some (.int .i64 x.num) ∧ w.cell? ⟨b, off + 2, none⟩ = some (.string x.name) ∧ w.cell? ⟨b, off + 3, none⟩ = some (.slice a x.args.length cap)) ∧ ExprFit x ∧ ArgsAt B w a x.args
theorem ExprC.keep {B : Nat} {w w' : World} {b off : Nat} {x : ExprM} (h : ExprC B w b off x) (hb : b < B) (hw : Below B w w') : ExprC B w' b off x := by
  obtain ⟨a, cap, ⟨h0, h1, h2, h3⟩, hf, ha⟩ := h
  have g := fun (o : Nat) => hw.cell (p := ⟨b, o, none⟩) hb
  exact ⟨a, cap, ⟨(g _).trans h0, (g _).trans h1, (g _).trans h2, (g _).trans h3⟩, hf, ha.keep hw⟩
theorem ExprC.more {B B' : Nat} {w : World} {b off : Nat} {x : ExprM} (h : ExprC B w b off x) (hB : B ≤ B') : ExprC B' w b off x := by
  obtain ⟨a, cap, h, hf, ha⟩ := h
  exact ⟨a, cap, h, hf, ha.more hB⟩
def ConstC (B : Nat) (w : World) (b off : Nat) (x : ConstM) : Prop := w.cell? ⟨b, off, none⟩ = some (.string x.name) ∧ x.name.size ≤ 140737488355328 ∧ ExprC B w b (off + 1) x.ex
def RuleC (B : Nat) (w : World) (b off : Nat) (x : RuleM) : Prop := w.cell? ⟨b, off, none⟩ = some (.int .i64 x.scope) ∧ w.cell? ⟨b, off + 1, none⟩ = some (.string x.name) ∧ x.name.size ≤ 140737488355328 ∧ (Lit.int .i64 x.scope).wf = true ∧ ExprC B w b (off + 2) x.ex
def CostC (B : Nat) (w : World) (b off : Nat) (x : CostM) : Prop := w.cell? ⟨b, off, none⟩ = some (.int .i64 x.scope) ∧ (Lit.int .i64 x.scope).wf = true ∧ ExprC B w b (off + 1) x.ex
def LimC (B : Nat) (w : World) (b off : Nat) (x : LimM) : Prop := w.cell? ⟨b, off, none⟩ = some (.string x.name) ∧ w.cell? ⟨b, off + 1, none⟩ = some (.string x.meas) ∧ w.cell? ⟨b, off + 2, none⟩ = some (.int .i64 x.most) ∧ w.cell? ⟨b, off + 3, none⟩ = some (.int .i64 x.days) ∧ x.name.size ≤ 140737488355328 ∧ x.meas.size ≤ 140737488355328
def OffC (B : Nat) (w : World) (b off : Nat) (x : OffM) : Prop := w.cell? ⟨b, off, none⟩ = some (.string x.name) ∧ w.cell? ⟨b, off + 1, none⟩ = some (.int .i64 x.cnt) ∧ w.cell? ⟨b, off + 2, none⟩ = some (.int .i64 x.days) ∧ x.name.size ≤ 140737488355328
/-- a slice whose elements lie n cells apart -/
def ListAt {X : Type} (n : Nat) (at' : List X → Nat → X) (C : Nat → World → Nat → Nat → X → Prop) (B : Nat) (w : World) (a : Option Addr) (l : List X) : Prop :=
  l.length ≤ 140737488355328 ∧ (l = [] ∨ ∃ b off, a = some ⟨b, off, none⟩ ∧ b < B ∧ ∀ i, i < l.length → C B w b (off + i * n) (at' l i))
theorem ListAt.keep {X : Type} {n : Nat} {at' : List X → Nat → X} {C : Nat → World → Nat → Nat → X → Prop} {B : Nat} {w w' : World} {a : Option Addr} {l : List X} (h : ListAt n at' C B w a l) (hw : Below B w w')
    (hC : ∀ b off x, b < B → C B w b off x → C B w' b off x) : ListAt n at' C B w' a l := by
  obtain ⟨h0, h⟩ := h
  refine ⟨h0, ?_⟩
  rcases h with h | ⟨b, off, h1, h2, h3⟩
  · exact .inl h
  · exact .inr ⟨b, off, h1, h2, fun i hi => hC _ _ _ h2 (h3 i hi)⟩
theorem ListAt.more {X : Type} {n : Nat} {at' : List X → Nat → X} {C : Nat → World → Nat → Nat → X → Prop} {B B' : Nat} {w : World} {a : Option Addr} {l : List X} (h : ListAt n at' C B w a l) (hB : B ≤ B')
    (hC : ∀ b off x, C B w b off x → C B' w b off x) : ListAt n at' C B' w a l := by
  obtain ⟨h0, h⟩ := h
  refine ⟨h0, ?_⟩
  rcases h with h | ⟨b, off, h1, h2, h3⟩
  · exact .inl h
  · exact .inr ⟨b, off, h1, Nat.lt_of_lt_of_le h2 hB, fun i hi => hC _ _ _ (h3 i hi)⟩
theorem ListAt.cells {X : Type} {n : Nat} {at' : List X → Nat → X} {C : Nat → World → Nat → Nat → X → Prop} {B : Nat} {w : World} {a : Option Addr} {l : List X} (h : ListAt n at' C B w a l) (hl : 0 < l.length) :
    ∃ b off, a = some ⟨b, off, none⟩ ∧ b < B ∧ ∀ i, i < l.length → C B w b (off + i * n) (at' l i) := by
  rcases h.2 with rfl | h
  · simp at hl
  · exact h
abbrev ConstsAt := ListAt 5 csAt ConstC
abbrev RulesAt := ListAt 6 rlAt RuleC
abbrev CostsAt := ListAt 5 coAt CostC
abbrev LimsAt := ListAt 4 liAt LimC
abbrev OffsAt := ListAt 3 ofAt OffC
theorem ConstC.keep {B : Nat} {w w' : World} (hw : Below B w w') (b off : Nat) (x : ConstM) (hb : b < B) (h : ConstC B w b off x) : ConstC B w' b off x :=
  ⟨(hw.cell (p := ⟨b, off, none⟩) hb).trans h.1, h.2.1, h.2.2.keep hb hw⟩
theorem RuleC.keep {B : Nat} {w w' : World} (hw : Below B w w') (b off : Nat) (x : RuleM) (hb : b < B) (h : RuleC B w b off x) : RuleC B w' b off x :=
  ⟨(hw.cell (p := ⟨b, off, none⟩) hb).trans h.1, (hw.cell (p := ⟨b, off + 1, none⟩) hb).trans h.2.1, h.2.2.1, h.2.2.2.1, h.2.2.2.2.keep hb hw⟩
theorem CostC.keep {B : Nat} {w w' : World} (hw : Below B w w') (b off : Nat) (x : CostM) (hb : b < B) (h : CostC B w b off x) : CostC B w' b off x :=
  ⟨(hw.cell (p := ⟨b, off, none⟩) hb).trans h.1, h.2.1, h.2.2.keep hb hw⟩
theorem LimC.keep {B : Nat} {w w' : World} (hw : Below B w w') (b off : Nat) (x : LimM) (hb : b < B) (h : LimC B w b off x) : LimC B w' b off x :=
  ⟨(hw.cell (p := ⟨b, off, none⟩) hb).trans h.1, (hw.cell (p := ⟨b, off + 1, none⟩) hb).trans h.2.1, (hw.cell (p := ⟨b, off + 2, none⟩) hb).trans h.2.2.1, (hw.cell (p := ⟨b, off + 3, none⟩) hb).trans h.2.2.2.1, h.2.2.2.2⟩
theorem OffC.keep {B : Nat} {w w' : World} (hw : Below B w w') (b off : Nat) (x : OffM) (hb : b < B) (h : OffC B w b off x) : OffC B w' b off x :=
  ⟨(hw.cell (p := ⟨b, off, none⟩) hb).trans h.1, (hw.cell (p := ⟨b, off + 1, none⟩) hb).trans h.2.1, (hw.cell (p := ⟨b, off + 2, none⟩) hb).trans h.2.2.1, h.2.2.2⟩
/-- a contract's lists lie in blocks below B -/
structure ConAt (B : Nat) (w : World) (c : ConM) (p : ConP) : Prop where
  consts : ConstsAt B w p.ca c.consts
  rules : RulesAt B w p.ra c.rules
  costs : CostsAt B w p.ka c.costs
  credit : ArgsAt B w p.xa c.credit
  creditN : c.credit.length ≤ 140737488355328
  creditF : ∀ x ∈ c.credit, ExprFit x
  lims : LimsAt B w p.la c.lims
  offs : OffsAt B w p.oa c.offs
theorem ConAt.keep {B : Nat} {w w' : World} {c : ConM} {p : ConP} (h : ConAt B w c p) (hw : Below B w w') : ConAt B w' c p where
  consts := h.consts.keep hw (ConstC.keep hw)
  rules := h.rules.keep hw (RuleC.keep hw)
  costs := h.costs.keep hw (CostC.keep hw)
  credit := h.credit.keep hw
  creditN := h.creditN
  creditF := h.creditF
  lims := h.lims.keep hw (LimC.keep hw)
  offs := h.offs.keep hw (OffC.keep hw)
theorem ConAt.more {B B' : Nat} {w : World} {c : ConM} {p : ConP} (h : ConAt B w c p) (hB : B ≤ B') : ConAt B' w c p where
  consts := h.consts.more hB (fun _ _ _ h => ⟨h.1, h.2.1, h.2.2.more hB⟩)
  rules := h.rules.more hB (fun _ _ _ h => ⟨h.1, h.2.1, h.2.2.1, h.2.2.2.1, h.2.2.2.2.more hB⟩)
  costs := h.costs.more hB (fun _ _ _ h => ⟨h.1, h.2.1, h.2.2.more hB⟩)
  credit := h.credit.more hB
  creditN := h.creditN
  creditF := h.creditF
  lims := h.lims.more hB (fun _ _ _ h => h)
  offs := h.offs.more hB (fun _ _ _ h => h)

/-- what the validations say -/
def valCs : List ByteArray → List ConstM → Int
  | _, [] => 0
  | acc, x :: l => if isNameB x.name = false then 1 else if hasB acc x.name = true then 7 else if valE x.ex ≠ 0 then valE x.ex else valCs (acc ++ [x.name]) l
def hasR (l : List (Int × ByteArray)) (s : Int) (n : ByteArray) : Bool := l.any fun p => decide (p.1 = s ∧ p.2 = n)
def valRs : List (Int × ByteArray) → List RuleM → Int
  | _, [] => 0
  | acc, x :: l => if (btwB x.scope 1 3 && isNameB x.name) = false then 1 else if hasR acc x.scope x.name = true then 7 else if valE x.ex ≠ 0 then valE x.ex else valRs (acc ++ [(x.scope, x.name)]) l
def valKs : List CostM → Int
  | [] => 0
  | x :: l => if btwB x.scope 1 3 = false then 1 else if valE x.ex ≠ 0 then valE x.ex else valKs l
def valXs : List ExprM → Int
  | [] => 0
  | x :: l => if valE x ≠ 0 then valE x else valXs l
def measTime : List (List UInt8) := [[98, 108, 111, 99, 107], [115, 112, 97, 110], [110, 105, 103, 104, 116], [99, 114, 101, 100, 105, 116]]
def measNum : List (List UInt8) := [[108, 101, 103, 115], [104, 101, 97, 100, 115], [100, 117, 116, 105, 101, 115]]
def measK (s : ByteArray) : Int := if inWords measTime s = true then 3 else if inWords measNum s = true then 2 else 0
def valLs : List ByteArray → List LimM → Int × List ByteArray
  | acc, [] => (0, acc)
  | acc, x :: l => if isNameB x.name = false then (1, acc) else if hasB acc x.name = true then (7, acc) else if measK x.meas = 0 then (6, acc) else if (btwB x.most 0 599999 && btwB x.days 1 31) = false then (5, acc) else valLs (acc ++ [x.name]) l
def valOs : List ByteArray → List OffM → Int
  | _, [] => 0
  | acc, x :: l => if isNameB x.name = false then 1 else if hasB acc x.name = true then 7 else if (btwB x.days 1 31 && btwB x.cnt 1 x.days) = false then 5 else valOs (acc ++ [x.name]) l
def valWin (c : ConM) : Int := if (valLs [] c.lims).1 ≠ 0 then (valLs [] c.lims).1 else valOs (valLs [] c.lims).2 c.offs
def rangeB (c : ConM) : Bool := btwB c.report 0 1440 && btwB c.release 0 1440 && btwB c.connect 0 1440 && btwB c.sit c.connect 1440 && btwB c.layover 0 10080 && btwB c.nf 0 1439 && btwB c.nt 0 1439 && btwB c.guar 0 599999
def sizeB (c : ConM) : Bool := decide (c.consts.length ≤ 32) && decide (c.rules.length ≤ 40) && decide (c.costs.length ≤ 16) && decide (c.credit.length ≤ 1) && decide (c.lims.length ≤ 16) && decide (c.offs.length ≤ 16)
def valG (c : ConM) : Int :=
  if rangeB c = false then 5 else if sizeB c = false then 10 else if valCs [] c.consts ≠ 0 then valCs [] c.consts else if valRs [] c.rules ≠ 0 then valRs [] c.rules
  else if valKs c.costs ≠ 0 then valKs c.costs else if valXs c.credit ≠ 0 then valXs c.credit else valWin c

/-- maps keyed by a rule's scope and name -/
def RK (s : Int) (n : ByteArray) : Value := .agg #[.int .i64 s, .string n]
theorem keyOf_RK (s : Int) (n : ByteArray) (hs : (Lit.int .i64 s).wf = true) (hn : n.size ≤ maxLen) : ∃ l, keyOf Tryz.prog 240 (RK s n) = some l := by
  obtain ⟨d, hd⟩ : ∃ d, Tryz.prog.types.size = d + 1 := ⟨Tryz.prog.types.size - 1, by kernel_rfl⟩
  unfold keyOf
  rw [Tryz.underlying240]
  simp only []
  rw [if_pos (by kernel_rfl), hd]
  have c1 : Tryz.prog.cellsOf 240 = 2 := by kernel_rfl
  have c2 : Tryz.prog.cellsOf 3 = 1 := by kernel_rfl
  have c3 : Tryz.prog.cellsOf 9 = 1 := by kernel_rfl
  simp only [Program.keyLits, Tryz.underlying240, RK, Value.cells]
  rw [if_pos ⟨c1.symm, by simp⟩]
  simp [List.mapM_cons, c2, c3, Tryz.underlying3, Tryz.underlying9, hs, hn]
theorem rkLaw : WideMaps.KeyLaw Tryz.prog 240 := deep_law (m := 5) (by omega) (by kernel_rfl) (by kernel_rfl) (by kernel_rfl)
theorem RK_inj {s s' : Int} {n n' : ByteArray} : RK s n = RK s' n' ↔ s = s' ∧ n = n' := by simp [RK]
/-- the set of rules seen -/
def RMap (w : World) (b : Nat) (L : List (Int × ByteArray)) : Prop := ∃ es c, w.heap[b]? = some (.map es c) ∧ es.toList.map (fun e => (e.key, e.val)) = L.map (fun p => (RK p.1 p.2, Value.bool true)) ∧ ∀ p ∈ L, (Lit.int .i64 p.1).wf = true ∧ p.2.size ≤ maxLen
theorem RMap.lt {w : World} {b : Nat} {L : List (Int × ByteArray)} (h : RMap w b L) : b < w.heap.size := by
  obtain ⟨es, c, h1, _⟩ := h
  exact (Array.getElem?_eq_some_iff.1 h1).1
theorem RMap.below {w w' : World} {b : Nat} {L : List (Int × ByteArray)} (h : RMap w b L) (hb : Below w.heap.size w w') : RMap w' b L := by
  have hlt := h.lt
  obtain ⟨es, c, h1, h2⟩ := h
  exact ⟨es, c, (hb.block b hlt).trans h1, h2⟩
theorem RMap.made (w : World) : RMap (w.alloc (.map #[] 0)) w.heap.size [] :=
  ⟨#[], 0, heap_new _ _, rfl, fun p hp => by simp at hp⟩
theorem RMap.key {w : World} {b : Nat} {L : List (Int × ByteArray)} {es : Array MapEntry} (h2 : es.toList.map (fun e => (e.key, e.val)) = L.map (fun p => (RK p.1 p.2, Value.bool true))) (e : MapEntry) (he : e ∈ es.toList) : ∃ p ∈ L, e.key = RK p.1 p.2 ∧ e.val = .bool true := by
  have : (e.key, e.val) ∈ es.toList.map (fun e => (e.key, e.val)) := List.mem_map.2 ⟨e, he, rfl⟩
  rw [h2, List.mem_map] at this
  obtain ⟨p, hp, e1⟩ := this
  simp only [Prod.mk.injEq] at e1
  exact ⟨p, hp, e1.1.symm, e1.2.symm⟩
theorem RMap.find {w : World} {b : Nat} {L : List (Int × ByteArray)} {s : Int} {n : ByteArray} (hs : (Lit.int .i64 s).wf = true) (hn : n.size ≤ maxLen) {es : Array MapEntry} (h2 : es.toList.map (fun e => (e.key, e.val)) = L.map (fun p => (RK p.1 p.2, Value.bool true))) (h3 : ∀ p ∈ L, (Lit.int .i64 p.1).wf = true ∧ p.2.size ≤ maxLen) :
    ((Instr.findKey 240 (RK s n) es.toList).run Tryz.prog w = .ok none w ∧ hasR L s n = false) ∨ (∃ j, (Instr.findKey 240 (RK s n) es.toList).run Tryz.prog w = .ok (some (j, .bool true)) w ∧ hasR L s n = true) := by
  obtain ⟨l, hl⟩ := keyOf_RK s n hs hn
  rcases rkLaw.find w hl es.toList (fun e he => by
    obtain ⟨p, hp, e1, _⟩ := RMap.key (w := w) (b := b) h2 e he
    rw [e1]; exact keyOf_RK _ _ (h3 p hp).1 (h3 p hp).2) with ⟨g1, g2⟩ | ⟨j, e, g1, g2, g3⟩
  · refine .inl ⟨g1, ?_⟩
    rw [hasR, List.any_eq_false]
    intro p hp hd
    obtain ⟨rfl, rfl⟩ := of_decide_eq_true hd
    have : (RK p.1 p.2, Value.bool true) ∈ es.toList.map (fun e => (e.key, e.val)) := by rw [h2]; exact List.mem_map.2 ⟨p, hp, rfl⟩
    obtain ⟨e, he, e1⟩ := List.mem_map.1 this
    exact g2 e he (Prod.mk.inj e1).1
  · obtain ⟨p, hp, e1, e2⟩ := RMap.key (w := w) (b := b) h2 e (List.mem_of_getElem? g2)
    refine .inr ⟨j, by rw [g1, e2], ?_⟩
    rw [hasR, List.any_eq_true]
    refine ⟨p, hp, decide_eq_true ?_⟩
    rw [g3] at e1
    have := RK_inj.1 e1
    exact ⟨this.1.symm, this.2.symm⟩
theorem look_rk {w : World} {b : Nat} {L : List (Int × ByteArray)} (h : RMap w b L) {s : Int} {n : ByteArray} (hs : (Lit.int .i64 s).wf = true) (hn : n.size ≤ maxLen) : (Instr.lookup 238 (.map (some b)) (.agg #[.int .i64 s, .string n]) false).run Tryz.prog w = .ok (.bool (hasR L s n)) w := by
  obtain ⟨es, c, h1, h2, h3⟩ := h
  obtain ⟨l, hl⟩ := keyOf_RK s n hs hn
  have hc := fun em => rkLaw.check w em hl
  have hz : (zeroValue 4).run Tryz.prog w = .ok (.bool false) w := by kernel_rfl
  have hk : Value.agg #[.int .i64 s, .string n] = RK s n := rfl
  rw [hk]
  rcases RMap.find (w := w) (b := b) hs hn h2 h3 with ⟨g1, g2⟩ | ⟨j, g1, g2⟩
  · simp [Instr.lookup, run_underlying Tryz.underlying238, getObj, Sem.run, h1, hc, g1, g2, hz]
  · simp [Instr.lookup, run_underlying Tryz.underlying238, getObj, Sem.run, h1, hc, g1, g2]
theorem put_rk {w : World} {b : Nat} {L : List (Int × ByteArray)} (h : RMap w b L) {s : Int} {n : ByteArray} (hs : (Lit.int .i64 s).wf = true) (hn : n.size ≤ maxLen) (hno : hasR L s n = false) :
    ∃ w', (Instr.mapUpdate 238 (.map (some b)) (.agg #[.int .i64 s, .string n]) (.bool true)).run Tryz.prog w = .ok () w' ∧ RMap w' b (L ++ [(s, n)]) ∧ w.grownBy w' (some b) := by
  have hlt := h.lt
  obtain ⟨es, c, h1, h2, h3⟩ := h
  obtain ⟨l, hl⟩ := keyOf_RK s n hs hn
  have hc := fun em => rkLaw.check w em hl
  have hk : Value.agg #[.int .i64 s, .string n] = RK s n := rfl
  rw [hk]
  have hgr : ∀ o : Obj, w.grownBy { w with heap := w.heap.setIfInBounds b o } (some b) := fun o => ⟨rfl, rfl, rfl, by simp, fun i hi hne => by
    have : b ≠ i := fun e => hne (by rw [e])
    simp [Array.getElem?_setIfInBounds, this]⟩
  rcases RMap.find (w := w) (b := b) hs hn h2 h3 with ⟨g1, g2⟩ | ⟨j, g1, g2⟩
  · refine ⟨{ w with heap := w.heap.setIfInBounds b (.map (es.push { key := RK s n, val := .bool true, born := c }) (c + 1)) }, ?_, ⟨es.push { key := RK s n, val := .bool true, born := c }, c + 1, by simp [Array.getElem?_setIfInBounds, hlt], by simp [h2], ?_⟩, hgr _⟩
    · simp [Instr.mapUpdate, run_underlying Tryz.underlying238, getObj, setObj, Sem.run, h1, hc, g1]
    · intro p hp
      rcases List.mem_append.1 hp with hp | hp
      · exact h3 p hp
      · simp at hp; subst hp; exact ⟨hs, hn⟩
  · rw [g2] at hno; cases hno
theorem mkMapR (w : World) : (Instr.makeMap 238 none).run Tryz.prog w = .ok (.map (some w.heap.size)) (w.alloc (.map #[] 0)) := by kernel_rfl
end Go.Proofs.YtpgbckgjlgecpaaGreat
/- contracts of timetable.Validate -/
namespace Go.Proofs.YtpgbckgjlgecpaaGreat
open Go.RowKit Go.Sort
set_option linter.unusedVariables false
set_option linter.unusedSimpArgs false
set_option maxRecDepth 100000
theorem zeroBool (w : World) : (zeroValue 4).run Tryz.prog w = .ok (.bool false) w := by kernel_rfl
set_option maxHeartbeats 400000 in
theorem before_any (f g : FlightM) (w : World) : Calls Tryz.prog 135 #[.agg #[.string f.num, .string f.frm, .string f.to, .int .i64 f.dep, .int .i64 f.arr, .string f.typ, .int .i64 f.n0, .int .i64 f.n1, .int .i64 f.n2], .agg #[.string g.num, .string g.frm, .string g.to, .int .i64 g.dep, .int .i64 g.arr, .string g.typ, .int .i64 g.n0, .int .i64 g.n1, .int .i64 g.n2]] w fun e w' => e = .returned (.bool (beforeB f g)) ∧ Below w.heap.size w w' := by
  by_cases h : f.dep = g.dep
  · have hn : (f.dep != g.dep) = false := by simpa using h
    have hz := Lib.hid (show beforeB f g = Op.bytesLess f.num.toList g.num.toList from if_neg (by simpa using h))
    clear h
    go_enter Tryz.func135, Tryz.ntmps135
    go_wp2_with fail
    go_ret
    exact ⟨ret_bool (by rw [hz.out]), Below.then (below_new _ _) (below_new _ _)⟩
  · have hn : (f.dep != g.dep) = true := by simpa using h
    have hz := Lib.hid (show beforeB f g = decide (f.dep < g.dep) from if_pos h)
    clear h
    go_enter Tryz.func135, Tryz.ntmps135
    go_wp2_with fail
    go_ret
    exact ⟨ret_bool (by rw [hz.out]), Below.then (below_new _ _) (below_new _ _)⟩

set_option maxHeartbeats 1600000 in
theorem validateFlight_any (f : FlightM) (ar : List ByteArray) (mb : Nat) (w : World) (hs : f.num.size ≤ 140737488355328 ∧ f.frm.size ≤ 140737488355328 ∧ f.to.size ≤ 140737488355328 ∧ f.typ.size ≤ 140737488355328) (hM : MapOf Tryz.prog w mb .string (setMap ar)) :
    Calls Tryz.prog 134 #[.agg #[.string f.num, .string f.frm, .string f.to, .int .i64 f.dep, .int .i64 f.arr, .string f.typ, .int .i64 f.n0, .int .i64 f.n1, .int .i64 f.n2], .map (some mb)] w fun e w' => e = .returned (.int .i64 (valFl ar f)) ∧ Below w.heap.size w w' := by
  obtain ⟨h1, h2, h3, h4⟩ := hs
  replace h4 : f.typ.size ≤ maxLen := by unfold maxLen; omega
  have HM := Lib.hid hM
  clear hM
  cases b1 : codeB f.num.data.toList
  · have hz := Lib.hid (show valFl ar f = 1 from by simp [valFl, b1])
    go_enter Tryz.func134, Tryz.ntmps134
    go_wp2_with (first | (go_at_call 179; refine (isCode_any _ _ h1).mono ?_; rintro e w' ⟨rfl, rfl⟩) | (go_at_call 176; refine (isName_any _ _ h4).mono ?_; rintro e w' ⟨rfl, rfl⟩))
    go_ret
    exact ⟨ret_int hz.out.symm, below_new _ _⟩
  cases b2 : nameB f.typ.data.toList
  · have hz := Lib.hid (show valFl ar f = 1 from by simp [valFl, b2])
    go_enter Tryz.func134, Tryz.ntmps134
    go_wp2_with (first | (go_at_call 179; refine (isCode_any _ _ h1).mono ?_; rintro e w' ⟨rfl, rfl⟩) | (go_at_call 176; refine (isName_any _ _ h4).mono ?_; rintro e w' ⟨rfl, rfl⟩))
    go_ret
    exact ⟨ret_int hz.out.symm, below_new _ _⟩
  have hv1 : valFl ar f = if (hasB ar f.frm && hasB ar f.to) = false then 6 else if (f.frm.toList == f.to.toList) = true then 14 else if flTime f = false then 5 else if (needOk f.n0 && needOk f.n1 && needOk f.n2) = false then 5 else 0 := by simp [valFl, b1, b2]
  have Hv := Lib.hid hv1
  clear hv1
  have L1 : ∀ o, (Instr.lookup 189 (.map (some mb)) (.string f.frm) false).run Tryz.prog (w.alloc o) = .ok (.bool (hasB ar f.frm)) (w.alloc o) := fun o => by rw [run_lookup Tryz.underlying189 Tryz.underlying9 (HM.out.alloc o) (key := .string f.frm) trivial (zeroBool _), mget_setMap]
  have L2 : ∀ o, (Instr.lookup 189 (.map (some mb)) (.string f.to) false).run Tryz.prog (w.alloc o) = .ok (.bool (hasB ar f.to)) (w.alloc o) := fun o => by rw [run_lookup Tryz.underlying189 Tryz.underlying9 (HM.out.alloc o) (key := .string f.to) trivial (zeroBool _), mget_setMap]
  cases b3 : hasB ar f.frm <;> rw [b3] at L1
  · have hz := Lib.hid (show valFl ar f = 6 from Hv.out.trans (by simp [b3]))
    go_enter Tryz.func134, Tryz.ntmps134
    go_wp2_with (first | (go_at_call 179; refine (isCode_any _ _ h1).mono ?_; rintro e w' ⟨rfl, rfl⟩) | (go_at_call 176; refine (isName_any _ _ h4).mono ?_; rintro e w' ⟨rfl, rfl⟩))
    go_ret
    exact ⟨ret_int hz.out.symm, below_new _ _⟩
  cases b4 : hasB ar f.to <;> rw [b4] at L2
  · have hz := Lib.hid (show valFl ar f = 6 from Hv.out.trans (by simp [b3, b4]))
    go_enter Tryz.func134, Tryz.ntmps134
    go_wp2_with (first | (go_at_call 179; refine (isCode_any _ _ h1).mono ?_; rintro e w' ⟨rfl, rfl⟩) | (go_at_call 176; refine (isName_any _ _ h4).mono ?_; rintro e w' ⟨rfl, rfl⟩))
    go_ret
    exact ⟨ret_int hz.out.symm, below_new _ _⟩
  cases b5 : (f.frm.toList == f.to.toList)
  · have hv2 : valFl ar f = if flTime f = false then 5 else if (needOk f.n0 && needOk f.n1 && needOk f.n2) = false then 5 else 0 := Hv.out.trans (by simp only [b3, b4, b5]; rfl)
    have Hv2 := Lib.hid hv2
    clear hv2
    cases b6 : flTime f
    · have hz := Lib.hid (show valFl ar f = 5 from Hv2.out.trans (by rw [b6]; rfl))
      have hn : ¬ (2880 ≤ f.dep ∧ f.arr ≤ 52593120 ∧ f.dep < f.arr ∧ f.arr - f.dep ≤ 1440) := by simpa [flTime] using b6
      clear b6
      by_cases t1 : f.dep < 2880
      · go_enter Tryz.func134, Tryz.ntmps134
        go_wp2_with (first | (go_at_call 179; refine (isCode_any _ _ h1).mono ?_; rintro e w' ⟨rfl, rfl⟩) | (go_at_call 176; refine (isName_any _ _ h4).mono ?_; rintro e w' ⟨rfl, rfl⟩))
        go_ret
        exact ⟨ret_int hz.out.symm, below_new _ _⟩
      by_cases t2 : 52593120 < f.arr
      · go_enter Tryz.func134, Tryz.ntmps134
        go_wp2_with (first | (go_at_call 179; refine (isCode_any _ _ h1).mono ?_; rintro e w' ⟨rfl, rfl⟩) | (go_at_call 176; refine (isName_any _ _ h4).mono ?_; rintro e w' ⟨rfl, rfl⟩))
        go_ret
        exact ⟨ret_int hz.out.symm, below_new _ _⟩
      by_cases t3 : f.arr ≤ f.dep
      · go_enter Tryz.func134, Tryz.ntmps134
        go_wp2_with (first | (go_at_call 179; refine (isCode_any _ _ h1).mono ?_; rintro e w' ⟨rfl, rfl⟩) | (go_at_call 176; refine (isName_any _ _ h4).mono ?_; rintro e w' ⟨rfl, rfl⟩))
        go_ret
        exact ⟨ret_int hz.out.symm, below_new _ _⟩
      · have t4 : 1440 < f.arr - f.dep := by omega
        go_enter Tryz.func134, Tryz.ntmps134
        go_wp2_with (first | (go_at_call 179; refine (isCode_any _ _ h1).mono ?_; rintro e w' ⟨rfl, rfl⟩) | (go_at_call 176; refine (isName_any _ _ h4).mono ?_; rintro e w' ⟨rfl, rfl⟩))
        go_ret
        exact ⟨ret_int hz.out.symm, below_new _ _⟩
    · have hv3 : valFl ar f = if (needOk f.n0 && needOk f.n1 && needOk f.n2) = false then 5 else 0 := Hv2.out.trans (by rw [b6]; rfl)
      have Hv3 := Lib.hid hv3
      obtain ⟨t1, t2, t3, t4⟩ : 2880 ≤ f.dep ∧ f.arr ≤ 52593120 ∧ f.dep < f.arr ∧ f.arr - f.dep ≤ 1440 := by simpa [flTime] using b6
      clear b6 hv3
      have i0 : ∀ w, (Instr.index 105 (.agg #[.int .i64 f.n0, .int .i64 f.n1, .int .i64 f.n2]) (.int .i64 0)).run Tryz.prog w = .ok (.int .i64 f.n0) w := fun _ => rfl
      have i1 : ∀ w, (Instr.index 105 (.agg #[.int .i64 f.n0, .int .i64 f.n1, .int .i64 f.n2]) (.int .i64 1)).run Tryz.prog w = .ok (.int .i64 f.n1) w := fun _ => rfl
      have i2 : ∀ w, (Instr.index 105 (.agg #[.int .i64 f.n0, .int .i64 f.n1, .int .i64 f.n2]) (.int .i64 2)).run Tryz.prog w = .ok (.int .i64 f.n2) w := fun _ => rfl
      go_enter Tryz.func134, Tryz.ntmps134
      go_wp2_with (first | (go_at_call 179; refine (isCode_any _ _ h1).mono ?_; rintro e w' ⟨rfl, rfl⟩) | (go_at_call 176; refine (isName_any _ _ h4).mono ?_; rintro e w' ⟨rfl, rfl⟩))
      go_loop [63] (fun i => i = .int .i64 0 ∨ (i = .int .i64 1 ∧ needOk f.n0 = true) ∨ (i = .int .i64 2 ∧ needOk f.n0 = true ∧ needOk f.n1 = true) ∨ (i = .int .i64 3 ∧ needOk f.n0 = true ∧ needOk f.n1 = true ∧ needOk f.n2 = true)) (fun i => (3 - intOf i).toNat)
      case atStart => exact .inl rfl
      case round =>
        rcases hrel with rfl | ⟨rfl, n0⟩ | ⟨rfl, n0, n1⟩ | ⟨rfl, n0, n1, n2⟩
        · cases hq : needOk f.n0
          · have hz := Lib.hid (show valFl ar f = 5 from Hv3.out.trans (by rw [hq]; simp))
            have hn : ¬ (0 ≤ f.n0 ∧ f.n0 ≤ 8) := by simpa [needOk] using hq
            by_cases u1 : f.n0 < 0
            · go_wp2_with fail
              go_ret
              exact ⟨ret_int hz.out.symm, below_new _ _⟩
            · have u2 : 8 < f.n0 := by omega
              go_wp2_with fail
              go_ret
              exact ⟨ret_int hz.out.symm, below_new _ _⟩
          · obtain ⟨u1, u2⟩ : 0 ≤ f.n0 ∧ f.n0 ≤ 8 := by simpa [needOk] using hq
            go_wp2_with fail
            go_round
            case rel => exact (.inr (.inl ⟨rfl, trivial⟩))
            case measure => simp [intOf]
        · cases hq : needOk f.n1
          · have hz := Lib.hid (show valFl ar f = 5 from Hv3.out.trans (by rw [hq]; simp))
            have hn : ¬ (0 ≤ f.n1 ∧ f.n1 ≤ 8) := by simpa [needOk] using hq
            by_cases u1 : f.n1 < 0
            · go_wp2_with fail
              go_ret
              exact ⟨ret_int hz.out.symm, below_new _ _⟩
            · have u2 : 8 < f.n1 := by omega
              go_wp2_with fail
              go_ret
              exact ⟨ret_int hz.out.symm, below_new _ _⟩
          · obtain ⟨u1, u2⟩ : 0 ≤ f.n1 ∧ f.n1 ≤ 8 := by simpa [needOk] using hq
            go_wp2_with fail
            go_round
            case rel => exact (.inr (.inr (.inl ⟨rfl, n0, trivial⟩)))
            case measure => simp [intOf]
        · cases hq : needOk f.n2
          · have hz := Lib.hid (show valFl ar f = 5 from Hv3.out.trans (by rw [hq]; simp))
            have hn : ¬ (0 ≤ f.n2 ∧ f.n2 ≤ 8) := by simpa [needOk] using hq
            by_cases u1 : f.n2 < 0
            · go_wp2_with fail
              go_ret
              exact ⟨ret_int hz.out.symm, below_new _ _⟩
            · have u2 : 8 < f.n2 := by omega
              go_wp2_with fail
              go_ret
              exact ⟨ret_int hz.out.symm, below_new _ _⟩
          · obtain ⟨u1, u2⟩ : 0 ≤ f.n2 ∧ f.n2 ≤ 8 := by simpa [needOk] using hq
            go_wp2_with fail
            go_round
            case rel => exact (.inr (.inr (.inr ⟨rfl, n0, n1, trivial⟩)))
            case measure => simp [intOf]
        · have hz := Lib.hid (show valFl ar f = 0 from Hv3.out.trans (by rw [n0, n1, n2]; rfl))
          go_wp2_with fail
          go_ret
          exact ⟨ret_int hz.out.symm, below_new _ _⟩
  · have hz := Lib.hid (show valFl ar f = 14 from Hv.out.trans (by simp only [b3, b4, b5]; rfl))
    go_enter Tryz.func134, Tryz.ntmps134
    go_wp2_with (first | (go_at_call 179; refine (isCode_any _ _ h1).mono ?_; rintro e w' ⟨rfl, rfl⟩) | (go_at_call 176; refine (isName_any _ _ h4).mono ?_; rintro e w' ⟨rfl, rfl⟩))
    go_ret
    exact ⟨ret_int hz.out.symm, below_new _ _⟩
end Go.Proofs.YtpgbckgjlgecpaaGreat
/- contract of timetable.Validate -/
namespace Go.Proofs.YtpgbckgjlgecpaaGreat
open Go.RowKit Go.Sort
set_option linter.unusedVariables false
set_option linter.unusedSimpArgs false
set_option maxRecDepth 100000
set_option maxHeartbeats 800000 in
theorem validate_wide (s : ByteArray) (o : Int) (l : List (Int × Int)) (a : Option Addr) (cap : Nat) (w : World) (hs : s.size ≤ maxLen) (hl : l.length ≤ 140737488355328) (ha : ShAt w a l) :
    Calls Tryz.prog 132 #[.agg #[.string s, .int .i64 o, .slice a l.length cap]] w fun e w' => e = .returned (.int .i64 (valZone s.data.toList o l)) ∧ Below w.heap.size w w' := by
  by_cases hb : l.length ≤ 1000000
  · exact validate_any s o l a cap w hs hb ha
  have h3 : 16 < l.length := by omega
  cases h1 : nameB s.data.toList
  · have hf := Lib.hid (show valZone s.data.toList o l = 1 from by simp [valZone, h1])
    go_enter Tryz.func132, Tryz.ntmps132
    go_wp2_with (first | (go_at_call 176; refine (isName_any _ _ hs).mono ?_; rintro e w' ⟨rfl, rfl⟩) | (go_at_call 177; refine (offset_any _ _).mono ?_; rintro e w' ⟨rfl, rfl⟩))
    go_ret
    exact ⟨ret_int hf.out.symm, (Below.refl _ _).alloc (Nat.le_refl _) _⟩
  cases h2 : offB o
  · have hf := Lib.hid (show valZone s.data.toList o l = 5 from by simp [valZone, h1, h2])
    go_enter Tryz.func132, Tryz.ntmps132
    go_wp2_with (first | (go_at_call 176; refine (isName_any _ _ hs).mono ?_; rintro e w' ⟨rfl, rfl⟩) | (go_at_call 177; refine (offset_any _ _).mono ?_; rintro e w' ⟨rfl, rfl⟩))
    go_ret
    exact ⟨ret_int hf.out.symm, (Below.refl _ _).alloc (Nat.le_refl _) _⟩
  · have hf := Lib.hid (show valZone s.data.toList o l = 10 from by simp [valZone, h1, h2, h3])
    go_enter Tryz.func132, Tryz.ntmps132
    go_wp2_with (first | (go_at_call 176; refine (isName_any _ _ hs).mono ?_; rintro e w' ⟨rfl, rfl⟩) | (go_at_call 177; refine (offset_any _ _).mono ?_; rintro e w' ⟨rfl, rfl⟩))
    go_ret
    exact ⟨ret_int hf.out.symm, (Below.refl _ _).alloc (Nat.le_refl _) _⟩

/-- a boxed timetable -/
def TBox (w : World) (z : Nat) (za : Option Addr) (zn zc : Nat) (aa : Option Addr) (an ac : Nat) (fa : Option Addr) (fn fc : Nat) : Prop :=
  z < w.heap.size ∧ w.cell? ⟨z, 0, none⟩ = some (.slice za zn zc) ∧ w.cell? ⟨z, 1, none⟩ = some (.slice aa an ac) ∧ w.cell? ⟨z, 2, none⟩ = some (.slice fa fn fc)
theorem TBox.grown {w w' : World} {z : Nat} {za aa fa : Option Addr} {zn zc an ac fn fc : Nat} {row : Option Nat} (h : TBox w z za zn zc aa an ac fa fn fc) (hg : w.grownBy w' row) (hne : some z ≠ row) : TBox w' z za zn zc aa an ac fa fn fc := by
  obtain ⟨h0, h1, h2, h3⟩ := h
  have e := hg.block z h0 hne
  have c : ∀ j, w'.cell? ⟨z, j, none⟩ = w.cell? ⟨z, j, none⟩ := fun j => by simp only [World.cell?, e]
  exact ⟨Nat.lt_of_lt_of_le h0 hg.size, (c 0).trans h1, (c 1).trans h2, (c 2).trans h3⟩
theorem TBox.below {w w' : World} {z : Nat} {za aa fa : Option Addr} {zn zc an ac fn fc : Nat} (h : TBox w z za zn zc aa an ac fa fn fc) (hb : Below w.heap.size w w') : TBox w' z za zn zc aa an ac fa fn fc := by
  obtain ⟨h0, h1, h2, h3⟩ := h
  exact ⟨Nat.lt_of_lt_of_le h0 hb.size, (hb.cell (p := ⟨z, 0, none⟩) h0).trans h1, (hb.cell (p := ⟨z, 1, none⟩) h0).trans h2, (hb.cell (p := ⟨z, 2, none⟩) h0).trans h3⟩
theorem TBox.new (w : World) (za aa fa : Option Addr) (zn zc an ac fn fc : Nat) : TBox (w.alloc (Obj.cells #[Value.slice za zn zc, Value.slice aa an ac, Value.slice fa fn fc] 26)) w.heap.size za zn zc aa an ac fa fn fc := by
  refine ⟨by simp, ?_, ?_, ?_⟩ <;> go_simp
end Go.Proofs.YtpgbckgjlgecpaaGreat
/- contract of timetable.Validate: the walk -/
namespace Go.Proofs.YtpgbckgjlgecpaaGreat
open Go.RowKit Go.Sort
set_option linter.unusedVariables false
set_option linter.unusedSimpArgs false
set_option maxRecDepth 100000
theorem valZ_bad {acc : List ByteArray} {l : List ZoneM} {k : Nat} (hk : k < l.length) (h : zval (zAt l k) ≠ 0) : valZ acc (l.drop k) = (zval (zAt l k), acc) := by
  rw [z_drop l k hk, valZ, if_pos h]
theorem valZ_dup {acc : List ByteArray} {l : List ZoneM} {k : Nat} (hk : k < l.length) (h : zval (zAt l k) = 0) (h2 : hasB acc (zAt l k).name = true) : valZ acc (l.drop k) = (7, acc) := by
  rw [z_drop l k hk, valZ, if_neg (by simpa using h), if_pos h2]
theorem valZ_go {acc : List ByteArray} {l : List ZoneM} {k : Nat} (hk : k < l.length) (h : zval (zAt l k) = 0) (h2 : hasB acc (zAt l k).name = false) : valZ acc (l.drop k) = valZ (acc ++ [(zAt l k).name]) (l.drop (k + 1)) := by
  rw [z_drop l k hk, valZ, if_neg (by simpa using h), if_neg (by simp [h2])]

theorem valA_bad {zs acc : List ByteArray} {l : List AirM} {k : Nat} (hk : k < l.length) (h : airB (aAt l k).code.data.toList = false) : valA zs acc (l.drop k) = (1, acc) := by
  rw [a_drop l k hk, valA, if_pos h]
theorem valA_dup {zs acc : List ByteArray} {l : List AirM} {k : Nat} (hk : k < l.length) (h : airB (aAt l k).code.data.toList = true) (h2 : hasB acc (aAt l k).code = true) : valA zs acc (l.drop k) = (7, acc) := by
  rw [a_drop l k hk, valA, if_neg (by simp [h]), if_pos h2]
theorem valA_unk {zs acc : List ByteArray} {l : List AirM} {k : Nat} (hk : k < l.length) (h : airB (aAt l k).code.data.toList = true) (h2 : hasB acc (aAt l k).code = false) (h3 : hasB zs (aAt l k).zone = false) : valA zs acc (l.drop k) = (6, acc) := by
  rw [a_drop l k hk, valA, if_neg (by simp [h]), if_neg (by simp [h2]), if_pos h3]
theorem valA_go {zs acc : List ByteArray} {l : List AirM} {k : Nat} (hk : k < l.length) (h : airB (aAt l k).code.data.toList = true) (h2 : hasB acc (aAt l k).code = false) (h3 : hasB zs (aAt l k).zone = true) : valA zs acc (l.drop k) = valA zs (acc ++ [(aAt l k).code]) (l.drop (k + 1)) := by
  rw [a_drop l k hk, valA, if_neg (by simp [h]), if_neg (by simp [h2]), if_neg (by simp [h3])]
def prevF (l : List FlightM) : Nat → Option FlightM
  | 0 => none
  | k + 1 => some (fAt l k)
theorem valF_bad {ar : List ByteArray} {l : List FlightM} {k : Nat} {p : Option FlightM} (hk : k < l.length) (h : valFl ar (fAt l k) ≠ 0) : valF ar p (l.drop k) = valFl ar (fAt l k) := by
  rw [f_drop l k hk, valF, if_pos h]
theorem valF_ord {ar : List ByteArray} {l : List FlightM} {k : Nat} (hk : k + 1 < l.length) (h : valFl ar (fAt l (k + 1)) = 0) (h2 : beforeB (fAt l k) (fAt l (k + 1)) = false) : valF ar (prevF l (k + 1)) (l.drop (k + 1)) = 8 := by
  rw [f_drop l (k + 1) hk, valF, if_neg (by simp [h]), if_pos (by simp [prevF, h2])]
theorem valF_go {ar : List ByteArray} {l : List FlightM} {k : Nat} (hk : k + 1 < l.length) (h : valFl ar (fAt l (k + 1)) = 0) (h2 : beforeB (fAt l k) (fAt l (k + 1)) = true) : valF ar (prevF l (k + 1)) (l.drop (k + 1)) = valF ar (prevF l (k + 1 + 1)) (l.drop (k + 1 + 1)) := by
  rw [f_drop l (k + 1) hk, valF, if_neg (by simp [h]), if_neg (by simp [prevF, h2])]; rfl
theorem valF_zero {ar : List ByteArray} {l : List FlightM} (hk : 0 < l.length) (h : valFl ar (fAt l 0) = 0) : valF ar (prevF l 0) (l.drop 0) = valF ar (prevF l 1) (l.drop 1) := by
  rw [f_drop l 0 hk, valF, if_neg (by simp [h]), if_neg (by simp [prevF])]; rfl
theorem mkMap (w : World) : (Instr.makeMap 189 none).run Tryz.prog w = .ok (.map (some w.heap.size)) (w.alloc (.map #[] 0)) := by kernel_rfl
theorem look_set {w : World} {mb : Nat} {l : List ByteArray} (s : ByteArray) (h : MapOf Tryz.prog w mb .string (setMap l)) : (Instr.lookup 189 (.map (some mb)) (.string s) false).run Tryz.prog w = .ok (.bool (hasB l s)) w := by
  rw [run_lookup Tryz.underlying189 Tryz.underlying9 h (key := .string s) trivial (zeroBool _), mget_setMap]
theorem put_set {w : World} {mb : Nat} {l : List ByteArray} {s : ByteArray} (h : MapOf Tryz.prog w mb .string (setMap l)) (hs : hasB l s = false) : ∃ w', (Instr.mapUpdate 189 (.map (some mb)) (.string s) (.bool true)).run Tryz.prog w = .ok () w' ∧ MapOf Tryz.prog w' mb .string (setMap (l ++ [s])) ∧ w.grownBy w' (some mb) := by
  have := run_update Tryz.underlying189 Tryz.underlying9 h (key := .string s) (.bool true) trivial
  rwa [mput_setMap l s hs] at this

set_option maxHeartbeats 3200000 in
theorem validateTT_any (t : TTM) (za aa fa : Option Addr) (zc ac fc : Nat) (w : World) (hz : SlAt zoneRT w za t.zones) (ha : SlAt airRT w aa t.airs) (hf : SlAt flightRT w fa t.fls) :
    Calls Tryz.prog 91 #[.agg #[.slice za t.zones.length zc, .slice aa t.airs.length ac, .slice fa t.fls.length fc]] w fun e w' => e = .returned (.int .i64 (valTT t)) ∧ Below w.heap.size w w' := by
  by_cases g1 : 16 < t.zones.length
  · have hv := Lib.hid (show valTT t = 10 from if_pos (.inl g1))
    go_enter Tryz.func91, Tryz.ntmps91
    go_wp2_with fail
    go_ret
    exact ⟨ret_int hv.out.symm, below_new _ _⟩
  by_cases g2 : 64 < t.airs.length
  · have hv := Lib.hid (show valTT t = 10 from if_pos (.inr (.inl g2)))
    go_enter Tryz.func91, Tryz.ntmps91
    go_wp2_with fail
    go_ret
    exact ⟨ret_int hv.out.symm, below_new _ _⟩
  by_cases g3 : 200 < t.fls.length
  · have hv := Lib.hid (show valTT t = 10 from if_pos (.inr (.inr g3)))
    go_enter Tryz.func91, Tryz.ntmps91
    go_wp2_with fail
    go_ret
    exact ⟨ret_int hv.out.symm, below_new _ _⟩
  have hv : valTT t = if (valZ [] t.zones).1 ≠ 0 then (valZ [] t.zones).1
    else if (valA (valZ [] t.zones).2 [] t.airs).1 ≠ 0 then (valA (valZ [] t.zones).2 [] t.airs).1
    else valF (valA (valZ [] t.zones).2 [] t.airs).2 none t.fls := if_neg (by omega)
  have Hv := Lib.hid hv
  clear hv
  have mk := mkMap
  go_enter Tryz.func91, Tryz.ntmps91
  go_wp2_with fail
  obtain ⟨W, hW⟩ : ∃ W, W = (w.alloc (Obj.cells #[Value.slice za t.zones.length zc, Value.slice aa t.airs.length ac, Value.slice fa t.fls.length fc] 26)).alloc (.map #[] 0) := ⟨_, rfl⟩
  have HT := Lib.hid ((TBox.new w za aa fa t.zones.length zc t.airs.length ac t.fls.length fc).below (below_new _ (.map #[] 0)))
  have HM := Lib.hid (MapOf.made Tryz.prog (w.alloc (Obj.cells #[Value.slice za t.zones.length zc, Value.slice aa t.airs.length ac, Value.slice fa t.fls.length fc] 26)) .string)
  have HB := Lib.hid (Below.then (below_new w (Obj.cells #[Value.slice za t.zones.length zc, Value.slice aa t.airs.length ac, Value.slice fa t.fls.length fc] 26)) (below_new _ (.map #[] 0)))
  have hm1 : (w.alloc (Obj.cells #[Value.slice za t.zones.length zc, Value.slice aa t.airs.length ac, Value.slice fa t.fls.length fc] 26)).heap.size = w.heap.size + 1 := by simp
  rw [← hW] at HT HM HB
  rw [hm1] at HM
  simp only [← hW]
  clear hW hm1
  go_loopw [33] (fun i wr => ∃ (k : Nat) (acc : List ByteArray), k ≤ t.zones.length ∧ i = .int .i64 k ∧ Hid (valZ [] t.zones = valZ acc (t.zones.drop k)) ∧ Hid (MapOf Tryz.prog wr (w.heap.size + 1) .string (setMap acc)) ∧ Hid (TBox wr w.heap.size za t.zones.length zc aa t.airs.length ac fa t.fls.length fc) ∧ Hid (Below w.heap.size w wr)) (fun i _ => t.zones.length - (intOf i).toNat)
  case atStart => exact ⟨0, [], Nat.zero_le _, rfl, Lib.hid rfl, HM, HT, HB⟩
  case round =>
    obtain ⟨k, acc, hk, rfl, hval, hM, hT, hbel⟩ := hrel
    by_cases hlt : k < t.zones.length
    · obtain ⟨b, off, rfl, hb, hcs⟩ := zone_cells hz (by omega)
      obtain ⟨sa, scap, c1, c2, c3, s1, s2, s3⟩ := (hcs.below hb hbel.out) k hlt
      replace s1 : (zAt t.zones k).name.size ≤ maxLen := by unfold maxLen; omega
      have hbr : b < wr.heap.size := Nat.lt_of_lt_of_le hb hbel.out.size
      have S3 := Lib.hid s3
      clear s3 hcs
      go_wp2_with fail
      refine (validate_wide _ _ _ _ _ _ s1 s2 (S3.out.below (below_new _ _))).mono ?_
      rintro e w1 ⟨rfl, hb1⟩
      have HB1 := Lib.hid (Below.then hbel.out (Below.then (below_new wr _) hb1))
      have HM1 := Lib.hid ((hM.out.alloc _).below hb1)
      have HT1 := Lib.hid ((hT.out.below (below_new _ _)).below hb1)
      have d1 : w1.cell? ⟨wr.heap.size, 0, none⟩ = some (.string (zAt t.zones k).name) := ((bcell hb1).1 _ 0 (by simp)).trans (by clear hb1; go_simp)
      have hs1 : wr.heap.size < w1.heap.size := Nat.lt_of_lt_of_le (by simp) hb1.size
      have L1 := look_set (zAt t.zones k).name HM1.out
      have ez : valZone (zAt t.zones k).name.data.toList (zAt t.zones k).off (zAt t.zones k).sh = zval (zAt t.zones k) := rfl
      simp only [ez]
      clear ez hb1 c1 c2 c3 S3 hT hM
      by_cases e0 : zval (zAt t.zones k) = 0
      · cases e1 : hasB acc (zAt t.zones k).name
        · rw [e1] at L1
          obtain ⟨w2, P1, M2, g2⟩ := put_set HM1.out e1
          have hst := Lib.hid (hval.out.trans (valZ_go hlt e0 e1))
          have HM2 := Lib.hid M2
          have HT2 := Lib.hid (HT1.out.grown g2 (by simp))
          have HB2 := Lib.hid (HB1.out.grown g2 HB1.out.size (by simp))
          clear M2 g2
          simp only [e0]
          go_wp2_with fail
          go_roundw
          case rel => exact ⟨k + 1, _, by omega, by go_num, hst, HM2, HT2, HB2⟩
          case measure => simp [intOf]; omega
        · rw [e1] at L1
          have hst := Lib.hid (hval.out.trans (valZ_dup hlt e0 e1))
          have hr := Lib.hid (show valTT t = 7 from Hv.out.trans (by rw [hst.out]; rfl))
          simp only [e0]
          go_wp2_with fail
          go_ret
          exact ⟨ret_int hr.out.symm, HB1.out⟩
      · have hst := Lib.hid (hval.out.trans (valZ_bad hlt e0))
        have hr := Lib.hid (show valTT t = zval (zAt t.zones k) from Hv.out.trans (by rw [hst.out]; exact if_pos e0))
        go_wp2_with fail
        go_ret
        exact ⟨ret_int hr.out.symm, HB1.out⟩
    · obtain rfl : k = t.zones.length := by omega
      have hzd : valZ [] t.zones = (0, acc) := hval.out.trans (by rw [List.drop_length]; rfl)
      have Hv2 := Lib.hid (show valTT t = if (valA acc [] t.airs).1 ≠ 0 then (valA acc [] t.airs).1 else valF (valA acc [] t.airs).2 none t.fls from Hv.out.trans (by rw [hzd]; exact if_neg (by simp)))
      clear hzd Hv hval hk hlt
      have q0 := hT.out.2.1
      have q1 := hT.out.2.2.1
      have q2 := hT.out.2.2.2
      have q3 := hT.out.1
      have hmb : w.heap.size + 1 < wr.heap.size := hM.out.lt
      go_wp2_with fail
      have HMZ := Lib.hid (hM.out.alloc (.map #[] 0))
      have HT := Lib.hid (hT.out.below (below_new _ (.map #[] 0)))
      have HMA := Lib.hid (MapOf.made Tryz.prog wr .string)
      have HB := Lib.hid (Below.then hbel.out (below_new _ (.map #[] 0)))
      have hs2 : wr.heap.size < (wr.alloc (.map #[] 0)).heap.size := by simp
      clear hM hT hbel q0 q1 q2 q3
      obtain ⟨mb2, hmb2⟩ : ∃ m, m = wr.heap.size := ⟨_, rfl⟩
      rw [← hmb2] at HMA hs2 hmb
      simp only [← hmb2]
      generalize wr.alloc (.map #[] 0) = W2 at *
      clear hmb2
      go_loopw [54] (fun i wr => ∃ (k : Nat) (ar : List ByteArray), k ≤ t.airs.length ∧ i = .int .i64 k ∧ Hid (valA acc [] t.airs = valA acc ar (t.airs.drop k)) ∧ Hid (MapOf Tryz.prog wr (w.heap.size + 1) .string (setMap acc)) ∧ Hid (MapOf Tryz.prog wr mb2 .string (setMap ar)) ∧ Hid (TBox wr w.heap.size za t.zones.length zc aa t.airs.length ac fa t.fls.length fc) ∧ Hid (Below w.heap.size w wr)) (fun i _ => t.airs.length - (intOf i).toNat)
      case atStart => exact ⟨0, [], Nat.zero_le _, rfl, Lib.hid rfl, HMZ, HMA, HT, HB⟩
      case round =>
        obtain ⟨k, ar, hk, rfl, hval, hMZ, hMA, hT, hbel⟩ := hrel
        by_cases hlt : k < t.airs.length
        · obtain ⟨b, off, rfl, hb, hcs⟩ := air_cells ha (by omega)
          obtain ⟨c1, c2, s1, s2⟩ := (hcs.below hb hbel.out) k hlt
          have hbr : b < wr.heap.size := Nat.lt_of_lt_of_le hb hbel.out.size
          clear hcs
          have HB1 := Lib.hid (fun o => Below.then hbel.out (below_new wr o))
          have LZ := fun o => look_set (aAt t.airs k).zone (hMZ.out.alloc o)
          have LA := fun o => look_set (aAt t.airs k).code (hMA.out.alloc o)
          cases e1 : airB (aAt t.airs k).code.data.toList
          · have hst := Lib.hid (hval.out.trans (valA_bad hlt e1))
            have hr := Lib.hid (show valTT t = 1 from Hv2.out.trans (by rw [hst.out]; rfl))
            clear LA LZ
            go_wp2_with (go_at_call 133; refine (isAirport_any _ _ s1).mono ?_; rintro e w' ⟨rfl, rfl⟩)
            go_ret
            exact ⟨ret_int hr.out.symm, HB1.out _⟩
          cases e2 : hasB ar (aAt t.airs k).code <;> rw [e2] at LA
          · cases e3 : hasB acc (aAt t.airs k).zone <;> rw [e3] at LZ
            · have hst := Lib.hid (hval.out.trans (valA_unk hlt e1 e2 e3))
              have hr := Lib.hid (show valTT t = 6 from Hv2.out.trans (by rw [hst.out]; rfl))
              go_wp2_with (go_at_call 133; refine (isAirport_any _ _ s1).mono ?_; rintro e w' ⟨rfl, rfl⟩)
              go_ret
              exact ⟨ret_int hr.out.symm, HB1.out _⟩
            · have hst := Lib.hid (hval.out.trans (valA_go hlt e1 e2 e3))
              obtain ⟨w2, P1, M2, g2⟩ := put_set (hMA.out.alloc (Obj.cells #[.string (aAt t.airs k).code, .string (aAt t.airs k).zone] 88)) e2
              have HM2 := Lib.hid M2
              have HZ2 := Lib.hid ((hMZ.out.alloc _).grown g2 (by simp; omega))
              have HT2 := Lib.hid ((hT.out.below (below_new _ _)).grown g2 (by simp; omega))
              have HB2 := Lib.hid ((HB1.out _).grown g2 (HB1.out _).size (by simp; omega))
              clear M2 g2
              go_wp2_with (go_at_call 133; refine (isAirport_any _ _ s1).mono ?_; rintro e w' ⟨rfl, rfl⟩)
              go_roundw
              case rel => exact ⟨k + 1, _, by omega, by go_num, hst, HZ2, HM2, HT2, HB2⟩
              case measure => simp [intOf]; omega
          · have hst := Lib.hid (hval.out.trans (valA_dup hlt e1 e2))
            have hr := Lib.hid (show valTT t = 7 from Hv2.out.trans (by rw [hst.out]; rfl))
            clear LZ
            go_wp2_with (go_at_call 133; refine (isAirport_any _ _ s1).mono ?_; rintro e w' ⟨rfl, rfl⟩)
            go_ret
            exact ⟨ret_int hr.out.symm, HB1.out _⟩
        · obtain rfl : k = t.airs.length := by omega
          have hzd : valA acc [] t.airs = (0, ar) := hval.out.trans (by rw [List.drop_length]; rfl)
          have Hv3 := Lib.hid (show valTT t = valF ar none t.fls from Hv2.out.trans (by rw [hzd]; exact if_neg (by simp)))
          clear hzd Hv2 hval hk hlt hMZ
          have q0 := hT.out.2.1
          have q1 := hT.out.2.2.1
          have q2 := hT.out.2.2.2
          have q3 := hT.out.1
          go_wp2_with fail
          clear q0 q1 q2 q3
          go_loopw [81] (fun i wr => ∃ (k : Nat), k ≤ t.fls.length ∧ i = .int .i64 k ∧ Hid (valF ar none t.fls = valF ar (prevF t.fls k) (t.fls.drop k)) ∧ Hid (MapOf Tryz.prog wr mb2 .string (setMap ar)) ∧ Hid (TBox wr w.heap.size za t.zones.length zc aa t.airs.length ac fa t.fls.length fc) ∧ Hid (Below w.heap.size w wr)) (fun i _ => t.fls.length - (intOf i).toNat)
          case atStart => exact ⟨0, Nat.zero_le _, rfl, Lib.hid rfl, hMA, hT, hbel⟩
          clear hMA hT hbel
          case round =>
            obtain ⟨k, hk, rfl, hval, hMA, hT, hbel⟩ := hrel
            by_cases hlt : k < t.fls.length
            · obtain ⟨b, off, rfl, hb, hcs⟩ := flight_cells hf (by omega)
              obtain ⟨⟨c0, c1, c2, c3, c4, c5, c6, c7, c8⟩, sz⟩ := (hcs.below hb hbel.out) k hlt
              have Hcs := Lib.hid hcs
              have hbr : b < wr.heap.size := Nat.lt_of_lt_of_le hb hbel.out.size
              clear hcs
              go_wp2_with fail
              refine (validateFlight_any (fAt t.fls k) ar mb2 _ sz (hMA.out.alloc _)).mono ?_
              rintro e w1 ⟨rfl, hb1⟩
              have HB1 := Lib.hid (Below.then hbel.out (Below.then (below_new wr _) hb1))
              have HM1 := Lib.hid ((hMA.out.alloc _).below hb1)
              have HT1 := Lib.hid ((hT.out.below (below_new _ _)).below hb1)
              have hs1 : wr.heap.size < w1.heap.size := Nat.lt_of_lt_of_le (by simp) hb1.size
              have bc := Lib.hid (fun j => (bcell hb1).1 wr.heap.size j (by simp))
              have d0 : w1.cell? ⟨wr.heap.size, 0, none⟩ = some (.string (fAt t.fls k).num) := (bc.out 0).trans (by clear bc hb1; go_simp)
              have d1 : w1.cell? ⟨wr.heap.size, 1, none⟩ = some (.string (fAt t.fls k).frm) := (bc.out 1).trans (by clear bc hb1; go_simp)
              have d2 : w1.cell? ⟨wr.heap.size, 2, none⟩ = some (.string (fAt t.fls k).to) := (bc.out 2).trans (by clear bc hb1; go_simp)
              have d3 : w1.cell? ⟨wr.heap.size, 3, none⟩ = some (.int .i64 (fAt t.fls k).dep) := (bc.out 3).trans (by clear bc hb1; go_simp)
              have d4 : w1.cell? ⟨wr.heap.size, 4, none⟩ = some (.int .i64 (fAt t.fls k).arr) := (bc.out 4).trans (by clear bc hb1; go_simp)
              have d5 : w1.cell? ⟨wr.heap.size, 5, none⟩ = some (.string (fAt t.fls k).typ) := (bc.out 5).trans (by clear bc hb1; go_simp)
              have d6 : w1.cell? ⟨wr.heap.size, 6, none⟩ = some (.int .i64 (fAt t.fls k).n0) := (bc.out 6).trans (by clear bc hb1; go_simp)
              have d7 : w1.cell? ⟨wr.heap.size, 7, none⟩ = some (.int .i64 (fAt t.fls k).n1) := (bc.out 7).trans (by clear bc hb1; go_simp)
              have d8 : w1.cell? ⟨wr.heap.size, 8, none⟩ = some (.int .i64 (fAt t.fls k).n2) := (bc.out 8).trans (by clear bc hb1; go_simp)
              clear hb1 bc c0 c1 c2 c3 c4 c5 c6 c7 c8 hT hMA
              by_cases e0 : valFl ar (fAt t.fls k) = 0
              · simp only [e0]
                have q2 := HT1.out.2.2.2
                have q3 := HT1.out.1
                have hbr1 : b < w1.heap.size := Nat.lt_trans hbr hs1
                by_cases h0 : k = 0
                · have hst := Lib.hid (hval.out.trans (by subst h0; exact valF_zero hlt e0))
                  have hd : decide (0 < k) = false := by simp; omega
                  have hk1 : k + 1 ≤ t.fls.length := hlt
                  have hkk := Lib.hid h0
                  clear h0
                  go_wp2_with fail
                  go_quiet (fail)
                  go_wp2_with fail
                  go_roundw
                  case rel => exact ⟨k + 1, by omega, by go_num, by have := hst.out; rw [hkk.out]; exact Lib.hid this, Lib.hid (HM1.out.drewN _), Lib.hid (HT1.out.below (below_drewN (Below.refl _ _) _)), Lib.hid (below_drewN HB1.out _)⟩
                  case measure => simp [intOf]; omega
                · obtain ⟨m, rfl⟩ : ∃ m, k = m + 1 := ⟨k - 1, by omega⟩
                  clear h0
                  obtain ⟨⟨g0, g1, g2, g3, g4, g5, g6, g7, g8⟩, _⟩ := (Hcs.out.below hb HB1.out) m (by omega)
                  go_wp2_with fail
                  have r0 := fun d os => cell_regrown d0 d os
                  have x0 := fun d os => cell_regrown g0 d os
                  have r1 := fun d os => cell_regrown d1 d os
                  have x1 := fun d os => cell_regrown g1 d os
                  have r2 := fun d os => cell_regrown d2 d os
                  have x2 := fun d os => cell_regrown g2 d os
                  have r3 := fun d os => cell_regrown d3 d os
                  have x3 := fun d os => cell_regrown g3 d os
                  have r4 := fun d os => cell_regrown d4 d os
                  have x4 := fun d os => cell_regrown g4 d os
                  have r5 := fun d os => cell_regrown d5 d os
                  have x5 := fun d os => cell_regrown g5 d os
                  have r6 := fun d os => cell_regrown d6 d os
                  have x6 := fun d os => cell_regrown g6 d os
                  have r7 := fun d os => cell_regrown d7 d os
                  have x7 := fun d os => cell_regrown g7 d os
                  have r8 := fun d os => cell_regrown d8 d os
                  have x8 := fun d os => cell_regrown g8 d os
                  have y := fun d os => cell_regrown q2 d os
                  have f1 := Lib.hid (fun d os => Calls.regrown_of (before_any (fAt t.fls m) (fAt t.fls (m + 1)) (grow (redrawn w1 d) os)))
                  refine wp_region_quiet_below (by kernel_rfl) (by kernel_rfl) ?_
                  repeat (first | go_big_quiet_step (first | exact f1.out _ _) | quiet_step (first | exact f1.out _ _))
                  refine wpQuiet_nil ?_
                  intro _ hw'
                  obtain ⟨⟨dq, osq⟩, hw''⟩ := hw'
                  subst hw''
                  have hb5 := below_regrown w1 dq osq
                  clear y f1 r0 x0 g0 d0 r1 x1 g1 d1 r2 x2 g2 d2 r3 x3 g3 d3 r4 x4 g4 d4 r5 x5 g5 d5 r6 x6 g6 d6 r7 x7 g7 d7 r8 x8 g8 d8
                  generalize grow (redrawn w1 dq) osq = w5 at *
                  cases e1 : beforeB (fAt t.fls m) (fAt t.fls (m + 1))
                  · have hst := Lib.hid (hval.out.trans (valF_ord hlt e0 e1))
                    have hr := Lib.hid (show valTT t = 8 from Hv3.out.trans hst.out)
                    go_wp2_with fail
                    go_ret
                    exact ⟨ret_int hr.out.symm, Below.then HB1.out hb5⟩
                  · have hst := Lib.hid (hval.out.trans (valF_go hlt e0 e1))
                    go_wp2_with fail
                    go_roundw
                    case rel => exact ⟨m + 1 + 1, by omega, by go_num, hst, Lib.hid (HM1.out.below hb5), Lib.hid (HT1.out.below hb5), Lib.hid (Below.then HB1.out hb5)⟩
                    case measure => simp [intOf]; omega
              · have hst := Lib.hid (hval.out.trans (valF_bad hlt e0))
                have hr := Lib.hid (show valTT t = valFl ar (fAt t.fls k) from Hv3.out.trans hst.out)
                go_wp2_with fail
                go_ret
                exact ⟨ret_int hr.out.symm, HB1.out⟩
            · obtain rfl : k = t.fls.length := by omega
              have hr := Lib.hid (show valTT t = 0 from Hv3.out.trans (hval.out.trans (by rw [List.drop_length]; rfl)))
              go_wp2_with fail
              go_ret
              exact ⟨ret_int hr.out.symm, hbel.out⟩
end Go.Proofs.YtpgbckgjlgecpaaGreat
/- contracts of grammar: validateConsts, validateRules -/
namespace Go.Proofs.YtpgbckgjlgecpaaGreat
open Go.RowKit Go.Sort
set_option linter.unusedVariables false
set_option linter.unusedSimpArgs false
set_option maxRecDepth 100000
theorem valCs_name {acc : List ByteArray} {l : List ConstM} {k : Nat} (hk : k < l.length) (h : isNameB (csAt l k).name = false) : valCs acc (l.drop k) = 1 := by
  rw [cs_drop l k hk, valCs, if_pos h]
theorem valCs_dup {acc : List ByteArray} {l : List ConstM} {k : Nat} (hk : k < l.length) (h : isNameB (csAt l k).name = true) (h2 : hasB acc (csAt l k).name = true) : valCs acc (l.drop k) = 7 := by
  rw [cs_drop l k hk, valCs, if_neg (by simp [h]), if_pos h2]
theorem valCs_bad {acc : List ByteArray} {l : List ConstM} {k : Nat} (hk : k < l.length) (h : isNameB (csAt l k).name = true) (h2 : hasB acc (csAt l k).name = false) (h3 : valE (csAt l k).ex ≠ 0) : valCs acc (l.drop k) = valE (csAt l k).ex := by
  rw [cs_drop l k hk, valCs, if_neg (by simp [h]), if_neg (by simp [h2]), if_pos h3]
theorem valCs_go {acc : List ByteArray} {l : List ConstM} {k : Nat} (hk : k < l.length) (h : isNameB (csAt l k).name = true) (h2 : hasB acc (csAt l k).name = false) (h3 : valE (csAt l k).ex = 0) : valCs acc (l.drop k) = valCs (acc ++ [(csAt l k).name]) (l.drop (k + 1)) := by
  rw [cs_drop l k hk, valCs, if_neg (by simp [h]), if_neg (by simp [h2]), if_neg (by simp [h3])]
theorem valRs_name {acc : List (Int × ByteArray)} {l : List RuleM} {k : Nat} (hk : k < l.length) (h : (btwB (rlAt l k).scope 1 3 && isNameB (rlAt l k).name) = false) : valRs acc (l.drop k) = 1 := by
  rw [rl_drop l k hk, valRs, if_pos h]
theorem valRs_dup {acc : List (Int × ByteArray)} {l : List RuleM} {k : Nat} (hk : k < l.length) (h : (btwB (rlAt l k).scope 1 3 && isNameB (rlAt l k).name) = true) (h2 : hasR acc (rlAt l k).scope (rlAt l k).name = true) : valRs acc (l.drop k) = 7 := by
  rw [rl_drop l k hk, valRs, if_neg (by simp [h]), if_pos h2]
theorem valRs_bad {acc : List (Int × ByteArray)} {l : List RuleM} {k : Nat} (hk : k < l.length) (h : (btwB (rlAt l k).scope 1 3 && isNameB (rlAt l k).name) = true) (h2 : hasR acc (rlAt l k).scope (rlAt l k).name = false) (h3 : valE (rlAt l k).ex ≠ 0) : valRs acc (l.drop k) = valE (rlAt l k).ex := by
  rw [rl_drop l k hk, valRs, if_neg (by simp [h]), if_neg (by simp [h2]), if_pos h3]
theorem valRs_go {acc : List (Int × ByteArray)} {l : List RuleM} {k : Nat} (hk : k < l.length) (h : (btwB (rlAt l k).scope 1 3 && isNameB (rlAt l k).name) = true) (h2 : hasR acc (rlAt l k).scope (rlAt l k).name = false) (h3 : valE (rlAt l k).ex = 0) : valRs acc (l.drop k) = valRs (acc ++ [((rlAt l k).scope, (rlAt l k).name)]) (l.drop (k + 1)) := by
  rw [rl_drop l k hk, valRs, if_neg (by simp [h]), if_neg (by simp [h2]), if_neg (by simp [h3])]
/-- the cells of a block that is known whole -/
theorem cellW {w : World} {b j : Nat} {cs : Array Value} {t : TypeId} {v : Value} {f : Nat × Nat} (h : w.heap[b]? = some (.cells cs t f)) (hj : cs[j]? = some v) : w.cell? ⟨b, j, none⟩ = some v := by simp [World.cell?, h, hj]
set_option maxHeartbeats 1600000 in
theorem validateConsts_any (l : List ConstM) (a : Option Addr) (cap : Nat) (w : World) (B : Nat) (hB : B ≤ w.heap.size) (ha : ConstsAt B w a l) :
    Calls Tryz.prog 181 #[.slice a l.length cap] w fun e w' => e = .returned (.int .i64 (valCs [] l)) ∧ Below w.heap.size w w' := by
  have hl := ha.1
  have HA := Lib.hid ha
  have mk := mkMap
  clear ha
  go_enter Tryz.func181, Tryz.ntmps181
  go_wp2_with fail
  have HM := Lib.hid (MapOf.made Tryz.prog w .string)
  have HB := Lib.hid (below_new w (.map #[] 0))
  have hs0 : w.heap.size < (w.alloc (.map #[] 0)).heap.size := by simp
  generalize w.alloc (.map #[] 0) = W at *
  go_loopw [10] (fun i wr => ∃ (k : Nat) (acc : List ByteArray), k ≤ l.length ∧ i = .int .i64 k ∧ Hid (valCs [] l = valCs acc (l.drop k)) ∧ Hid (MapOf Tryz.prog wr w.heap.size .string (setMap acc)) ∧ Hid (Below w.heap.size w wr)) (fun i _ => l.length - (intOf i).toNat)
  case atStart => exact ⟨0, [], Nat.zero_le _, rfl, Lib.hid rfl, HM, HB⟩
  clear HM HB hs0 W
  case round =>
    obtain ⟨k, acc, hk, rfl, hval, hM, hbel⟩ := hrel
    by_cases hlt : k < l.length
    · obtain ⟨b, off, rfl, hb, hcs⟩ := HA.out.cells (by omega)
      obtain ⟨c0, s1, a2, cap2, ⟨c1, c2, c3, c4⟩, hfit, hargs⟩ := (hcs k hlt).keep (hbel.out.mono hB) b _ _ hb
      have hbr : b < wr.heap.size := by have := hbel.out.size; omega
      have hmb : w.heap.size < wr.heap.size := hM.out.lt
      replace s1 : (csAt l k).name.size ≤ maxLen := by unfold maxLen; omega
      have HAr := Lib.hid hargs
      have HF := Lib.hid hfit
      have q0 := Lib.hid (heap_new wr (Obj.cells #[Value.string (csAt l k).name, Value.int .i64 (csAt l k).ex.op, Value.int .i64 (csAt l k).ex.num, Value.string (csAt l k).ex.name, Value.slice a2 (csAt l k).ex.args.length cap2] 138))
      have HM1 := Lib.hid (hM.out.alloc (Obj.cells #[Value.string (csAt l k).name, Value.int .i64 (csAt l k).ex.op, Value.int .i64 (csAt l k).ex.num, Value.string (csAt l k).ex.name, Value.slice a2 (csAt l k).ex.args.length cap2] 138))
      have HB1 := Lib.hid (Below.then hbel.out (below_new wr (Obj.cells #[Value.string (csAt l k).name, Value.int .i64 (csAt l k).ex.op, Value.int .i64 (csAt l k).ex.num, Value.string (csAt l k).ex.name, Value.slice a2 (csAt l k).ex.args.length cap2] 138)))
      have L1 := look_set (csAt l k).name HM1.out
      clear hargs hcs hM hfit
      go_wp2_with fail
      refine (isNameG_any _ _ s1).mono ?_
      rintro e w1 ⟨rfl, rfl⟩
      cases e1 : isNameB (csAt l k).name
      · have hr := Lib.hid (hval.out.trans (valCs_name hlt e1))
        clear L1
        go_wp2_with fail
        go_ret
        exact ⟨ret_int hr.out.symm, HB1.out⟩
      cases e2 : hasB acc (csAt l k).name
      · rw [e2] at L1
        obtain ⟨w2, P1, M2, g2⟩ := put_set HM1.out e2
        have q2 := (g2.block wr.heap.size (by simp) (by simp; omega)).trans q0.out
        have hs2 : wr.heap.size < w2.heap.size := Nat.lt_of_lt_of_le (by simp) g2.size
        have d1 := cellW (j := 1) q2 rfl
        have d2 := cellW (j := 2) q2 rfl
        have d3 := cellW (j := 3) q2 rfl
        have d4 := cellW (j := 4) q2 rfl
        have HM2 := Lib.hid M2
        have HB2 := Lib.hid (HB1.out.grown g2 HB1.out.size (by simp))
        have HA2 := Lib.hid (HAr.out.keep ((((below_new wr (Obj.cells #[Value.string (csAt l k).name, Value.int .i64 (csAt l k).ex.op, Value.int .i64 (csAt l k).ex.num, Value.string (csAt l k).ex.name, Value.slice a2 (csAt l k).ex.args.length cap2] 138)).mono (by omega)).grown g2 (by simp; omega) (fun j hj => by cases hj; exact hB)) : Below B wr w2))
        clear M2 g2 q2 HM1 HB1
        go_wp2_with fail
        refine (validateExpr_any (csAt l k).ex a2 cap2 w2 B (by omega) HF.out HA2.out).mono ?_
        rintro e w3 ⟨rfl, hb3⟩
        have HM3 := Lib.hid (HM2.out.below hb3)
        have HB3 := Lib.hid (Below.then HB2.out hb3)
        clear hb3 HM2 HB2 HA2 d1 d2 d3 d4 c0 c1 c2 c3 c4 L1 P1 q0
        by_cases e3 : valE (csAt l k).ex = 0
        · have hst := Lib.hid (hval.out.trans (valCs_go hlt e1 e2 e3))
          rw [e3]
          go_wp2_with fail
          go_roundw
          case rel => exact ⟨k + 1, _, by omega, by go_num, hst, HM3, HB3⟩
          case measure => simp [intOf]; omega
        · have hst := Lib.hid (hval.out.trans (valCs_bad hlt e1 e2 e3))
          have e4 : (valE (csAt l k).ex != 0) = true := by simpa using e3
          go_wp2_with fail
          go_ret
          exact ⟨ret_int hst.out.symm, HB3.out⟩
      · rw [e2] at L1
        have hr := Lib.hid (hval.out.trans (valCs_dup hlt e1 e2))
        go_wp2_with fail
        go_ret
        exact ⟨ret_int hr.out.symm, HB1.out⟩
    · obtain rfl : k = l.length := by omega
      have hr := Lib.hid (show valCs [] l = 0 from hval.out.trans (by rw [List.drop_length]; rfl))
      go_wp2_with fail
      go_ret
      exact ⟨ret_int hr.out.symm, hbel.out⟩
set_option maxHeartbeats 1600000 in
theorem validateRules_any (l : List RuleM) (a : Option Addr) (cap : Nat) (w : World) (B : Nat) (hB : B ≤ w.heap.size) (ha : RulesAt B w a l) :
    Calls Tryz.prog 182 #[.slice a l.length cap] w fun e w' => e = .returned (.int .i64 (valRs [] l)) ∧ Below w.heap.size w w' := by
  have hl := ha.1
  have HA := Lib.hid ha
  have mk := mkMapR
  clear ha
  go_enter Tryz.func182, Tryz.ntmps182
  go_wp2_with fail
  have HM := Lib.hid (RMap.made w)
  have HB := Lib.hid (below_new w (.map #[] 0))
  have hs0 : w.heap.size < (w.alloc (.map #[] 0)).heap.size := by simp
  generalize w.alloc (.map #[] 0) = W at *
  go_loopw [11] (fun i wr => ∃ (k : Nat) (acc : List (Int × ByteArray)), k ≤ l.length ∧ i = .int .i64 k ∧ Hid (valRs [] l = valRs acc (l.drop k)) ∧ Hid (RMap wr w.heap.size acc) ∧ Hid (Below w.heap.size w wr)) (fun i _ => l.length - (intOf i).toNat)
  case atStart => exact ⟨0, [], Nat.zero_le _, rfl, Lib.hid rfl, HM, HB⟩
  clear HM HB hs0 W
  case round =>
    obtain ⟨k, acc, hk, rfl, hval, hM, hbel⟩ := hrel
    by_cases hlt : k < l.length
    · obtain ⟨b, off, rfl, hb, hcs⟩ := HA.out.cells (by omega)
      obtain ⟨c0, c00, s1, sw, a2, cap2, ⟨c1, c2, c3, c4⟩, hfit, hargs⟩ := (hcs k hlt).keep (hbel.out.mono hB) b _ _ hb
      have hbr : b < wr.heap.size := by have := hbel.out.size; omega
      have hmb : w.heap.size < wr.heap.size := hM.out.lt
      replace s1 : (rlAt l k).name.size ≤ maxLen := by unfold maxLen; omega
      have HAr := Lib.hid hargs
      have HF := Lib.hid hfit
      have SW := Lib.hid sw
      have q0 := Lib.hid (heap_new wr (Obj.cells #[Value.int .i64 (rlAt l k).scope, Value.string (rlAt l k).name, Value.int .i64 (rlAt l k).ex.op, Value.int .i64 (rlAt l k).ex.num, Value.string (rlAt l k).ex.name, Value.slice a2 (rlAt l k).ex.args.length cap2] 113))
      have HM1 := Lib.hid (hM.out.below (below_new wr (Obj.cells #[Value.int .i64 (rlAt l k).scope, Value.string (rlAt l k).name, Value.int .i64 (rlAt l k).ex.op, Value.int .i64 (rlAt l k).ex.num, Value.string (rlAt l k).ex.name, Value.slice a2 (rlAt l k).ex.args.length cap2] 113)))
      have HB1 := Lib.hid (Below.then hbel.out (below_new wr (Obj.cells #[Value.int .i64 (rlAt l k).scope, Value.string (rlAt l k).name, Value.int .i64 (rlAt l k).ex.op, Value.int .i64 (rlAt l k).ex.num, Value.string (rlAt l k).ex.name, Value.slice a2 (rlAt l k).ex.args.length cap2] 113)))
      clear hargs hcs hM hfit sw
      go_wp2_with fail
      refine (scopeValid_any _ _).mono ?_
      rintro e w1 ⟨rfl, rfl⟩
      cases e0 : btwB (rlAt l k).scope 1 3
      · have hr := Lib.hid (hval.out.trans (valRs_name hlt (by rw [e0]; rfl)))
        go_wp2_with fail
        go_ret
        exact ⟨ret_int hr.out.symm, HB1.out⟩
      go_wp2_with fail
      refine (isNameG_any _ _ s1).mono ?_
      rintro e w1 ⟨rfl, rfl⟩
      cases e1 : isNameB (rlAt l k).name
      · have hr := Lib.hid (hval.out.trans (valRs_name hlt (by rw [e1]; simp)))
        go_wp2_with fail
        go_ret
        exact ⟨ret_int hr.out.symm, HB1.out⟩
      have e01 := Lib.hid (show (btwB (rlAt l k).scope 1 3 && isNameB (rlAt l k).name) = true by rw [e0, e1]; rfl)
      have q1 := Lib.hid (one_alloc (o' := Obj.cells #[Value.int .i64 (rlAt l k).scope, Value.string (rlAt l k).name] 240) q0.out)
      have HM2 := Lib.hid (HM1.out.below (below_new _ (Obj.cells #[Value.int .i64 (rlAt l k).scope, Value.string (rlAt l k).name] 240)))
      have HB2 := Lib.hid (Below.then HB1.out (below_new _ (Obj.cells #[Value.int .i64 (rlAt l k).scope, Value.string (rlAt l k).name] 240)))
      have L1 := look_rk HM2.out SW.out s1
      cases e2 : hasR acc (rlAt l k).scope (rlAt l k).name
      · rw [e2] at L1
        obtain ⟨w2, P1, M2, g2⟩ := put_rk HM2.out SW.out s1 e2
        have q2 := (g2.block wr.heap.size (by simp; omega) (by simp; omega)).trans q1.out
        have hs2 : wr.heap.size < w2.heap.size := Nat.lt_of_lt_of_le (by simp; omega) g2.size
        have d1 := cellW (j := 2) q2 rfl
        have d2 := cellW (j := 3) q2 rfl
        have d3 := cellW (j := 4) q2 rfl
        have d4 := cellW (j := 5) q2 rfl
        have HM3 := Lib.hid M2
        have HB3 := Lib.hid (HB2.out.grown g2 HB2.out.size (by simp))
        have HA2 := Lib.hid (HAr.out.keep ((((Below.then (below_new wr (Obj.cells #[Value.int .i64 (rlAt l k).scope, Value.string (rlAt l k).name, Value.int .i64 (rlAt l k).ex.op, Value.int .i64 (rlAt l k).ex.num, Value.string (rlAt l k).ex.name, Value.slice a2 (rlAt l k).ex.args.length cap2] 113)) (below_new _ _)).mono (by omega)).grown g2 (by simp; omega) (fun j hj => by cases hj; exact hB)) : Below B wr w2))
        clear M2 g2 q2 HM1 HB1 HM2 HB2 q1
        go_wp2_with fail
        refine (validateExpr_any (rlAt l k).ex a2 cap2 w2 B (by omega) HF.out HA2.out).mono ?_
        rintro e w3 ⟨rfl, hb3⟩
        have HM4 := Lib.hid (HM3.out.below hb3)
        have HB4 := Lib.hid (Below.then HB3.out hb3)
        clear hb3 HM3 HB3 HA2 d1 d2 d3 d4 c0 c00 c1 c2 c3 c4 L1 P1 q0
        by_cases e3 : valE (rlAt l k).ex = 0
        · have hst := Lib.hid (hval.out.trans (valRs_go hlt e01.out e2 e3))
          rw [e3]
          go_wp2_with fail
          go_roundw
          case rel => exact ⟨k + 1, _, by omega, by go_num, hst, HM4, HB4⟩
          case measure => simp [intOf]; omega
        · have hst := Lib.hid (hval.out.trans (valRs_bad hlt e01.out e2 e3))
          have e4 : (valE (rlAt l k).ex != 0) = true := by simpa using e3
          go_wp2_with fail
          go_ret
          exact ⟨ret_int hst.out.symm, HB4.out⟩
      · rw [e2] at L1
        have hr := Lib.hid (hval.out.trans (valRs_dup hlt e01.out e2))
        go_wp2_with fail
        go_ret
        exact ⟨ret_int hr.out.symm, HB2.out⟩
    · obtain rfl : k = l.length := by omega
      have hr := Lib.hid (show valRs [] l = 0 from hval.out.trans (by rw [List.drop_length]; rfl))
      go_wp2_with fail
      go_ret
      exact ⟨ret_int hr.out.symm, hbel.out⟩
end Go.Proofs.YtpgbckgjlgecpaaGreat
/- contracts of grammar: measureKind, validateWindows -/
namespace Go.Proofs.YtpgbckgjlgecpaaGreat
open Go.RowKit Go.Sort
set_option linter.unusedVariables false
set_option linter.unusedSimpArgs false
set_option maxRecDepth 100000
def ConBox (w : World) (b : Nat) (c : ConM) (p : ConP) : Prop := w.heap[b]? = some (.cells (conVals c p) 34 (0, 0))
theorem ConBox.new (w : World) (c : ConM) (p : ConP) : ConBox (w.alloc (Obj.cells #[Value.int .i64 c.report, Value.int .i64 c.release, Value.int .i64 c.connect, Value.int .i64 c.sit, Value.int .i64 c.layover, Value.int .i64 c.nf, Value.int .i64 c.nt, Value.slice p.ca c.consts.length p.cc, Value.slice p.ra c.rules.length p.rc, Value.slice p.ka c.costs.length p.kc, Value.slice p.xa c.credit.length p.xc, Value.slice p.la c.lims.length p.lc, Value.slice p.oa c.offs.length p.oc, Value.int .i64 c.guar] 34)) w.heap.size c p := heap_new w _
theorem ConBox.lt {w : World} {b : Nat} {c : ConM} {p : ConP} (h : ConBox w b c p) : b < w.heap.size := lt_of_block h
theorem ConBox.below {w w' : World} {b : Nat} {c : ConM} {p : ConP} (h : ConBox w b c p) (hb : Below w.heap.size w w') : ConBox w' b c p := (hb.block b h.lt).trans h
theorem ConBox.grown {w w' : World} {b : Nat} {c : ConM} {p : ConP} {row : Option Nat} (h : ConBox w b c p) (hg : w.grownBy w' row) (hne : some b ≠ row) : ConBox w' b c p := (hg.block b h.lt hne).trans h
set_option maxHeartbeats 400000 in
theorem measureKind_any (s : ByteArray) (w : World) : Calls Tryz.prog 212 #[.string s] w fun e w' => e = .returned (.int .i64 (measK s)) ∧ w = w' := by
  go_enter Tryz.func212, Tryz.ntmps212
  go_wp2_with fail
  all_goals (go_ret; exact ⟨ret_int (by first | (simp only [measK, inWords, measTime, measNum, List.any_cons, List.any_nil, *]; rfl) | simp_all), rfl⟩)
theorem valLs_name {acc : List ByteArray} {l : List LimM} {k : Nat} (hk : k < l.length) (h : isNameB (liAt l k).name = false) : valLs acc (l.drop k) = (1, acc) := by
  rw [li_drop l k hk, valLs, if_pos h]
theorem valLs_dup {acc : List ByteArray} {l : List LimM} {k : Nat} (hk : k < l.length) (h : isNameB (liAt l k).name = true) (h2 : hasB acc (liAt l k).name = true) : valLs acc (l.drop k) = (7, acc) := by
  rw [li_drop l k hk, valLs, if_neg (by simp [h]), if_pos h2]
theorem valLs_meas {acc : List ByteArray} {l : List LimM} {k : Nat} (hk : k < l.length) (h : isNameB (liAt l k).name = true) (h2 : hasB acc (liAt l k).name = false) (h3 : measK (liAt l k).meas = 0) : valLs acc (l.drop k) = (6, acc) := by
  rw [li_drop l k hk, valLs, if_neg (by simp [h]), if_neg (by simp [h2]), if_pos h3]
theorem valLs_rng {acc : List ByteArray} {l : List LimM} {k : Nat} (hk : k < l.length) (h : isNameB (liAt l k).name = true) (h2 : hasB acc (liAt l k).name = false) (h3 : measK (liAt l k).meas ≠ 0) (h4 : (btwB (liAt l k).most 0 599999 && btwB (liAt l k).days 1 31) = false) : valLs acc (l.drop k) = (5, acc) := by
  rw [li_drop l k hk, valLs, if_neg (by simp [h]), if_neg (by simp [h2]), if_neg h3, if_pos h4]
theorem valLs_go {acc : List ByteArray} {l : List LimM} {k : Nat} (hk : k < l.length) (h : isNameB (liAt l k).name = true) (h2 : hasB acc (liAt l k).name = false) (h3 : measK (liAt l k).meas ≠ 0) (h4 : (btwB (liAt l k).most 0 599999 && btwB (liAt l k).days 1 31) = true) : valLs acc (l.drop k) = valLs (acc ++ [(liAt l k).name]) (l.drop (k + 1)) := by
  rw [li_drop l k hk, valLs, if_neg (by simp [h]), if_neg (by simp [h2]), if_neg h3, if_neg (by simp [h4])]
theorem valOs_name {acc : List ByteArray} {l : List OffM} {k : Nat} (hk : k < l.length) (h : isNameB (ofAt l k).name = false) : valOs acc (l.drop k) = 1 := by
  rw [of_drop l k hk, valOs, if_pos h]
theorem valOs_dup {acc : List ByteArray} {l : List OffM} {k : Nat} (hk : k < l.length) (h : isNameB (ofAt l k).name = true) (h2 : hasB acc (ofAt l k).name = true) : valOs acc (l.drop k) = 7 := by
  rw [of_drop l k hk, valOs, if_neg (by simp [h]), if_pos h2]
theorem valOs_rng {acc : List ByteArray} {l : List OffM} {k : Nat} (hk : k < l.length) (h : isNameB (ofAt l k).name = true) (h2 : hasB acc (ofAt l k).name = false) (h4 : (btwB (ofAt l k).days 1 31 && btwB (ofAt l k).cnt 1 (ofAt l k).days) = false) : valOs acc (l.drop k) = 5 := by
  rw [of_drop l k hk, valOs, if_neg (by simp [h]), if_neg (by simp [h2]), if_pos h4]
theorem valOs_go {acc : List ByteArray} {l : List OffM} {k : Nat} (hk : k < l.length) (h : isNameB (ofAt l k).name = true) (h2 : hasB acc (ofAt l k).name = false) (h4 : (btwB (ofAt l k).days 1 31 && btwB (ofAt l k).cnt 1 (ofAt l k).days) = true) : valOs acc (l.drop k) = valOs (acc ++ [(ofAt l k).name]) (l.drop (k + 1)) := by
  rw [of_drop l k hk, valOs, if_neg (by simp [h]), if_neg (by simp [h2]), if_neg (by simp [h4])]
set_option maxHeartbeats 3200000 in
theorem validateWindows_any (c : ConM) (p : ConP) (w : World) (B : Nat) (hB : B ≤ w.heap.size) (hL : LimsAt B w p.la c.lims) (hO : OffsAt B w p.oa c.offs) :
    Calls Tryz.prog 185 #[.agg #[.int .i64 c.report, .int .i64 c.release, .int .i64 c.connect, .int .i64 c.sit, .int .i64 c.layover, .int .i64 c.nf, .int .i64 c.nt, .slice p.ca c.consts.length p.cc, .slice p.ra c.rules.length p.rc, .slice p.ka c.costs.length p.kc, .slice p.xa c.credit.length p.xc, .slice p.la c.lims.length p.lc, .slice p.oa c.offs.length p.oc, .int .i64 c.guar]] w fun e w' => e = .returned (.int .i64 (valWin c)) ∧ Below w.heap.size w w' := by
  have hl1 := hL.1
  have hl2 := hO.1
  have HL := Lib.hid hL
  have HO := Lib.hid hO
  have mk := mkMap
  clear hL hO
  have Hv := Lib.hid (show valWin c = if (valLs [] c.lims).1 ≠ 0 then (valLs [] c.lims).1 else valOs (valLs [] c.lims).2 c.offs from rfl)
  go_enter Tryz.func185, Tryz.ntmps185
  go_wp2_with fail
  obtain ⟨W, hW⟩ : ∃ W, W = (w.alloc (Obj.cells #[Value.int .i64 c.report, Value.int .i64 c.release, Value.int .i64 c.connect, Value.int .i64 c.sit, Value.int .i64 c.layover, Value.int .i64 c.nf, Value.int .i64 c.nt, Value.slice p.ca c.consts.length p.cc, Value.slice p.ra c.rules.length p.rc, Value.slice p.ka c.costs.length p.kc, Value.slice p.xa c.credit.length p.xc, Value.slice p.la c.lims.length p.lc, Value.slice p.oa c.offs.length p.oc, Value.int .i64 c.guar] 34)).alloc (.map #[] 0) := ⟨_, rfl⟩
  have HC := Lib.hid ((ConBox.new w c p).below (below_new _ (.map #[] 0)))
  have HM := Lib.hid (MapOf.made Tryz.prog (w.alloc (Obj.cells #[Value.int .i64 c.report, Value.int .i64 c.release, Value.int .i64 c.connect, Value.int .i64 c.sit, Value.int .i64 c.layover, Value.int .i64 c.nf, Value.int .i64 c.nt, Value.slice p.ca c.consts.length p.cc, Value.slice p.ra c.rules.length p.rc, Value.slice p.ka c.costs.length p.kc, Value.slice p.xa c.credit.length p.xc, Value.slice p.la c.lims.length p.lc, Value.slice p.oa c.offs.length p.oc, Value.int .i64 c.guar] 34)) .string)
  have HB := Lib.hid (Below.then (below_new w (Obj.cells #[Value.int .i64 c.report, Value.int .i64 c.release, Value.int .i64 c.connect, Value.int .i64 c.sit, Value.int .i64 c.layover, Value.int .i64 c.nf, Value.int .i64 c.nt, Value.slice p.ca c.consts.length p.cc, Value.slice p.ra c.rules.length p.rc, Value.slice p.ka c.costs.length p.kc, Value.slice p.xa c.credit.length p.xc, Value.slice p.la c.lims.length p.lc, Value.slice p.oa c.offs.length p.oc, Value.int .i64 c.guar] 34)) (below_new _ (.map #[] 0)))
  rw [alloc_size] at HM
  rw [← hW] at HC HM HB
  simp only [← hW]
  clear hW
  go_loopw [12] (fun i wr => ∃ (k : Nat) (acc : List ByteArray), k ≤ c.lims.length ∧ i = .int .i64 k ∧ Hid (valLs [] c.lims = valLs acc (c.lims.drop k)) ∧ Hid (MapOf Tryz.prog wr (w.heap.size + 1) .string (setMap acc)) ∧ Hid (ConBox wr w.heap.size c p) ∧ Hid (Below w.heap.size w wr)) (fun i _ => c.lims.length - (intOf i).toNat)
  case atStart => exact ⟨0, [], Nat.zero_le _, rfl, Lib.hid rfl, HM, HC, HB⟩
  clear HM HB HC W
  case round =>
    obtain ⟨k, acc, hk, rfl, hval, hM, hC, hbel⟩ := hrel
    by_cases hlt : k < c.lims.length
    · obtain ⟨b, off, hpa, hb, hcs⟩ := HL.out.cells (by omega)
      rw [hpa]
      obtain ⟨c0, c1, c2, c3, s1, s2⟩ := (hcs k hlt).keep (hbel.out.mono hB) b _ _ hb
      have hbr : b < wr.heap.size := by have := hbel.out.size; omega
      have hmb : w.heap.size + 1 < wr.heap.size := hM.out.lt
      replace s1 : (liAt c.lims k).name.size ≤ maxLen := by unfold maxLen; omega
      have q0 := Lib.hid (heap_new wr (Obj.cells #[Value.string (liAt c.lims k).name, Value.string (liAt c.lims k).meas, Value.int .i64 (liAt c.lims k).most, Value.int .i64 (liAt c.lims k).days] 245))
      have HM1 := Lib.hid (hM.out.alloc (Obj.cells #[Value.string (liAt c.lims k).name, Value.string (liAt c.lims k).meas, Value.int .i64 (liAt c.lims k).most, Value.int .i64 (liAt c.lims k).days] 245))
      have HC1 := Lib.hid (hC.out.below (below_new wr (Obj.cells #[Value.string (liAt c.lims k).name, Value.string (liAt c.lims k).meas, Value.int .i64 (liAt c.lims k).most, Value.int .i64 (liAt c.lims k).days] 245)))
      have HB1 := Lib.hid (Below.then hbel.out (below_new wr (Obj.cells #[Value.string (liAt c.lims k).name, Value.string (liAt c.lims k).meas, Value.int .i64 (liAt c.lims k).most, Value.int .i64 (liAt c.lims k).days] 245)))
      have L1 := look_set (liAt c.lims k).name HM1.out
      clear hcs hM hpa hC
      go_wp2_with fail
      refine (isNameG_any _ _ s1).mono ?_
      rintro e w1 ⟨rfl, rfl⟩
      cases e1 : isNameB (liAt c.lims k).name
      · have hr := Lib.hid (show valWin c = 1 from Hv.out.trans (by rw [hval.out, valLs_name hlt e1]; rfl))
        clear L1
        go_wp2_with fail
        go_ret
        exact ⟨ret_int hr.out.symm, HB1.out⟩
      cases e2 : hasB acc (liAt c.lims k).name
      · rw [e2] at L1
        by_cases e3 : measK (liAt c.lims k).meas = 0
        · have hr := Lib.hid (show valWin c = 6 from Hv.out.trans (by rw [hval.out, valLs_meas hlt e1 e2 e3]; rfl))
          go_wp2_with fail
          refine (measureKind_any _ _).mono ?_
          rintro e w1 ⟨rfl, rfl⟩
          rw [e3]
          go_wp2_with fail
          go_ret
          exact ⟨ret_int hr.out.symm, HB1.out⟩
        have E3 := Lib.hid e3
        have e3b : (measK (liAt c.lims k).meas == 0) = false := by simpa using e3
        clear e3
        cases e4 : btwB (liAt c.lims k).most 0 599999
        · have hr := Lib.hid (show valWin c = 5 from Hv.out.trans (by rw [hval.out, valLs_rng hlt e1 e2 E3.out (by rw [e4]; rfl)]; rfl))
          go_wp2_with fail
          refine (measureKind_any _ _).mono ?_
          rintro e w1 ⟨rfl, rfl⟩
          go_wp2_with fail
          refine (within_any _ _ _ _).mono ?_
          rintro e w1 ⟨rfl, rfl⟩
          go_wp2_with fail
          go_ret
          exact ⟨ret_int hr.out.symm, HB1.out⟩
        cases e5 : btwB (liAt c.lims k).days 1 31
        · have hr := Lib.hid (show valWin c = 5 from Hv.out.trans (by rw [hval.out, valLs_rng hlt e1 e2 E3.out (by rw [e5]; simp)]; rfl))
          go_wp2_with fail
          refine (measureKind_any _ _).mono ?_
          rintro e w1 ⟨rfl, rfl⟩
          go_wp2_with fail
          refine (within_any _ _ _ _).mono ?_
          rintro e w1 ⟨rfl, rfl⟩
          go_wp2_with fail
          refine (within_any _ _ _ _).mono ?_
          rintro e w1 ⟨rfl, rfl⟩
          go_wp2_with fail
          go_ret
          exact ⟨ret_int hr.out.symm, HB1.out⟩
        obtain ⟨w2, P1, M2, g2⟩ := put_set HM1.out e2
        have HM2 := Lib.hid M2
        have HC2 := Lib.hid (HC1.out.grown g2 (by simp))
        have HB2 := Lib.hid (HB1.out.grown g2 HB1.out.size (by simp))
        have hst := Lib.hid (hval.out.trans (valLs_go hlt e1 e2 E3.out (by rw [e4, e5]; rfl)))
        clear M2 g2 HM1 HB1 HC1
        go_wp2_with fail
        refine (measureKind_any _ _).mono ?_
        rintro e w1 ⟨rfl, rfl⟩
        go_wp2_with fail
        refine (within_any _ _ _ _).mono ?_
        rintro e w1 ⟨rfl, rfl⟩
        go_wp2_with fail
        refine (within_any _ _ _ _).mono ?_
        rintro e w1 ⟨rfl, rfl⟩
        go_wp2_with fail
        go_roundw
        case rel => exact ⟨k + 1, _, by omega, by go_num, hst, HM2, HC2, HB2⟩
        case measure => simp [intOf]; omega
      · rw [e2] at L1
        have hr := Lib.hid (show valWin c = 7 from Hv.out.trans (by rw [hval.out, valLs_dup hlt e1 e2]; rfl))
        go_wp2_with fail
        go_ret
        exact ⟨ret_int hr.out.symm, HB1.out⟩
    · obtain rfl : k = c.lims.length := by omega
      have Hv2 := Lib.hid (show valWin c = valOs acc c.offs from Hv.out.trans (by rw [hval.out, List.drop_length]; rfl))
      have d12 : wr.cell? ⟨w.heap.size, 12, none⟩ = some (.slice p.oa c.offs.length p.oc) := cellW (j := 12) hC.out rfl
      have hcl := hC.out.lt
      clear Hv hval hk hlt
      go_wp2_with fail
      clear d12 hcl
      obtain ⟨w0, rfl⟩ : ∃ w0 : World, w0 = wr := ⟨_, rfl⟩
      go_loopw [49] (fun i wr => ∃ (k : Nat) (ac : List ByteArray), k ≤ c.offs.length ∧ i = .int .i64 k ∧ Hid (valOs acc c.offs = valOs ac (c.offs.drop k)) ∧ Hid (MapOf Tryz.prog wr (w.heap.size + 1) .string (setMap ac)) ∧ Hid (Below w.heap.size w wr)) (fun i _ => c.offs.length - (intOf i).toNat)
      case atStart => exact ⟨0, acc, Nat.zero_le _, rfl, Lib.hid rfl, hM, hbel⟩
      clear hM hbel hC
      case round =>
        obtain ⟨k, acc, hk, rfl, hval, hM, hbel⟩ := hrel
        by_cases hlt : k < c.offs.length
        · obtain ⟨b, off, hpa, hb, hcs⟩ := HO.out.cells (by omega)
          rw [hpa]
          obtain ⟨c0, c1, c2, s1⟩ := (hcs k hlt).keep (hbel.out.mono hB) b _ _ hb
          have hbr : b < wr.heap.size := by have := hbel.out.size; omega
          have hmb : w.heap.size + 1 < wr.heap.size := hM.out.lt
          replace s1 : (ofAt c.offs k).name.size ≤ maxLen := by unfold maxLen; omega
          have q0 := Lib.hid (heap_new wr (Obj.cells #[Value.string (ofAt c.offs k).name, Value.int .i64 (ofAt c.offs k).cnt, Value.int .i64 (ofAt c.offs k).days] 247))
          have HM1 := Lib.hid (hM.out.alloc (Obj.cells #[Value.string (ofAt c.offs k).name, Value.int .i64 (ofAt c.offs k).cnt, Value.int .i64 (ofAt c.offs k).days] 247))
          have HB1 := Lib.hid (Below.then hbel.out (below_new wr (Obj.cells #[Value.string (ofAt c.offs k).name, Value.int .i64 (ofAt c.offs k).cnt, Value.int .i64 (ofAt c.offs k).days] 247)))
          have L1 := look_set (ofAt c.offs k).name HM1.out
          clear hcs hM hpa
          go_wp2_with fail
          refine (isNameG_any _ _ s1).mono ?_
          rintro e w1 ⟨rfl, rfl⟩
          cases e1 : isNameB (ofAt c.offs k).name
          · have hr := Lib.hid (Hv2.out.trans (hval.out.trans (valOs_name hlt e1)))
            clear L1
            go_wp2_with fail
            go_ret
            exact ⟨ret_int hr.out.symm, HB1.out⟩
          cases e2 : hasB acc (ofAt c.offs k).name
          · rw [e2] at L1
            cases e4 : btwB (ofAt c.offs k).days 1 31
            · have hr := Lib.hid (Hv2.out.trans (hval.out.trans (valOs_rng hlt e1 e2 (by rw [e4]; rfl))))
              go_wp2_with fail
              refine (within_any _ _ _ _).mono ?_
              rintro e w1 ⟨rfl, rfl⟩
              go_wp2_with fail
              go_ret
              exact ⟨ret_int hr.out.symm, HB1.out⟩
            cases e5 : btwB (ofAt c.offs k).cnt 1 (ofAt c.offs k).days
            · have hr := Lib.hid (Hv2.out.trans (hval.out.trans (valOs_rng hlt e1 e2 (by rw [e5]; simp))))
              go_wp2_with fail
              refine (within_any _ _ _ _).mono ?_
              rintro e w1 ⟨rfl, rfl⟩
              go_wp2_with fail
              refine (within_any _ _ _ _).mono ?_
              rintro e w1 ⟨rfl, rfl⟩
              go_wp2_with fail
              go_ret
              exact ⟨ret_int hr.out.symm, HB1.out⟩
            obtain ⟨w2, P1, M2, g2⟩ := put_set HM1.out e2
            have HM2 := Lib.hid M2
            have HB2 := Lib.hid (HB1.out.grown g2 HB1.out.size (by simp))
            have hst := Lib.hid (hval.out.trans (valOs_go hlt e1 e2 (by rw [e4, e5]; rfl)))
            clear M2 g2 HM1 HB1
            go_wp2_with fail
            refine (within_any _ _ _ _).mono ?_
            rintro e w1 ⟨rfl, rfl⟩
            go_wp2_with fail
            refine (within_any _ _ _ _).mono ?_
            rintro e w1 ⟨rfl, rfl⟩
            go_wp2_with fail
            go_roundw
            case rel => exact ⟨k + 1, _, by omega, by go_num, hst, HM2, HB2⟩
            case measure => simp [intOf]; omega
          · rw [e2] at L1
            have hr := Lib.hid (Hv2.out.trans (hval.out.trans (valOs_dup hlt e1 e2)))
            go_wp2_with fail
            go_ret
            exact ⟨ret_int hr.out.symm, HB1.out⟩
        · obtain rfl : k = c.offs.length := by omega
          have hr := Lib.hid (show valWin c = 0 from Hv2.out.trans (hval.out.trans (by rw [List.drop_length]; rfl)))
          go_wp2_with fail
          go_ret
          exact ⟨ret_int hr.out.symm, hbel.out⟩
end Go.Proofs.YtpgbckgjlgecpaaGreat
/- contract of grammar.Validate -/
namespace Go.Proofs.YtpgbckgjlgecpaaGreat
open Go.RowKit Go.Sort
set_option linter.unusedVariables false
set_option linter.unusedSimpArgs false
set_option maxRecDepth 100000
theorem valKs_scope {l : List CostM} {k : Nat} (hk : k < l.length) (h : btwB (coAt l k).scope 1 3 = false) : valKs (l.drop k) = 1 := by
  rw [co_drop l k hk, valKs, if_pos h]
theorem valKs_bad {l : List CostM} {k : Nat} (hk : k < l.length) (h : btwB (coAt l k).scope 1 3 = true) (h2 : valE (coAt l k).ex ≠ 0) : valKs (l.drop k) = valE (coAt l k).ex := by
  rw [co_drop l k hk, valKs, if_neg (by simp [h]), if_pos h2]
theorem valKs_go {l : List CostM} {k : Nat} (hk : k < l.length) (h : btwB (coAt l k).scope 1 3 = true) (h2 : valE (coAt l k).ex = 0) : valKs (l.drop k) = valKs (l.drop (k + 1)) := by
  rw [co_drop l k hk, valKs, if_neg (by simp [h]), if_neg (by simp [h2])]
theorem valXs_bad {l : List ExprM} {k : Nat} (hk : k < l.length) (h2 : valE (eAt l k) ≠ 0) : valXs (l.drop k) = valE (eAt l k) := by
  rw [e_drop l k hk, valXs, if_pos h2]
theorem valXs_go {l : List ExprM} {k : Nat} (hk : k < l.length) (h2 : valE (eAt l k) = 0) : valXs (l.drop k) = valXs (l.drop (k + 1)) := by
  rw [e_drop l k hk, valXs, if_neg (by simp [h2])]
set_option maxHeartbeats 3200000 in
theorem validateG_rng (c : ConM) (p : ConP) (w : World) (h : rangeB c = false) :
    Calls Tryz.prog 136 #[.agg #[.int .i64 c.report, .int .i64 c.release, .int .i64 c.connect, .int .i64 c.sit, .int .i64 c.layover, .int .i64 c.nf, .int .i64 c.nt, .slice p.ca c.consts.length p.cc, .slice p.ra c.rules.length p.rc, .slice p.ka c.costs.length p.kc, .slice p.xa c.credit.length p.xc, .slice p.la c.lims.length p.lc, .slice p.oa c.offs.length p.oc, .int .i64 c.guar]] w fun e w' => e = .returned (.int .i64 5) ∧ Below w.heap.size w w' := by
  cases b0 : btwB c.report 0 1440
  · clear h
    go_enter Tryz.func136, Tryz.ntmps136
    go_wp2_with (go_at_call 180; refine (within_any _ _ _ _).mono ?_; rintro e w' ⟨rfl, rfl⟩)
    go_ret
    exact ⟨rfl, below_new _ _⟩
  cases b1 : btwB c.release 0 1440
  · clear h
    go_enter Tryz.func136, Tryz.ntmps136
    go_wp2_with (go_at_call 180; refine (within_any _ _ _ _).mono ?_; rintro e w' ⟨rfl, rfl⟩)
    go_ret
    exact ⟨rfl, below_new _ _⟩
  cases b2 : btwB c.connect 0 1440
  · clear h
    go_enter Tryz.func136, Tryz.ntmps136
    go_wp2_with (go_at_call 180; refine (within_any _ _ _ _).mono ?_; rintro e w' ⟨rfl, rfl⟩)
    go_ret
    exact ⟨rfl, below_new _ _⟩
  cases b3 : btwB c.sit c.connect 1440
  · clear h
    go_enter Tryz.func136, Tryz.ntmps136
    go_wp2_with (go_at_call 180; refine (within_any _ _ _ _).mono ?_; rintro e w' ⟨rfl, rfl⟩)
    go_ret
    exact ⟨rfl, below_new _ _⟩
  cases b4 : btwB c.layover 0 10080
  · clear h
    go_enter Tryz.func136, Tryz.ntmps136
    go_wp2_with (go_at_call 180; refine (within_any _ _ _ _).mono ?_; rintro e w' ⟨rfl, rfl⟩)
    go_ret
    exact ⟨rfl, below_new _ _⟩
  cases b5 : btwB c.nf 0 1439
  · clear h
    go_enter Tryz.func136, Tryz.ntmps136
    go_wp2_with (go_at_call 180; refine (within_any _ _ _ _).mono ?_; rintro e w' ⟨rfl, rfl⟩)
    go_ret
    exact ⟨rfl, below_new _ _⟩
  cases b6 : btwB c.nt 0 1439
  · clear h
    go_enter Tryz.func136, Tryz.ntmps136
    go_wp2_with (go_at_call 180; refine (within_any _ _ _ _).mono ?_; rintro e w' ⟨rfl, rfl⟩)
    go_ret
    exact ⟨rfl, below_new _ _⟩
  cases b7 : btwB c.guar 0 599999
  · clear h
    go_enter Tryz.func136, Tryz.ntmps136
    go_wp2_with (go_at_call 180; refine (within_any _ _ _ _).mono ?_; rintro e w' ⟨rfl, rfl⟩)
    go_ret
    exact ⟨rfl, below_new _ _⟩
  · simp [rangeB, b0, b1, b2, b3, b4, b5, b6, b7] at h
set_option maxHeartbeats 3200000 in
theorem validateG_siz (c : ConM) (p : ConP) (w : World) (h0 : rangeB c = true) (h : sizeB c = false) :
    Calls Tryz.prog 136 #[.agg #[.int .i64 c.report, .int .i64 c.release, .int .i64 c.connect, .int .i64 c.sit, .int .i64 c.layover, .int .i64 c.nf, .int .i64 c.nt, .slice p.ca c.consts.length p.cc, .slice p.ra c.rules.length p.rc, .slice p.ka c.costs.length p.kc, .slice p.xa c.credit.length p.xc, .slice p.la c.lims.length p.lc, .slice p.oa c.offs.length p.oc, .int .i64 c.guar]] w fun e w' => e = .returned (.int .i64 10) ∧ Below w.heap.size w w' := by
  simp only [rangeB, Bool.and_eq_true] at h0
  obtain ⟨⟨⟨⟨⟨⟨⟨b0, b1⟩, b2⟩, b3⟩, b4⟩, b5⟩, b6⟩, b7⟩ := h0
  by_cases s0 : 32 < c.consts.length
  · clear h
    go_enter Tryz.func136, Tryz.ntmps136
    go_wp2_with (go_at_call 180; refine (within_any _ _ _ _).mono ?_; rintro e w' ⟨rfl, rfl⟩)
    go_ret
    exact ⟨rfl, below_new _ _⟩
  by_cases s1 : 40 < c.rules.length
  · clear h
    go_enter Tryz.func136, Tryz.ntmps136
    go_wp2_with (go_at_call 180; refine (within_any _ _ _ _).mono ?_; rintro e w' ⟨rfl, rfl⟩)
    go_ret
    exact ⟨rfl, below_new _ _⟩
  by_cases s2 : 16 < c.costs.length
  · clear h
    go_enter Tryz.func136, Tryz.ntmps136
    go_wp2_with (go_at_call 180; refine (within_any _ _ _ _).mono ?_; rintro e w' ⟨rfl, rfl⟩)
    go_ret
    exact ⟨rfl, below_new _ _⟩
  by_cases s3 : 1 < c.credit.length
  · clear h
    go_enter Tryz.func136, Tryz.ntmps136
    go_wp2_with (go_at_call 180; refine (within_any _ _ _ _).mono ?_; rintro e w' ⟨rfl, rfl⟩)
    go_ret
    exact ⟨rfl, below_new _ _⟩
  by_cases s4 : 16 < c.lims.length
  · clear h
    go_enter Tryz.func136, Tryz.ntmps136
    go_wp2_with (go_at_call 180; refine (within_any _ _ _ _).mono ?_; rintro e w' ⟨rfl, rfl⟩)
    go_ret
    exact ⟨rfl, below_new _ _⟩
  by_cases s5 : 16 < c.offs.length
  · clear h
    go_enter Tryz.func136, Tryz.ntmps136
    go_wp2_with (go_at_call 180; refine (within_any _ _ _ _).mono ?_; rintro e w' ⟨rfl, rfl⟩)
    go_ret
    exact ⟨rfl, below_new _ _⟩
  · simp [sizeB] at h
    omega
set_option maxHeartbeats 3200000 in
theorem validateG_any (c : ConM) (p : ConP) (w : World) (B : Nat) (hB : B ≤ w.heap.size) (ha : ConAt B w c p) :
    Calls Tryz.prog 136 #[.agg #[.int .i64 c.report, .int .i64 c.release, .int .i64 c.connect, .int .i64 c.sit, .int .i64 c.layover, .int .i64 c.nf, .int .i64 c.nt, .slice p.ca c.consts.length p.cc, .slice p.ra c.rules.length p.rc, .slice p.ka c.costs.length p.kc, .slice p.xa c.credit.length p.xc, .slice p.la c.lims.length p.lc, .slice p.oa c.offs.length p.oc, .int .i64 c.guar]] w fun e w' => e = .returned (.int .i64 (valG c)) ∧ Below w.heap.size w w' := by
  cases h0 : rangeB c
  · exact (validateG_rng c p w h0).mono (by rintro e w' ⟨rfl, h⟩; exact ⟨ret_int (by rw [valG, if_pos h0]), h⟩)
  cases h1 : sizeB c
  · exact (validateG_siz c p w h0 h1).mono (by rintro e w' ⟨rfl, h⟩; exact ⟨ret_int (by rw [valG, if_neg (by simp [h0]), if_pos h1]), h⟩)
  have Hv := Lib.hid (show valG c = if valCs [] c.consts ≠ 0 then valCs [] c.consts else if valRs [] c.rules ≠ 0 then valRs [] c.rules else if valKs c.costs ≠ 0 then valKs c.costs else if valXs c.credit ≠ 0 then valXs c.credit else valWin c by rw [valG, if_neg (by simp [h0]), if_neg (by simp [h1])])
  simp only [rangeB, Bool.and_eq_true] at h0
  obtain ⟨⟨⟨⟨⟨⟨⟨b0, b1⟩, b2⟩, b3⟩, b4⟩, b5⟩, b6⟩, b7⟩ := h0
  simp only [sizeB, Bool.and_eq_true, decide_eq_true_eq] at h1
  obtain ⟨⟨⟨⟨⟨s0, s1⟩, s2⟩, s3⟩, s4⟩, s5⟩ := h1
  have HA := Lib.hid ha
  clear ha
  go_enter Tryz.func136, Tryz.ntmps136
  go_wp2_with (go_at_call 180; refine (within_any _ _ _ _).mono ?_; rintro e w' ⟨rfl, rfl⟩)
  have HC := Lib.hid (ConBox.new w c p)
  have HB := Lib.hid (below_new w (Obj.cells #[Value.int .i64 c.report, Value.int .i64 c.release, Value.int .i64 c.connect, Value.int .i64 c.sit, Value.int .i64 c.layover, Value.int .i64 c.nf, Value.int .i64 c.nt, Value.slice p.ca c.consts.length p.cc, Value.slice p.ra c.rules.length p.rc, Value.slice p.ka c.costs.length p.kc, Value.slice p.xa c.credit.length p.xc, Value.slice p.la c.lims.length p.lc, Value.slice p.oa c.offs.length p.oc, Value.int .i64 c.guar] 34))
  have hB1 : B ≤ (w.alloc (Obj.cells #[Value.int .i64 c.report, Value.int .i64 c.release, Value.int .i64 c.connect, Value.int .i64 c.sit, Value.int .i64 c.layover, Value.int .i64 c.nf, Value.int .i64 c.nt, Value.slice p.ca c.consts.length p.cc, Value.slice p.ra c.rules.length p.rc, Value.slice p.ka c.costs.length p.kc, Value.slice p.xa c.credit.length p.xc, Value.slice p.la c.lims.length p.lc, Value.slice p.oa c.offs.length p.oc, Value.int .i64 c.guar] 34)).heap.size := by simp; omega
  have HA1 := Lib.hid (HA.out.keep (HB.out.mono hB))
  generalize w.alloc (Obj.cells #[Value.int .i64 c.report, Value.int .i64 c.release, Value.int .i64 c.connect, Value.int .i64 c.sit, Value.int .i64 c.layover, Value.int .i64 c.nf, Value.int .i64 c.nt, Value.slice p.ca c.consts.length p.cc, Value.slice p.ra c.rules.length p.rc, Value.slice p.ka c.costs.length p.kc, Value.slice p.xa c.credit.length p.xc, Value.slice p.la c.lims.length p.lc, Value.slice p.oa c.offs.length p.oc, Value.int .i64 c.guar] 34) = W at *
  refine (validateConsts_any c.consts p.ca p.cc _ B hB1 HA1.out.consts).mono ?_
  rintro e w1 ⟨rfl, hb⟩
  have HC1 := Lib.hid (HC.out.below hb)
  have HB1 := Lib.hid (Below.then HB.out hb)
  have hcl := HC1.out.lt
  have d8 : w1.cell? ⟨w.heap.size, 8, none⟩ = some (.slice p.ra c.rules.length p.rc) := cellW (j := 8) HC1.out rfl
  clear hb HC HB HA1 hB1 W b0 b1 b2 b3 b4 b5 b6 b7
  by_cases e1 : valCs [] c.consts = 0
  · have Hv2 := Lib.hid (Hv.out.trans (if_neg (by simpa using e1)))
    clear Hv
    rw [e1]
    go_wp2_with fail
    refine (validateRules_any c.rules p.ra p.rc w1 B (by have := HB1.out.size; omega) (HA.out.keep (HB1.out.mono hB)).rules).mono ?_
    rintro e w2 ⟨rfl, hb⟩
    have HC2 := Lib.hid (HC1.out.below hb)
    have HB2 := Lib.hid (Below.then HB1.out hb)
    clear hb HC1 HB1 d8 hcl e1
    have hcl := HC2.out.lt
    have d9 : w2.cell? ⟨w.heap.size, 9, none⟩ = some (.slice p.ka c.costs.length p.kc) := cellW (j := 9) HC2.out rfl
    by_cases e2 : valRs [] c.rules = 0
    · have Hv3 := Lib.hid (Hv2.out.trans (if_neg (by simpa using e2)))
      clear Hv2
      rw [e2]
      go_wp2_with fail
      clear d9 hcl e2
      go_loopw [86] (fun i wr => ∃ (k : Nat), k ≤ c.costs.length ∧ i = .int .i64 k ∧ Hid (valKs c.costs = valKs (c.costs.drop k)) ∧ Hid (ConBox wr w.heap.size c p) ∧ Hid (Below w.heap.size w wr)) (fun i _ => c.costs.length - (intOf i).toNat)
      case atStart => exact ⟨0, Nat.zero_le _, rfl, Lib.hid rfl, HC2, HB2⟩
      clear HC2 HB2
      case round =>
        obtain ⟨k, hk, rfl, hval, hC, hbel⟩ := hrel
        by_cases hlt : k < c.costs.length
        · obtain ⟨b, off, hpa, hb, hcs⟩ := HA.out.costs.cells (by omega)
          rw [hpa]
          obtain ⟨c0, sw, a2, cap2, ⟨c1, c2, c3, c4⟩, hfit, hargs⟩ := (hcs k hlt).keep (hbel.out.mono hB) b _ _ hb
          have hbr : b < wr.heap.size := by have := hbel.out.size; omega
          have HF := Lib.hid hfit
          have HA2 := Lib.hid (hargs.keep ((below_new wr (Obj.cells #[Value.int .i64 (coAt c.costs k).scope, Value.int .i64 (coAt c.costs k).ex.op, Value.int .i64 (coAt c.costs k).ex.num, Value.string (coAt c.costs k).ex.name, Value.slice a2 (coAt c.costs k).ex.args.length cap2] 115)).mono (by have := hbel.out.size; omega)))
          have HC1 := Lib.hid (hC.out.below (below_new wr (Obj.cells #[Value.int .i64 (coAt c.costs k).scope, Value.int .i64 (coAt c.costs k).ex.op, Value.int .i64 (coAt c.costs k).ex.num, Value.string (coAt c.costs k).ex.name, Value.slice a2 (coAt c.costs k).ex.args.length cap2] 115)))
          have HB1 := Lib.hid (Below.then hbel.out (below_new wr (Obj.cells #[Value.int .i64 (coAt c.costs k).scope, Value.int .i64 (coAt c.costs k).ex.op, Value.int .i64 (coAt c.costs k).ex.num, Value.string (coAt c.costs k).ex.name, Value.slice a2 (coAt c.costs k).ex.args.length cap2] 115)))
          clear hcs hpa hC hargs hfit sw
          go_wp2_with fail
          refine (scopeValid_any _ _).mono ?_
          rintro e w3 ⟨rfl, rfl⟩
          cases e0 : btwB (coAt c.costs k).scope 1 3
          · have hst := Lib.hid (show valG c = 1 from Hv3.out.trans (by rw [hval.out, valKs_scope hlt e0]; rfl))
            go_wp2_with fail
            go_ret
            exact ⟨ret_int hst.out.symm, HB1.out⟩
          go_wp2_with fail
          refine (validateExpr_any (coAt c.costs k).ex a2 cap2 _ B (by have := HB1.out.size; omega) HF.out HA2.out).mono ?_
          rintro e w3 ⟨rfl, hb3⟩
          have HC3 := Lib.hid (HC1.out.below hb3)
          have HB3 := Lib.hid (Below.then HB1.out hb3)
          clear hb3 HC1 HB1 HA2 c0 c1 c2 c3 c4
          by_cases e3 : valE (coAt c.costs k).ex = 0
          · have hst := Lib.hid (hval.out.trans (valKs_go hlt e0 e3))
            rw [e3]
            go_wp2_with fail
            go_roundw
            case rel => exact ⟨k + 1, by omega, by go_num, hst, HC3, HB3⟩
            case measure => simp [intOf]; omega
          · have hst := Lib.hid (show valG c = valE (coAt c.costs k).ex from Hv3.out.trans (by rw [hval.out, valKs_bad hlt e0 e3, if_pos e3]))
            have e4 : (valE (coAt c.costs k).ex != 0) = true := by simpa using e3
            go_wp2_with fail
            go_ret
            exact ⟨ret_int hst.out.symm, HB3.out⟩
        · obtain rfl : k = c.costs.length := by omega
          have Hv4 := Lib.hid (show valG c = if valXs c.credit ≠ 0 then valXs c.credit else valWin c from Hv3.out.trans (by rw [hval.out, List.drop_length]; rfl))
          have d10 : wr.cell? ⟨w.heap.size, 10, none⟩ = some (.slice p.xa c.credit.length p.xc) := cellW (j := 10) hC.out rfl
          have hcl := hC.out.lt
          clear Hv3 hval hk hlt
          go_wp2_with fail
          clear d10 hcl
          obtain ⟨w0, rfl⟩ : ∃ w0 : World, w0 = wr := ⟨_, rfl⟩
          go_loopw [104] (fun i wr => ∃ (k : Nat), k ≤ c.credit.length ∧ i = .int .i64 k ∧ Hid (valXs c.credit = valXs (c.credit.drop k)) ∧ Hid (ConBox wr w.heap.size c p) ∧ Hid (Below w.heap.size w wr)) (fun i _ => c.credit.length - (intOf i).toNat)
          case atStart => exact ⟨0, Nat.zero_le _, rfl, Lib.hid rfl, hC, hbel⟩
          clear hC hbel
          case round =>
            obtain ⟨k, hk, rfl, hval, hC, hbel⟩ := hrel
            by_cases hlt : k < c.credit.length
            · obtain ⟨b, off, hpa, hb, hcs⟩ := HA.out.credit.cells (by omega)
              rw [hpa]
              obtain ⟨a2, cap2, hbB, ⟨c0, c1, c2, c3⟩, hfit, hargs⟩ := (hcs.keep (hbel.out.mono hB)).at k hlt
              have hbr : b < wr.heap.size := by have := hbel.out.size; omega
              have HF := Lib.hid hfit
              have HA2 := Lib.hid (hargs.keep ((below_new wr (Obj.cells #[Value.int .i64 (eAt c.credit k).op, Value.int .i64 (eAt c.credit k).num, Value.string (eAt c.credit k).name, Value.slice a2 (eAt c.credit k).args.length cap2] 111)).mono (by have := hbel.out.size; omega)))
              have HC1 := Lib.hid (hC.out.below (below_new wr (Obj.cells #[Value.int .i64 (eAt c.credit k).op, Value.int .i64 (eAt c.credit k).num, Value.string (eAt c.credit k).name, Value.slice a2 (eAt c.credit k).args.length cap2] 111)))
              have HB1 := Lib.hid (Below.then hbel.out (below_new wr (Obj.cells #[Value.int .i64 (eAt c.credit k).op, Value.int .i64 (eAt c.credit k).num, Value.string (eAt c.credit k).name, Value.slice a2 (eAt c.credit k).args.length cap2] 111)))
              clear hcs hpa hC hargs hfit
              go_wp2_with fail
              refine (validateExpr_any (eAt c.credit k) a2 cap2 _ B (by have := HB1.out.size; omega) HF.out HA2.out).mono ?_
              rintro e w3 ⟨rfl, hb3⟩
              have HC3 := Lib.hid (HC1.out.below hb3)
              have HB3 := Lib.hid (Below.then HB1.out hb3)
              clear hb3 HC1 HB1 HA2 c0 c1 c2 c3
              by_cases e3 : valE (eAt c.credit k) = 0
              · have hst := Lib.hid (hval.out.trans (valXs_go hlt e3))
                rw [e3]
                go_wp2_with fail
                go_roundw
                case rel => exact ⟨k + 1, by omega, by go_num, hst, HC3, HB3⟩
                case measure => simp [intOf]; omega
              · have hst := Lib.hid (show valG c = valE (eAt c.credit k) from Hv4.out.trans (by rw [hval.out, valXs_bad hlt e3, if_pos e3]))
                have e4 : (valE (eAt c.credit k) != 0) = true := by simpa using e3
                go_wp2_with fail
                go_ret
                exact ⟨ret_int hst.out.symm, HB3.out⟩
            · obtain rfl : k = c.credit.length := by omega
              have Hv5 := Lib.hid (show valG c = valWin c from Hv4.out.trans (by rw [hval.out, List.drop_length]; rfl))
              have hcl := hC.out.lt
              have d0 : wr.cell? ⟨w.heap.size, 0, none⟩ = some (.int .i64 c.report) := cellW (j := 0) hC.out rfl
              have d1 : wr.cell? ⟨w.heap.size, 1, none⟩ = some (.int .i64 c.release) := cellW (j := 1) hC.out rfl
              have d2 : wr.cell? ⟨w.heap.size, 2, none⟩ = some (.int .i64 c.connect) := cellW (j := 2) hC.out rfl
              have d3 : wr.cell? ⟨w.heap.size, 3, none⟩ = some (.int .i64 c.sit) := cellW (j := 3) hC.out rfl
              have d4 : wr.cell? ⟨w.heap.size, 4, none⟩ = some (.int .i64 c.layover) := cellW (j := 4) hC.out rfl
              have d5 : wr.cell? ⟨w.heap.size, 5, none⟩ = some (.int .i64 c.nf) := cellW (j := 5) hC.out rfl
              have d6 : wr.cell? ⟨w.heap.size, 6, none⟩ = some (.int .i64 c.nt) := cellW (j := 6) hC.out rfl
              have d7 : wr.cell? ⟨w.heap.size, 7, none⟩ = some (.slice p.ca c.consts.length p.cc) := cellW (j := 7) hC.out rfl
              have d8 : wr.cell? ⟨w.heap.size, 8, none⟩ = some (.slice p.ra c.rules.length p.rc) := cellW (j := 8) hC.out rfl
              have d9 : wr.cell? ⟨w.heap.size, 9, none⟩ = some (.slice p.ka c.costs.length p.kc) := cellW (j := 9) hC.out rfl
              have d10 : wr.cell? ⟨w.heap.size, 10, none⟩ = some (.slice p.xa c.credit.length p.xc) := cellW (j := 10) hC.out rfl
              have d11 : wr.cell? ⟨w.heap.size, 11, none⟩ = some (.slice p.la c.lims.length p.lc) := cellW (j := 11) hC.out rfl
              have d12 : wr.cell? ⟨w.heap.size, 12, none⟩ = some (.slice p.oa c.offs.length p.oc) := cellW (j := 12) hC.out rfl
              have d13 : wr.cell? ⟨w.heap.size, 13, none⟩ = some (.int .i64 c.guar) := cellW (j := 13) hC.out rfl
              go_wp2_with fail
              have HAk := Lib.hid (HA.out.keep (hbel.out.mono hB))
              refine (validateWindows_any c p wr B (by have := hbel.out.size; omega) HAk.out.lims HAk.out.offs).mono ?_
              rintro e w3 ⟨rfl, hb3⟩
              have HB3 := Lib.hid (Below.then hbel.out hb3)
              clear hb3 d0 d1 d2 d3 d4 d5 d6 d7 d8 d9 d10 d11 d12 d13
              go_wp2_with fail
              go_ret
              exact ⟨ret_int Hv5.out.symm, HB3.out⟩
    · have hst := Lib.hid (Hv2.out.trans (if_pos e2))
      have e4 : (valRs [] c.rules != 0) = true := by simpa using e2
      go_wp2_with fail
      go_ret
      exact ⟨ret_int hst.out.symm, HB2.out⟩
  · have hst := Lib.hid (Hv.out.trans (if_pos e1))
    have e4 : (valCs [] c.consts != 0) = true := by simpa using e1
    go_wp2_with fail
    go_ret
    exact ⟨ret_int hst.out.symm, HB1.out⟩
end Go.Proofs.YtpgbckgjlgecpaaGreat
