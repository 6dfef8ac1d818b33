/- opening the arguments of the laws: a zone -/
import Derived.Test.YtdjhoelbnnljjaaVal
import Derived.ProofKit
import Derived.OpenShut
import Derived.ShutString
import Derived.ChangeOld
import Derived.Below
import Derived.Deep.Slices
import Derived.Deep.Fields
import Derived.ChangeSame
import Derived.Lib.SmallJoins
namespace Go.Proofs.Ytdjhoelbnnljjaa
open Go.ChangeShapes Go.WideShapes Go.ChangeAt Go.RowKit Go.Deep Go.Joins
open Go.ChangeMaps (open_string shut_string)
set_option linter.unusedVariables false

theorem own : ownKnob Try.prog.godebug = none := by kernel_rfl
theorem laidOut : laidOutB Try.prog = true := by kernel_rfl
theorem cells24 : Try.prog.cellsOf 24 = 3 := by kernel_rfl
theorem cells52 : Try.prog.cellsOf 52 = 2 := by kernel_rfl
theorem cells3 : Try.prog.cellsOf 3 = 1 := by kernel_rfl
theorem cells35 : Try.prog.cellsOf 35 = 2 := by kernel_rfl

/-- the numbers of a list of places -/
theorem choose_pairs (n : Nat) (R : Nat → Int → Int → Prop) (h : ∀ i, i < n → ∃ x y, R i x y) : ∃ l : List (Int × Int), l.length = n ∧ ∀ i, i < n → R i (shAt l i).1 (shAt l i).2 := by
  induction n with
  | zero => exact ⟨[], rfl, fun i hi => absurd hi (Nat.not_lt_zero _)⟩
  | succ n ih =>
    obtain ⟨l, hl, hr⟩ := ih (fun i hi => h i (by omega))
    obtain ⟨x, y, hxy⟩ := h n (by omega)
    refine ⟨l ++ [(x, y)], by simp [hl], fun i hi => ?_⟩
    by_cases e : i = n
    · subst e
      have e2 : shAt (l ++ [(x, y)]) i = (x, y) := by simp [shAt, ← hl]
      rw [e2]; exact hxy
    · have e2 : shAt (l ++ [(x, y)]) i = shAt l i := by
        unfold shAt
        simp only [List.getD_eq_getElem?_getD]
        rw [List.getElem?_append_left (by omega)]
      rw [e2]; exact hr i (by omega)

theorem block_lt {w : World} {a : Addr} {v : Value} (h : w.cell? a = some v) : a.block < w.heap.size := block_lt_of_cell h

/-- a zone that came in: its name, its offset, its shifts -/
theorem open_zone {H : Type} {enc : TypeId × Value → H} {W : World} {r : Reach} {b0 : Nat} {v : Value} {d : DataW H} {p : List MemPlace} (hv : Value.okWide Try.prog W r b0 24 v) (h : DataW.Trod enc Try.prog W 0 (fun _ => true) true 24 v d p) :
    ∃ (s : ByteArray) (o : Int) (l : List (Int × Int)) (a : Option Addr) (cap : Nat), v = .agg #[.string s, .int .i64 o, .slice a l.length cap] ∧ s.size ≤ maxLen ∧ l.length ≤ maxLen ∧ (Lit.int .i64 o).wf = true ∧ ShAt W a l := by
  obtain ⟨v0, v1, v2, y0, y1, y2, n, rfl, rfl, rfl, h0, h1, h2⟩ := open_agg3 Try.underlying24 (by kernel_rfl) cells24 hv h
  obtain ⟨s, e0, rfl, hs⟩ := DataW.trod_string Try.underlying9 h0
  obtain ⟨o, e1, rfl, ho⟩ := DataW.trod_int Try.underlying3 h1
  simp at e0 e1
  subst e0 e1
  rcases open_slice Try.underlying22 h2 with ⟨e2, _⟩ | ⟨a, len, cap, m, n', D, Pl, e2, _, hl, hm, hmm, _, hf⟩
  · simp at e2
    subst e2
    exact ⟨s, o, [], none, 0, rfl, hs, Nat.zero_le _, ho, .inl rfl⟩
  · simp at e2
    subst e2
    simp at hmm
    subst hmm
    have hx : ∀ i, i < len → ∃ x y : Int, W.cell? (a.add (i * 2)) = some (.int .i64 x) ∧ W.cell? (a.add (i * 2 + 1)) = some (.int .i64 y) := by
      intro i hi
      obtain ⟨cs, hcs, ht⟩ := hf i (by omega)
      rw [cells52] at hcs
      obtain ⟨_, hlen, hat⟩ := World.cells?_some hcs
      obtain ⟨y0, y1, n2, _, _, t0, t1⟩ := trod_struct2 Try.underlying52 ht
      match cs, hlen with
      | [c0, c1], _ =>
        obtain ⟨x, ex, _, _⟩ := DataW.trod_int Try.underlying3 t0
        obtain ⟨y, ey, _, _⟩ := DataW.trod_int Try.underlying3 t1
        rw [cells3] at ex ey
        simp at ex ey
        subst ex ey
        have g0 := hat 0 (by omega)
        have g1 := hat 1 (by omega)
        rw [add_add] at g0 g1
        exact ⟨x, y, g0, g1⟩
    obtain ⟨l, hll, hlr⟩ := choose_pairs len (fun i x y => W.cell? (a.add (i * 2)) = some (.int .i64 x) ∧ W.cell? (a.add (i * 2 + 1)) = some (.int .i64 y)) hx
    subst hll
    refine ⟨s, o, l, some a, _, rfl, hs, by omega, ho, ?_⟩
    by_cases e : l.length = 0
    · exact .inl (List.length_eq_zero_iff.1 e)
    · have h00 := (hlr 0 (by omega)).1
      obtain ⟨b, off, spot⟩ := a
      have hspot : spot = none := by simpa [Addr.add] using World.cell?_spot h00
      subst hspot
      refine .inr ⟨b, off, rfl, by simpa [Addr.add] using block_lt h00, fun i hi => ?_⟩
      obtain ⟨g1, g2⟩ := hlr i hi
      constructor
      · by_cases e0 : i = 0
        · subst e0; simpa [Addr.add] using g1
        · simpa [Addr.add, show ¬ i * 2 = 0 by omega] using g1
      · simpa [Addr.add, Nat.add_assoc] using g2
end Go.Proofs.Ytdjhoelbnnljjaa
