/- plain facts on LocalDays; boxes; Light -/
import Derived.Test.YtdjhoelbnnljjaaLaw1
namespace Go.Proofs.Ytdjhoelbnnljjaa
open Go.RowKit Go.Sort
set_option linter.unusedSimpArgs false
set_option linter.unusedVariables false

def daysZ (nm : List UInt8) (o : Int) (l : List (Int × Int)) (x y : Int) : Int × Int × Int :=
  if valZone nm o l ≠ 0 then (0, 0, valZone nm o l) else if spnB x y = false then (0, 0, 5) else if x = y then (0, 0, 8)
  else ((x + offP o l x) / 1440, (y - 1 + offP o l (y - 1)) / 1440, 0)
theorem spnB_iff {x y : Int} (h : spnB x y = true) : 0 ≤ x ∧ x ≤ y ∧ y ≤ 52596000 := by simpa [spnB] using h
theorem off_bd {nm : List UInt8} {o : Int} {l : List (Int × Int)} (h : valZone nm o l = 0) (t : Int) : -840 ≤ offP o l t ∧ offP o l t ≤ 840 := by
  obtain ⟨_, h4, _, h6⟩ := valZone_zero h
  exact offB_iff (offP_bd l none o t h6 h4)
theorem locTimeZ_ok {nm : List UInt8} {o : Int} {l : List (Int × Int)} {t : Int} (h : valZone nm o l = 0) (ht : 0 ≤ t ∧ t < 52596000) :
    locTimeZ nm o l t = ((t + offP o l t) / 1440, (t + offP o l t) % 1440, 0) := by
  have e1 : offAtZ nm o l t = (offP o l t, 0) := by simp [offAtZ, h, insB_of ht]
  have e2 : locMinZ nm o l t = (t + offP o l t, 0) := by simp [locMinZ, e1]
  simp [locTimeZ, e2]

/-- a zone in a box -/
def ZBox (w : World) (z : Nat) (s : ByteArray) (o : Int) (a : Option Addr) (n cap : Nat) : Prop :=
  z < w.heap.size ∧ w.cell? ⟨z, 0, none⟩ = some (.string s) ∧ w.cell? ⟨z, 1, none⟩ = some (.int .i64 o) ∧ w.cell? ⟨z, 2, none⟩ = some (.slice a n cap)
/-- a span in a box -/
def SBox (w : World) (z : Nat) (x y : Int) : Prop :=
  z < w.heap.size ∧ w.cell? ⟨z, 0, none⟩ = some (.int .i64 x) ∧ w.cell? ⟨z, 1, none⟩ = some (.int .i64 y)
theorem ZBox.below {w w' : World} {z : Nat} {s : ByteArray} {o : Int} {a : Option Addr} {n cap : Nat} (h : ZBox w z s o a n cap) (hb : Below w.heap.size w w') : ZBox w' z s o a n cap :=
  ⟨Nat.lt_of_lt_of_le h.1 hb.size, (hb.cell (p := ⟨z, 0, none⟩) h.1).trans h.2.1, (hb.cell (p := ⟨z, 1, none⟩) h.1).trans h.2.2.1, (hb.cell (p := ⟨z, 2, none⟩) h.1).trans h.2.2.2⟩
theorem SBox.below {w w' : World} {z : Nat} {x y : Int} (h : SBox w z x y) (hb : Below w.heap.size w w') : SBox w' z x y :=
  ⟨Nat.lt_of_lt_of_le h.1 hb.size, (hb.cell (p := ⟨z, 0, none⟩) h.1).trans h.2.1, (hb.cell (p := ⟨z, 1, none⟩) h.1).trans h.2.2⟩
theorem ZBox.new (w : World) (s : ByteArray) (o : Int) (a : Option Addr) (n cap : Nat) : ZBox (w.alloc (Obj.cells #[Value.string s, Value.int IntKind.i64 o, Value.slice a n cap] 24)) w.heap.size s o a n cap := by
  refine ⟨by simp, ?_, ?_, ?_⟩ <;> go_simp
theorem SBox.new (w : World) (x y : Int) : SBox (w.alloc (Obj.cells #[Value.int IntKind.i64 x, Value.int IntKind.i64 y] 35)) w.heap.size x y := by
  refine ⟨by simp, ?_, ?_⟩ <;> go_simp
theorem below_new (w : World) (o : Obj) : Below w.heap.size w (w.alloc o) := (Below.refl _ _).alloc (Nat.le_refl _) _
/-- both boxes, laid one behind the other -/
theorem boxes (w : World) (s : ByteArray) (o : Int) (a : Option Addr) (n cap : Nat) (x y : Int) :
    let W := (w.alloc (Obj.cells #[Value.string s, Value.int IntKind.i64 o, Value.slice a n cap] 24)).alloc (Obj.cells #[Value.int IntKind.i64 x, Value.int IntKind.i64 y] 35)
    ZBox W w.heap.size s o a n cap ∧ SBox W (w.heap.size + 1) x y ∧ Below w.heap.size w W := by
  intro W
  refine ⟨(ZBox.new w s o a n cap).below (below_new _ _), ?_, Below.then (below_new _ _) (below_new _ _)⟩
  have := SBox.new (w.alloc (Obj.cells #[Value.string s, Value.int IntKind.i64 o, Value.slice a n cap] 24)) x y
  simpa using this

def lightB (n : Nat) (x y : Int) : Bool := decide (n ≤ 40) && (decide (wrap64 (y - x) ≤ 20000) || decide (52596000 < y) || decide (x < 0))
theorem light_ok {n : Nat} {x y : Int} (h : lightB n x y = true) : n ≤ 40 := by simp [lightB] at h; exact h.1

set_option maxHeartbeats 800000 in
theorem light_any (s : ByteArray) (o x y : Int) (n : Nat) (a : Option Addr) (cap : Nat) (w : World) (hl : n ≤ maxLen) :
    Calls Try.prog 20 #[.agg #[.string s, .int .i64 o, .slice a n cap], .agg #[.int .i64 x, .int .i64 y]] w fun e w' => e = .returned (.bool (lightB n x y)) ∧ Below w.heap.size w w' := by
  unfold maxLen at hl
  go_enter Try.func20, Try.ntmps20
  go_wp2
  all_goals (go_ret; exact ⟨ret_bool (by simp only [lightB, Bool.and_eq_true, Bool.or_eq_true, decide_eq_true_eq, Bool.false_eq_true, true_iff, false_iff]; omega), Below.then (below_new _ _) (below_new _ _)⟩)
end Go.Proofs.Ytdjhoelbnnljjaa
