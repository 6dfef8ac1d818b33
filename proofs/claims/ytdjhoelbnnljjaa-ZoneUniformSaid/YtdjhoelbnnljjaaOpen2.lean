/- opening the arguments of the laws: a span -/
import Derived.Test.YtdjhoelbnnljjaaOpen
namespace Go.Proofs.Ytdjhoelbnnljjaa
open Go.ChangeShapes Go.WideShapes Go.ChangeAt Go.RowKit Go.Deep Go.Joins
theorem open_span {H : Type} {enc : TypeId × Value → H} {W : World} {r : Reach} {b0 : Nat} {v : Value} {d : DataW H} {p : List MemPlace} (hv : Value.okWide Try.prog W r b0 35 v) (h : DataW.Trod enc Try.prog W 0 (fun _ => true) true 35 v d p) :
    ∃ (x y : Int), v = .agg #[.int .i64 x, .int .i64 y] ∧ (Lit.int .i64 x).wf = true ∧ (Lit.int .i64 y).wf = true := by
  obtain ⟨v0, v1, y0, y1, n, rfl, rfl, rfl, h0, h1⟩ := open_agg2 Try.underlying35 (by kernel_rfl) cells35 hv h
  obtain ⟨x, e0, rfl, hx⟩ := DataW.trod_int Try.underlying3 h0
  obtain ⟨y, e1, rfl, hy⟩ := DataW.trod_int Try.underlying3 h1
  simp at e0 e1
  subst e0 e1
  exact ⟨x, y, rfl, hx, hy⟩
end Go.Proofs.Ytdjhoelbnnljjaa
