/- plain facts for ZoneBack -/
import Derived.Test.YtdjhoelbnnljjaaLaw4
namespace Go.Proofs.Ytdjhoelbnnljjaa
theorem intAt_mem {M : List Int} {k : Nat} (h : k < M.length) : intAt M k ∈ M := by
  rw [intAt, List.getD_eq_getElem?_getD, List.getElem?_eq_getElem h]; exact List.getElem_mem h
theorem intAt_lt {M : List Int} {k : Nat} (h : k + 1 < M.length) (hs : M.Pairwise (· < ·)) : intAt M k < intAt M (k + 1) := by
  rw [intAt, intAt, List.getD_eq_getElem?_getD, List.getD_eq_getElem?_getD, List.getElem?_eq_getElem h, List.getElem?_eq_getElem (by omega : k < M.length)]
  exact List.pairwise_iff_getElem.1 hs k (k + 1) (by omega) h (by omega)
/-- t is among the first k numbers -/
def foundB (M : List Int) (t : Int) (k : Nat) : Bool := (List.range k).any fun i => intAt M i == t
theorem foundB_zero (M : List Int) (t : Int) : foundB M t 0 = false := by simp [foundB]
theorem foundB_succ (M : List Int) (t : Int) (k : Nat) : foundB M t (k + 1) = (foundB M t k || (intAt M k == t)) := by
  simp [foundB, List.range_succ]
theorem foundB_all {M : List Int} {t : Int} (h : t ∈ M) : foundB M t M.length = true := by
  obtain ⟨i, hi, rfl⟩ := List.mem_iff_getElem.1 h
  simp only [foundB, List.any_eq_true, List.mem_range]
  exact ⟨i, hi, by rw [intAt, List.getD_eq_getElem?_getD, List.getElem?_eq_getElem hi]; simp⟩
/-- what ZoneBack leans on -/
theorem back_facts {nm : List UInt8} {o : Int} {l : List (Int × Int)} {t : Int} (h : valZone nm o l = 0) (ht : 0 ≤ t ∧ t < 52596000) :
    ∃ (d c : Int) (M : List Int), locTimeZ nm o l t = (d, c, 0) ∧ instZ nm o l d c = (M, 0) ∧ M.Pairwise (· < ·) ∧ t ∈ M ∧ ∀ u ∈ M, locTimeZ nm o l u = (d, c, 0) := by
  have hb := off_bd h t
  refine ⟨(t + offP o l t) / 1440, (t + offP o l t) % 1440, instsP (segsP 0 o l 0 52596000) (t + offP o l t), locTimeZ_ok h ht, ?_, instsP_sorted l 0 o 0 52596000 _ (okay_of h), ?_, ?_⟩
  · have e : (t + offP o l t) / 1440 * 1440 + (t + offP o l t) % 1440 = t + offP o l t := by omega
    have e1 : clkB ((t + offP o l t) % 1440) = true := by simp [clkB]; omega
    have e2 : dayB ((t + offP o l t) / 1440) = false := by simp [dayB]; omega
    simp [instZ, h, e1, e2, e]
  · rw [mem_instsP, segsP_at l 0 o 0 52596000 t _ (okay_of h)]; omega
  · intro u hu
    rw [mem_instsP, segsP_at l 0 o 0 52596000 u _ (okay_of h)] at hu
    rw [locTimeZ_ok h (by omega), show u + offP o l u = t + offP o l t by omega]
end Go.Proofs.Ytdjhoelbnnljjaa
