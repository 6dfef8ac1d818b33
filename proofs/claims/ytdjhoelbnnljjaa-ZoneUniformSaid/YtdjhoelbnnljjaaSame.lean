/- contract of same -/
import Derived.Test.YtdjhoelbnnljjaaInstR
namespace Go.Proofs.Ytdjhoelbnnljjaa
open Go.RowKit Go.Sort
set_option linter.unusedSimpArgs false
set_option linter.unusedVariables false

def intAt (M : List Int) (k : Nat) : Int := M.getD k 0
/-- a slice that reads as the numbers M -/
def IntRow (w : World) (v : Value) (M : List Int) : Prop :=
  (∃ a cap, v = .slice a 0 cap ∧ M = []) ∨ ∃ b off cap, v = .slice (some ⟨b, off, none⟩) M.length cap ∧ b < w.heap.size ∧ ∀ k, k < M.length → w.cell? ⟨b, off + k, none⟩ = some (.int .i64 (intAt M k))
theorem IntRow.below {w w' : World} {v : Value} {M : List Int} (h : IntRow w v M) (hb : Below w.heap.size w w') : IntRow w' v M := by
  rcases h with h | ⟨b, off, cap, hv, hlt, hc⟩
  · exact .inl h
  · exact .inr ⟨b, off, cap, hv, Nat.lt_of_lt_of_le hlt hb.size, fun k hk => (hb.cell (p := ⟨b, off + k, none⟩) hlt).trans (hc k hk)⟩
theorem intRow_of_own {w : World} {base : Nat} {v : Value} {M : List Int} (h : w.ownsRow base 3 1 v M.length (M.map (Value.int .i64))) : IntRow w v M := by
  rcases h.2 with ⟨hv, hn⟩ | ⟨g, cap, cur, hv, hr⟩
  · exact .inl ⟨none, 0, hv, List.length_eq_zero_iff.1 hn⟩
  · have hown : v.ownBlock = some g := by rw [hv]; rfl
    have hlt := (h.lt g hown).2
    have hc := h.cells hown
    refine .inr ⟨g, 0, cap, hv, hlt, fun k hk => ?_⟩
    have c := hc k (.int .i64 (intAt M k)) (by simp [intAt, List.getElem?_eq_getElem hk])
    rw [add_zero_off] at c
    simpa using c

set_option maxHeartbeats 800000 in
theorem same_eq (v u : Value) (M : List Int) (w : World) (hv : IntRow w v M) (hu : IntRow w u M) (hM : M.length ≤ 1000000) :
    Calls Try.prog 25 #[v, u] w fun e w' => e = .returned (.bool true) ∧ Below w.heap.size w w' := by
  by_cases h0 : M.length = 0
  · obtain rfl := List.length_eq_zero_iff.1 h0
    obtain ⟨a, cap, rfl⟩ : ∃ a cap, v = .slice a 0 cap := by
      rcases hv with ⟨a, cap, rfl, _⟩ | ⟨b, off, cap, rfl, _⟩
      · exact ⟨a, cap, rfl⟩
      · exact ⟨_, cap, rfl⟩
    obtain ⟨a', cap', rfl⟩ : ∃ a cap, u = .slice a 0 cap := by
      rcases hu with ⟨a, cap, rfl, _⟩ | ⟨b, off, cap, rfl, _⟩
      · exact ⟨a, cap, rfl⟩
      · exact ⟨_, cap, rfl⟩
    clear hv hu h0
    go_enter Try.func25, Try.ntmps25
    go_wp2
    go_loop [5] (fun i => i = .int .i64 0) (fun _ => 0)
    case atStart => rfl
    case round =>
      subst hrel
      go_wp2
      go_ret
      exact ⟨rfl, Below.refl _ _⟩
  · rcases hv with ⟨a, cap, _, rfl⟩ | ⟨b, off, cap, rfl, hb, hc⟩
    · exact absurd rfl h0
    rcases hu with ⟨a, cap, _, rfl⟩ | ⟨b', off', cap', rfl, hb', hc'⟩
    · exact absurd rfl h0
    have Hc := Lib.hid hc
    have Hc' := Lib.hid hc'
    clear hc hc' h0
    go_enter Try.func25, Try.ntmps25
    go_wp2
    go_loopw [5] (fun i wr => ∃ k : Nat, k ≤ M.length ∧ i = .int .i64 k ∧ Below w.heap.size w wr) (fun i _ => M.length - (intOf i).toNat)
    case atStart => exact ⟨0, Nat.zero_le _, rfl, Below.refl _ _⟩
    case round =>
      obtain ⟨k, hk, rfl, hbel⟩ := hrel
      by_cases hlt : k < M.length
      · have c1 := (hbel.cell (p := ⟨b, off + k, none⟩) hb).trans (Hc.out k hlt)
        have c2 := (hbel.cell (p := ⟨b', off' + k, none⟩) hb').trans (Hc'.out k hlt)
        go_wp2_with fail
        go_quiet (fail)
        go_wp2_with fail
        go_roundw
        case rel => exact ⟨k + 1, by omega, by go_num, below_drewN hbel _⟩
        case measure => simp [intOf]; omega
      · go_wp2_with fail
        go_ret
        exact ⟨rfl, hbel⟩
end Go.Proofs.Ytdjhoelbnnljjaa
