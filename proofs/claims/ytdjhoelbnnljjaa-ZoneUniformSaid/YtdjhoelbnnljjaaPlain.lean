/- plain facts: numbers and names -/
namespace Go.Proofs.Ytdjhoelbnnljjaa

theorem tmod_neg (t : Int) (h : t.tmod 1440 < 0) : t.tdiv 1440 - 1 = t / 1440 ∧ t.tmod 1440 + 1440 = t % 1440 := by
  rw [Int.tmod_eq_emod] at h ⊢
  rw [Int.tdiv_eq_ediv]
  by_cases c : 0 ≤ t ∨ (1440 : Int) ∣ t
  · rw [if_pos c] at h; have := Int.emod_nonneg t (show (1440 : Int) ≠ 0 by decide); simp at h; omega
  · rw [if_neg c, if_neg c]; simp; 
    have e : (1440 : Int).sign = 1 := by decide
    omega
theorem tmod_pos (t : Int) (h : 0 ≤ t.tmod 1440) : t.tdiv 1440 = t / 1440 ∧ t.tmod 1440 = t % 1440 := by
  rw [Int.tmod_eq_emod] at h ⊢
  rw [Int.tdiv_eq_ediv]
  by_cases c : 0 ≤ t ∨ (1440 : Int) ∣ t
  · rw [if_pos c, if_pos c]; simp
  · rw [if_neg c] at h; have := Int.emod_lt_of_pos t (show (0 : Int) < 1440 by decide); simp at h; omega
theorem tdiv_le (t : Int) : -9223372036854775807 ≤ t → t ≤ 9223372036854775807 → -9223372036854775 ≤ t.tdiv 1440 ∧ t.tdiv 1440 ≤ 9223372036854775 ∧ -1440 ≤ t.tmod 1440 ∧ t.tmod 1440 < 1440 := by
  intro h1 h2
  by_cases c : t.tmod 1440 < 0
  · have := tmod_neg t c; omega
  · have := tmod_pos t (by omega); omega

def lowB (c : Int) : Bool := decide (97 ≤ c ∧ c ≤ 122)
def numB (c : Int) : Bool := decide (48 ≤ c ∧ c ≤ 57)
/-- the byte c may stand at place i of a name -/
def nameAt (i : Nat) (c : Int) : Bool := lowB c || (decide (0 < i) && (numB c || c == 95))
def nameAll : Nat → List UInt8 → Bool
  | _, [] => true
  | i, c :: l => nameAt i (c.toNat : Int) && nameAll (i + 1) l
/-- 'IsName' -/
def nameB (l : List UInt8) : Bool := decide (1 ≤ l.length ∧ l.length ≤ 16) && nameAll 0 l

theorem nameAll_false (l : List UInt8) : ∀ (i k : Nat) (h : k < l.length), nameAt (i + k) (l[k].toNat : Int) = false → nameAll i l = false := by
  induction l with
  | nil => intro i k h; simp at h
  | cons c l ih =>
    intro i k h hf
    cases k with
    | zero => simp at hf; simp [nameAll, hf]
    | succ k =>
      have := ih (i + 1) k (by simpa using h) (by simpa [Nat.add_assoc, Nat.add_comm 1 k] using hf)
      simp [nameAll, this]
theorem nameAll_true (l : List UInt8) : ∀ (i : Nat), (∀ k (h : k < l.length), nameAt (i + k) (l[k].toNat : Int) = true) → nameAll i l = true := by
  induction l with
  | nil => intro i _; rfl
  | cons c l ih =>
    intro i h
    have h0 := h 0 (by simp)
    simp at h0
    have := ih (i + 1) (fun k hk => by have := h (k + 1) (by simpa using hk); simpa [Nat.add_assoc, Nat.add_comm 1 k] using this)
    simp [nameAll, this, h0]
end Go.Proofs.Ytdjhoelbnnljjaa
