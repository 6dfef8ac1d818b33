/- plain facts: the instants of the program are those of the reference -/
import Derived.Test.YtdjhoelbnnljjaaInst0
namespace Go.Proofs.Ytdjhoelbnnljjaa

theorem mx_le {a b t : Int} : mx a b ≤ t ↔ a ≤ t ∧ b ≤ t := by unfold mx; split <;> omega
theorem lt_mn {a b t : Int} : t < mn a b ↔ t < a ∧ t < b := by unfold mn; split <;> omega
theorem mem_seg1 {fr to o x y : Int} {g : Int × Int × Int} : g ∈ seg1 fr to o x y ↔ mx fr x < mn to y ∧ g = (mx fr x, mn to y, o) := by
  unfold seg1
  split
  · rename_i h; simp [h]
  · rename_i h
    constructor
    · intro hg; simp at hg
    · rintro ⟨hh, _⟩; exact absurd hh h
theorem in_seg1 {fr to o x y t v : Int} : (∃ g ∈ seg1 fr to o x y, g.1 ≤ t ∧ t < g.2.1 ∧ g.2.2 = v) ↔ fr ≤ t ∧ x ≤ t ∧ t < to ∧ t < y ∧ o = v := by
  constructor
  · rintro ⟨g, hg, h1, h2, h3⟩
    obtain ⟨_, rfl⟩ := mem_seg1.1 hg
    simp only at h1 h2 h3
    rw [mx_le] at h1
    rw [lt_mn] at h2
    exact ⟨h1.1, h1.2, h2.1, h2.2, h3⟩
  · rintro ⟨h1, h2, h3, h4, h5⟩
    have a : mx fr x ≤ t := mx_le.2 ⟨h1, h2⟩
    have b : t < mn to y := lt_mn.2 ⟨h3, h4⟩
    exact ⟨_, mem_seg1.2 ⟨by omega, rfl⟩, a, b, h5⟩
/-- a valid list of shifts behind 'fr' -/
def Okay (fr : Int) (l : List (Int × Int)) : Prop := ∃ p : Option Int, valShifts p l = 0 ∧ (p = some fr ∨ (p = none ∧ fr = 0))
theorem Okay.cons {fr : Int} {s : Int × Int} {l : List (Int × Int)} (h : Okay fr (s :: l)) : 0 ≤ s.1 ∧ s.1 < 52596000 ∧ fr ≤ s.1 ∧ offB s.2 = true ∧ Okay s.1 l := by
  obtain ⟨p, h, hp⟩ := h
  rw [valShifts] at h
  split at h
  · omega
  split at h
  · omega
  rename_i h1 h2
  simp at h1
  have := insB_iff h1.1
  refine ⟨this.1, this.2, ?_, h1.2, ⟨_, h, .inl rfl⟩⟩
  rcases hp with rfl | ⟨rfl, rfl⟩
  · simp at h2; omega
  · omega
theorem segsP_at (l : List (Int × Int)) : ∀ (fr o x y t v : Int), Okay fr l →
    ((∃ g ∈ segsP fr o l x y, g.1 ≤ t ∧ t < g.2.1 ∧ g.2.2 = v) ↔ fr ≤ t ∧ x ≤ t ∧ t < 52596000 ∧ t < y ∧ offP o l t = v) := by
  induction l with
  | nil => intro fr o x y t v _; rw [segsP]; exact in_seg1
  | cons s l ih =>
    intro fr o x y t v h
    obtain ⟨h0, h1, h2, h3, h4⟩ := h.cons
    rw [segsP, offP]
    constructor
    · rintro ⟨g, hg, hh⟩
      rcases List.mem_append.1 hg with hg | hg
      · have := in_seg1.1 ⟨g, hg, hh⟩
        rw [if_pos (by omega)]; omega
      · have := (ih s.1 s.2 x y t v h4).1 ⟨g, hg, hh⟩
        rw [if_neg (by omega)]; omega
    · intro hh
      by_cases c : t < s.1
      · rw [if_pos c] at hh
        obtain ⟨g, hg, hh⟩ := in_seg1.2 (show fr ≤ t ∧ x ≤ t ∧ t < s.1 ∧ t < y ∧ o = v by omega)
        exact ⟨g, List.mem_append.2 (.inl hg), hh⟩
      · rw [if_neg c] at hh
        obtain ⟨g, hg, hh⟩ := (ih s.1 s.2 x y t v h4).2 (by omega)
        exact ⟨g, List.mem_append.2 (.inr hg), hh⟩
theorem mem_instsP {L : List (Int × Int × Int)} {loc t : Int} : t ∈ instsP L loc ↔ ∃ g ∈ L, g.1 ≤ t ∧ t < g.2.1 ∧ g.2.2 = loc - t := by
  induction L with
  | nil => simp [instsP]
  | cons g L ih =>
    rw [instsP, List.mem_append, ih]
    constructor
    · rintro (h | ⟨g', hg, h⟩)
      · unfold inst1 at h
        split at h
        · simp at h; exact ⟨g, by simp, by omega⟩
        · simp at h
      · exact ⟨g', by simp [hg], h⟩
    · rintro ⟨g', hg, h⟩
      rcases List.mem_cons.1 hg with rfl | hg
      · left; unfold inst1; rw [if_pos (by omega)]; simp; omega
      · exact .inr ⟨g', hg, h⟩
theorem segsP_ge (l : List (Int × Int)) : ∀ (fr o x y : Int), Okay fr l → ∀ g ∈ segsP fr o l x y, fr ≤ g.1 := by
  induction l with
  | nil =>
    intro fr o x y _ g hg
    obtain ⟨_, rfl⟩ := mem_seg1.1 (by simpa [segsP] using hg)
    exact (mx_le.1 (Int.le_refl _)).1
  | cons s l ih =>
    intro fr o x y h g hg
    obtain ⟨h0, h1, h2, h3, h4⟩ := h.cons
    rcases List.mem_append.1 (by simpa [segsP] using hg) with hg | hg
    · obtain ⟨_, rfl⟩ := mem_seg1.1 hg
      exact (mx_le.1 (Int.le_refl _)).1
    · have := ih s.1 s.2 x y h4 g hg; omega
theorem inst1_sorted (g : Int × Int × Int) (loc : Int) : (inst1 g loc).Pairwise (· < ·) := by unfold inst1; split <;> simp
theorem instsP_append (L M : List (Int × Int × Int)) (loc : Int) : instsP (L ++ M) loc = instsP L loc ++ instsP M loc := by
  induction L with
  | nil => rfl
  | cons g L ih => simp [instsP, ih]
theorem instsP_seg1 (fr to o x y loc : Int) : (instsP (seg1 fr to o x y) loc).Pairwise (· < ·) := by
  unfold seg1; split
  · simp [instsP, inst1_sorted]
  · simp [instsP]
theorem instsP_sorted (l : List (Int × Int)) : ∀ (fr o x y loc : Int), Okay fr l → (instsP (segsP fr o l x y) loc).Pairwise (· < ·) := by
  induction l with
  | nil => intro fr o x y loc _; rw [segsP]; exact instsP_seg1 ..
  | cons s l ih =>
    intro fr o x y loc h
    obtain ⟨h0, h1, h2, h3, h4⟩ := h.cons
    rw [segsP, instsP_append, List.pairwise_append]
    refine ⟨instsP_seg1 .., ih s.1 s.2 x y loc h4, fun a ha b hb => ?_⟩
    have ha' := in_seg1.1 (mem_instsP.1 ha)
    obtain ⟨g, hg, hb'⟩ := mem_instsP.1 hb
    have := segsP_ge l s.1 s.2 x y h4 g hg
    omega
/-- the instants of the reference: n numbers from t on are tried -/
def instsR (o : Int) (l : List (Int × Int)) (loc : Int) : Nat → Int → List Int
  | 0, _ => []
  | n + 1, t => (if insB t = true ∧ t + offR o l t = loc then [t] else []) ++ instsR o l loc n (t + 1)
theorem mem_instsR {o : Int} {l : List (Int × Int)} {loc : Int} : ∀ (n : Nat) (t u : Int), u ∈ instsR o l loc n t ↔ t ≤ u ∧ u < t + n ∧ insB u = true ∧ u + offR o l u = loc := by
  intro n
  induction n with
  | zero => intro t u; simp [instsR]; omega
  | succ n ih =>
    intro t u
    rw [instsR, List.mem_append, ih]
    constructor
    · rintro (h | h)
      · split at h
        · rename_i hh; simp at h; subst h; exact ⟨by omega, by omega, hh⟩
        · simp at h
      · exact ⟨by omega, by omega, h.2.2⟩
    · rintro ⟨h1, h2, h3⟩
      by_cases e : u = t
      · subst e; left; rw [if_pos h3]; simp
      · right; exact ⟨by omega, by omega, h3⟩
theorem instsR_sorted {o : Int} {l : List (Int × Int)} {loc : Int} : ∀ (n : Nat) (t : Int), (instsR o l loc n t).Pairwise (· < ·) := by
  intro n
  induction n with
  | zero => intro t; simp [instsR]
  | succ n ih =>
    intro t
    rw [instsR, List.pairwise_append]
    refine ⟨by split <;> simp, ih _, fun a ha b hb => ?_⟩
    have := (mem_instsR n _ _).1 hb
    split at ha
    · simp at ha; omega
    · simp at ha
theorem sorted_ext : ∀ (l m : List Int), l.Pairwise (· < ·) → m.Pairwise (· < ·) → (∀ t, t ∈ l ↔ t ∈ m) → l = m := by
  intro l
  induction l with
  | nil =>
    intro m _ _ h
    cases m with
    | nil => rfl
    | cons b m => exact absurd ((h b).2 (by simp)) (by simp)
  | cons a l ih =>
    intro m hl hm h
    cases m with
    | nil => exact absurd ((h a).1 (by simp)) (by simp)
    | cons b m =>
      rw [List.pairwise_cons] at hl hm
      have hab : a = b := by
        rcases List.mem_cons.1 ((h a).1 (by simp)) with h1 | h1
        · exact h1
        · rcases List.mem_cons.1 ((h b).2 (by simp)) with h2 | h2
          · exact h2.symm
          · have := hm.1 a h1; have := hl.1 b h2; omega
      subst hab
      rw [ih m hl.2 hm.2 (fun t => ?_)]
      constructor
      · intro ht
        rcases List.mem_cons.1 ((h t).1 (by simp [ht])) with h1 | h1
        · have := hl.1 t ht; omega
        · exact h1
      · intro ht
        rcases List.mem_cons.1 ((h t).2 (by simp [ht])) with h1 | h1
        · have := hm.1 t ht; omega
        · exact h1
theorem okay_of {nm : List UInt8} {o : Int} {l : List (Int × Int)} (h : valZone nm o l = 0) : Okay 0 l := ⟨none, (valZone_zero h).2.2.2, .inr ⟨rfl, rfl⟩⟩
theorem insts_eq {nm : List UInt8} {o : Int} {l : List (Int × Int)} (h : valZone nm o l = 0) (loc : Int) : instsP (segsP 0 o l 0 52596000) loc = instsR o l loc 1681 (loc - 840) := by
  obtain ⟨_, h4, _, h6⟩ := valZone_zero h
  refine sorted_ext _ _ (instsP_sorted l 0 o 0 52596000 loc (okay_of h)) (instsR_sorted _ _) (fun t => ?_)
  rw [mem_instsP, segsP_at l 0 o 0 52596000 t _ (okay_of h), mem_instsR, ← offP_eq_offR l none o t h6]
  have := offB_iff (offP_bd l none o t h6 h4)
  constructor
  · intro hh; exact ⟨by omega, by omega, insB_of (by omega), by omega⟩
  · intro hh; have := insB_iff hh.2.2.1; omega
end Go.Proofs.Ytdjhoelbnnljjaa
