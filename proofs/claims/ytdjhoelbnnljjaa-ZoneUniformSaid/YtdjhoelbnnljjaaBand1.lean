/- plain facts: the runs that the program collects are the maximal runs of the band -/
import Derived.Test.YtdjhoelbnnljjaaBand0
namespace Go.Proofs.Ytdjhoelbnnljjaa

theorem runAt_last (R : List (Int × Int)) (r : Int × Int) : runAt (R ++ [r]) R.length = r := by simp [runAt]
theorem runAt_set {R : List (Int × Int)} {k : Nat} (r : Int × Int) (h : k < R.length) : runAt (R.set k r) k = r := by simp [runAt, h]
theorem addRun_addRun (R : List (Int × Int)) (a b c : Int) : addRun (addRun R a b) b c = addRun R a c := by
  by_cases h : 0 < R.length ∧ (runAt R (R.length - 1)).2 = a
  · rw [addRun_join h.1 h.2, addRun_join h.1 h.2]
    have hl : R.length - 1 < R.length := by omega
    rw [addRun_join (by simpa using h.1) (by simp only [List.length_set]; rw [runAt_set _ hl])]
    simp only [List.length_set]
    rw [runAt_set _ hl, List.set_set]
  · rw [addRun_new h, addRun_new h]
    have e : (R ++ [(a, b)]).length - 1 = R.length := by simp
    rw [addRun_join (by simp) (by rw [e, runAt_last])]
    rw [e, runAt_last]
    simp
/-- the maximal runs of S among n numbers from x on -/
def runsTo (S : Int → Bool) (x : Int) : Nat → List (Int × Int)
  | 0 => []
  | n + 1 => if S (x + n) = true then addRun (runsTo S x n) (x + n) (x + n + 1) else runsTo S x n
theorem runsTo_skip {S : Int → Bool} {x : Int} (n : Nat) : ∀ m : Nat, (∀ t, x + n ≤ t → t < x + n + m → S t = false) → runsTo S x (n + m) = runsTo S x n := by
  intro m
  induction m with
  | zero => intro _; rfl
  | succ m ih =>
    intro h
    rw [← Nat.add_assoc, runsTo, if_neg (by rw [h _ (by omega) (by omega)]; decide)]
    exact ih (fun t h1 h2 => h t h1 (by omega))
theorem runsTo_fill {S : Int → Bool} {x : Int} (n : Nat) : ∀ m : Nat, (∀ t, x + n ≤ t → t < x + n + (m + 1 : Nat) → S t = true) → runsTo S x (n + (m + 1)) = addRun (runsTo S x n) (x + n) (x + n + (m + 1 : Nat)) := by
  intro m
  induction m with
  | zero => intro h; rw [runsTo, if_pos (h _ (by omega) (by omega))]; simp
  | succ m ih =>
    intro h
    rw [← Nat.add_assoc, runsTo, if_pos (h _ (by omega) (by omega)), ih (fun t h1 h2 => h t h1 (by omega))]
    rw [show x + ((n + (m + 1) : Nat) : Int) = x + n + ((m + 1 : Nat) : Int) by omega, addRun_addRun]
    congr 1; omega
/-- the runs up to the number c -/
def runsUp (S : Int → Bool) (x c : Int) : List (Int × Int) := runsTo S x (c - x).toNat
theorem runsUp_skip {S : Int → Bool} {x c d : Int} (hc : x ≤ c) (hd : c ≤ d) (h : ∀ t, c ≤ t → t < d → S t = false) : runsUp S x d = runsUp S x c := by
  unfold runsUp
  obtain ⟨n, hn⟩ : ∃ n : Nat, (n : Int) = c - x := ⟨(c - x).toNat, by omega⟩
  obtain ⟨m, hm⟩ : ∃ m : Nat, (m : Int) = d - c := ⟨(d - c).toNat, by omega⟩
  rw [show (d - x).toNat = n + m by omega, show (c - x).toNat = n by omega]
  exact runsTo_skip n m (fun t h1 h2 => h t (by omega) (by omega))
theorem runsUp_fill {S : Int → Bool} {x c d : Int} (hc : x ≤ c) (hd : c < d) (h : ∀ t, c ≤ t → t < d → S t = true) : runsUp S x d = addRun (runsUp S x c) c d := by
  unfold runsUp
  obtain ⟨n, hn⟩ : ∃ n : Nat, (n : Int) = c - x := ⟨(c - x).toNat, by omega⟩
  obtain ⟨m, hm⟩ : ∃ m : Nat, (m : Int) + 1 = d - c := ⟨(d - c - 1).toNat, by omega⟩
  rw [show (d - x).toNat = n + (m + 1) by omega, show (c - x).toNat = n by omega]
  rw [runsTo_fill n m (fun t h1 h2 => h t (by omega) (by omega))]
  congr 1 <;> omega
/-- a clock time is in the band: by the distance from its beginning -/
theorem bandB_mod {c fr to : Int} (hc : 0 ≤ c ∧ c < 1440) (hf : 0 ≤ fr ∧ fr < 1440) (ht : 0 ≤ to ∧ to < 1440) : bandB c fr to = decide ((c - fr) % 1440 < bandLen fr to) := by
  unfold bandB bandLen
  split
  · congr 1; apply propext; omega
  · congr 1; apply propext; omega
/-- what stands behind the day before d, inside the segment -/
def frontier (g : Int × Int × Int) (fr ln d : Int) : Int := mn (mx ((d - 1) * 1440 + fr - g.2.2 + ln) g.1) g.2.1
theorem mx_def (a b : Int) : (mx a b = a ∧ b ≤ a) ∨ (mx a b = b ∧ a < b) := by unfold mx; split <;> omega
theorem mn_def (a b : Int) : (mn a b = a ∧ a ≤ b) ∨ (mn a b = b ∧ b < a) := by unfold mn; split <;> omega
/-- one day: the frontier moves on -/
theorem day1_runs {S : Int → Bool} {x fr ln d : Int} {g : Int × Int × Int} (hx : x ≤ g.1) (hg : g.1 < g.2.1) (h1 : 0 < ln) (h2 : ln < 1440)
    (hS : ∀ t, g.1 ≤ t → t < g.2.1 → S t = decide ((t + g.2.2 - fr) % 1440 < ln)) :
    day1 g fr ln d (runsUp S x (frontier g fr ln d)) = runsUp S x (frontier g fr ln (d + 1)) := by
  have hbit : ∀ t, g.1 ≤ t → t < g.2.1 → (d - 1) * 1440 + fr - g.2.2 + ln ≤ t → t < d * 1440 + fr - g.2.2 + ln → S t = decide (d * 1440 + fr - g.2.2 ≤ t) := by
    intro t a b c e
    rw [hS t a b]
    congr 1; apply propext
    have q : (t + g.2.2 - fr) % 1440 = (t + g.2.2 - fr - d * 1440) % 1440 := by omega
    rw [q]
    omega
  unfold day1
  have f1 : frontier g fr ln d = mn (mx ((d - 1) * 1440 + fr - g.2.2 + ln) g.1) g.2.1 := rfl
  have f2 : frontier g fr ln (d + 1) = mn (mx (d * 1440 + fr - g.2.2 + ln) g.1) g.2.1 := by unfold frontier; congr 2; omega
  have a1 := mx_def ((d - 1) * 1440 + fr - g.2.2 + ln) g.1
  have a2 := mn_def (mx ((d - 1) * 1440 + fr - g.2.2 + ln) g.1) g.2.1
  have a3 := mx_def (d * 1440 + fr - g.2.2 + ln) g.1
  have a4 := mn_def (mx (d * 1440 + fr - g.2.2 + ln) g.1) g.2.1
  have a5 := mx_def (d * 1440 + fr - g.2.2) g.1
  have a6 := mn_def (d * 1440 + fr - g.2.2 + ln) g.2.1
  rw [← f1] at a2
  rw [← f2] at a4
  have e5 : dayLo g fr d = mx (d * 1440 + fr - g.2.2) g.1 := rfl
  have e6 : dayHi g fr ln d = mn (d * 1440 + fr - g.2.2 + ln) g.2.1 := rfl
  rw [← e5] at a5
  rw [← e6] at a6
  generalize frontier g fr ln d = F at *
  generalize frontier g fr ln (d + 1) = F' at *
  generalize dayLo g fr d = A at *
  generalize dayHi g fr ln d = B at *
  split
  · rename_i hAB
    have k1 : runsUp S x A = runsUp S x F := by
      apply runsUp_skip (by omega) (by omega)
      intro t u v
      rw [hbit t (by omega) (by omega) (by omega) (by omega)]
      simp; omega
    have k2 : runsUp S x B = addRun (runsUp S x A) A B := by
      apply runsUp_fill (by omega) hAB
      intro t u v
      rw [hbit t (by omega) (by omega) (by omega) (by omega)]
      simp; omega
    rw [show F' = B by omega, k2, k1]
  · rename_i hAB
    symm
    apply runsUp_skip (by omega) (by omega)
    intro t u v
    rw [hbit t (by omega) (by omega) (by omega) (by omega)]
    simp; omega
theorem dayRuns_runs {S : Int → Bool} {x fr ln : Int} {g : Int × Int × Int} (hx : x ≤ g.1) (hg : g.1 < g.2.1) (h1 : 0 < ln) (h2 : ln < 1440)
    (hS : ∀ t, g.1 ≤ t → t < g.2.1 → S t = decide ((t + g.2.2 - fr) % 1440 < ln)) : ∀ (n : Nat) (d : Int),
    dayRuns g fr ln n d (runsUp S x (frontier g fr ln d)) = runsUp S x (frontier g fr ln (d + n)) := by
  intro n
  induction n with
  | zero => intro d; simp [dayRuns]
  | succ n ih =>
    intro d
    rw [dayRuns, day1_runs hx hg h1 h2 hS, ih]
    congr 2; omega
theorem segRuns_runs {S : Int → Bool} {x fr ln : Int} {g : Int × Int × Int} (hx : x ≤ g.1) (hg : SegOk g) (h1 : 0 < ln) (h2 : ln < 1440) (hf : 0 ≤ fr ∧ fr < 1440)
    (hS : ∀ t, g.1 ≤ t → t < g.2.1 → S t = decide ((t + g.2.2 - fr) % 1440 < ln)) : segRuns g fr ln (runsUp S x g.1) = runsUp S x g.2.1 := by
  obtain ⟨s1, s2, s3, s4, s5⟩ := hg
  obtain ⟨_, _, e3, _, _⟩ := segDay_bd ⟨s1, s2, s3, s4, s5⟩
  have hd : segDay g = (g.1 + g.2.2) / 1440 - 1 := rfl
  have hfr : frontier g fr ln (segDay g) = g.1 := by
    unfold frontier
    have a1 := mx_def ((segDay g - 1) * 1440 + fr - g.2.2 + ln) g.1
    have a2 := mn_def (mx ((segDay g - 1) * 1440 + fr - g.2.2 + ln) g.1) g.2.1
    omega
  have key := dayRuns_runs (d := segDay g) hx s2 h1 h2 hS (n := segN g)
  unfold segRuns
  rw [hfr] at key
  rw [key, e3]
  generalize hL : (g.2.1 - 1 + g.2.2) / 1440 = L
  rw [show segDay g + (L - segDay g + 1) = L + 1 by omega]
  symm
  have a1 := mx_def ((L + 1 - 1) * 1440 + fr - g.2.2 + ln) g.1
  have a2 := mn_def (mx ((L + 1 - 1) * 1440 + fr - g.2.2 + ln) g.1) g.2.1
  have f : frontier g fr ln (L + 1) = mn (mx ((L + 1 - 1) * 1440 + fr - g.2.2 + ln) g.1) g.2.1 := rfl
  rw [← f] at a2
  generalize frontier g fr ln (L + 1) = F at *
  apply runsUp_skip (by omega) (by omega)
  intro t u v
  rw [hS t (by omega) v]
  simp
  have q : (t + g.2.2 - fr) % 1440 = (t + g.2.2 - fr - (L + 1) * 1440) % 1440 := by omega
  rw [q]
  omega
/-- the segments follow each other from c to e -/
def Part : List (Int × Int × Int) → Int → Int → Prop
  | [], c, e => c = e
  | g :: L, c, e => g.1 = c ∧ Part L g.2.1 e
theorem segsP_part (l : List (Int × Int)) : ∀ (fr o x y : Int), Okay fr l → y ≤ 52596000 → fr ≤ 52596000 → Part (segsP fr o l x y) (mx fr x) (mx (mx fr x) y) := by
  induction l with
  | nil =>
    intro fr o x y _ hy hfr
    have a1 := mx_def fr x
    have a2 := mn_def 52596000 y
    have a3 := mx_def (mx fr x) y
    rw [segsP, seg1]
    split
    · exact ⟨rfl, by show mn 52596000 y = _; omega⟩
    · show mx fr x = _; omega
  | cons s l ih =>
    intro fr o x y h hy hfr
    obtain ⟨h1, h2, h3, h4, h5⟩ := h.cons
    have := ih s.1 s.2 x y h5 hy (by omega)
    have a1 := mx_def fr x
    have a2 := mn_def s.1 y
    have a3 := mx_def (mx fr x) y
    have a4 := mx_def s.1 x
    have a5 := mx_def (mx s.1 x) y
    rw [segsP, seg1]
    split
    · by_cases c : s.1 ≤ y
      · refine ⟨rfl, ?_⟩
        show Part _ (mn s.1 y) _
        rw [show mn s.1 y = mx s.1 x by omega, show mx (mx fr x) y = mx (mx s.1 x) y by omega]
        exact this
      · have e : segsP s.1 s.2 l x y = [] := by
          apply List.eq_nil_iff_forall_not_mem.2
          intro g hg
          have g1 := segsP_ok' l s.1 s.2 x y h5 g hg
          omega
        rw [e]
        exact ⟨rfl, by show mn s.1 y = _; omega⟩
    · rw [List.nil_append]
      by_cases c : y ≤ mx fr x
      · have e : segsP s.1 s.2 l x y = [] := by
          apply List.eq_nil_iff_forall_not_mem.2
          intro g hg
          have g1 := segsP_ok' l s.1 s.2 x y h5 g hg
          omega
        rw [e]; show mx fr x = _; omega
      · rw [show mx fr x = mx s.1 x by omega]; exact this
where
  segsP_ok' (l : List (Int × Int)) : ∀ (fr o x y : Int), Okay fr l → ∀ g ∈ segsP fr o l x y, fr ≤ g.1 ∧ x ≤ g.1 ∧ g.1 < g.2.1 ∧ g.2.1 ≤ y := by
    induction l with
    | nil =>
      intro fr o x y _ g hg
      obtain ⟨h, rfl⟩ := mem_seg1.1 (by simpa [segsP] using hg)
      have a1 := mx_def fr x
      have a2 := mn_def 52596000 y
      simp only; omega
    | cons s l ih =>
      intro fr o x y h g hg
      obtain ⟨h1, h2, h3, h4, h5⟩ := h.cons
      rcases List.mem_append.1 (by simpa [segsP] using hg) with hg | hg
      · obtain ⟨h, rfl⟩ := mem_seg1.1 hg
        have a1 := mx_def fr x
        have a2 := mn_def s.1 y
        simp only; omega
      · have := ih s.1 s.2 x y h5 g hg; omega
theorem allRuns_runs {S : Int → Bool} {x fr ln : Int} (h1 : 0 < ln) (h2 : ln < 1440) (hf : 0 ≤ fr ∧ fr < 1440) : ∀ (L : List (Int × Int × Int)) (c e : Int), x ≤ c → Part L c e → (∀ g ∈ L, SegOk g) →
    (∀ g ∈ L, ∀ t, g.1 ≤ t → t < g.2.1 → S t = decide ((t + g.2.2 - fr) % 1440 < ln)) → allRuns fr ln L (runsUp S x c) = runsUp S x e := by
  intro L
  induction L with
  | nil => intro c e _ hp _ _; rw [allRuns]; cases hp; rfl
  | cons g L ih =>
    intro c e hc hp hok hS
    obtain ⟨rfl, hp⟩ := hp
    have hg := hok g (by simp)
    rw [allRuns, segRuns_runs hc hg h1 h2 hf (hS g (by simp))]
    exact ih _ _ (by have := hg.2.1; omega) hp (fun g' h' => hok g' (by simp [h'])) (fun g' h' => hS g' (by simp [h']))
/-- is the local clock time at t in the band? -/
def inB (o : Int) (l : List (Int × Int)) (fr to t : Int) : Bool := bandB ((t + offP o l t) % 1440) fr to
theorem bandZ_runs {nm : List UInt8} {o : Int} {l : List (Int × Int)} {x y fr to : Int} (hv : valZone nm o l = 0) (hx : 0 ≤ x) (hxy : x ≤ y) (hy : y ≤ 52596000) (hf : 0 ≤ fr ∧ fr < 1440) (ht : 0 ≤ to ∧ to < 1440) :
    bandZ o l x y fr to = runsUp (inB o l fr to) x y := by
  have hmod : ∀ t, inB o l fr to t = decide ((t + offP o l t - fr) % 1440 < bandLen fr to) := by
    intro t
    unfold inB
    rw [bandB_mod (by omega) hf ht]
    congr 1; apply propext
    rw [show ((t + offP o l t) % 1440 - fr) % 1440 = (t + offP o l t - fr) % 1440 by omega]
  unfold bandZ
  split
  · rename_i h0
    symm
    have : runsUp (inB o l fr to) x y = runsUp (inB o l fr to) x x := runsUp_skip (Int.le_refl _) hxy (fun t _ _ => by rw [hmod, h0]; simp; omega)
    rw [this]; simp [runsUp, runsTo]
  · rename_i h0
    have hp := segsP_part l 0 o x y (okay_of hv) hy (by decide)
    have a1 := mx_def 0 x
    have a2 := mx_def (mx 0 x) y
    rw [show mx 0 x = x by omega, show mx x y = y by have := mx_def x y; omega] at hp
    have hb1 : 0 < bandLen fr to := by unfold bandLen at *; omega
    have hb2 : bandLen fr to < 1440 := by unfold bandLen; omega
    have := allRuns_runs (S := inB o l fr to) (x := x) hb1 hb2 hf _ x y (Int.le_refl _) hp (segsP_ok l 0 o x y (okay_of hv) (Int.le_refl _) (valZone_zero hv).2.1)
      (fun g hg t h1 h2 => by
        have := (segsP_at l 0 o x y t g.2.2 (okay_of hv)).1 ⟨g, hg, h1, h2, rfl⟩
        rw [hmod, this.2.2.2.2])
    rw [← this]
    simp [runsUp, runsTo]

/-- how many numbers of S there are among n from x on -/
def cntTo (S : Int → Bool) (x : Int) : Nat → Int
  | 0 => 0
  | n + 1 => cntTo S x n + if S (x + n) = true then 1 else 0
/-- the lengths of the first k runs, added up -/
def sumTo (R : List (Int × Int)) : Nat → Int
  | 0 => 0
  | k + 1 => sumTo R k + ((runAt R k).2 - (runAt R k).1)
/-- how many of the first k runs are at least ln long -/
def longTo (R : List (Int × Int)) (ln : Int) : Nat → Int
  | 0 => 0
  | k + 1 => longTo R ln k + if ln ≤ (runAt R k).2 - (runAt R k).1 then 1 else 0
theorem runAt_append {R M : List (Int × Int)} {k : Nat} (h : k < R.length) : runAt (R ++ M) k = runAt R k := by
  simp only [runAt, List.getD_eq_getElem?_getD]; rw [List.getElem?_append_left h]
theorem runAt_set_ne {R : List (Int × Int)} {k j : Nat} (r : Int × Int) (h : j ≠ k) : runAt (R.set j r) k = runAt R k := by
  simp only [runAt, List.getD_eq_getElem?_getD]; rw [List.getElem?_set_ne h]
theorem sumTo_congr {R M : List (Int × Int)} : ∀ k : Nat, (∀ j, j < k → runAt R j = runAt M j) → sumTo R k = sumTo M k := by
  intro k
  induction k with
  | zero => intro _; rfl
  | succ k ih => intro h; rw [sumTo, sumTo, ih (fun j hj => h j (by omega)), h k (by omega)]
theorem longTo_congr {R M : List (Int × Int)} {ln : Int} : ∀ k : Nat, (∀ j, j < k → runAt R j = runAt M j) → longTo R ln k = longTo M ln k := by
  intro k
  induction k with
  | zero => intro _; rfl
  | succ k ih => intro h; rw [longTo, longTo, ih (fun j hj => h j (by omega)), h k (by omega)]
theorem addRun_sum (R : List (Int × Int)) (a b : Int) : sumTo (addRun R a b) (addRun R a b).length = sumTo R R.length + (b - a) := by
  by_cases h : 0 < R.length ∧ (runAt R (R.length - 1)).2 = a
  · rw [addRun_join h.1 h.2, List.length_set]
    obtain ⟨m, hm⟩ : ∃ m, R.length = m + 1 := ⟨R.length - 1, by omega⟩
    have h2 := h.2
    rw [hm] at h2 ⊢
    simp only [Nat.add_sub_cancel] at h2 ⊢
    rw [sumTo, sumTo, runAt_set _ (by omega), sumTo_congr m (fun j hj => runAt_set_ne _ (by omega))]
    simp only; omega
  · rw [addRun_new h, List.length_append, List.length_singleton, sumTo, runAt_last, sumTo_congr R.length (fun j hj => runAt_append hj)]
/-- runs lie inside, in order -/
theorem runsTo_in (S : Int → Bool) (x : Int) : ∀ (n k : Nat), k < (runsTo S x n).length → x ≤ (runAt (runsTo S x n) k).1 ∧ (runAt (runsTo S x n) k).1 < (runAt (runsTo S x n) k).2 ∧ (runAt (runsTo S x n) k).2 ≤ x + n := by
  intro n
  induction n with
  | zero => intro k h; simp [runsTo] at h
  | succ n ih =>
    intro k h
    rw [runsTo] at h ⊢
    split
    · rename_i hs
      rw [if_pos hs] at h
      generalize runsTo S x n = R at *
      by_cases hj : 0 < R.length ∧ (runAt R (R.length - 1)).2 = x + n
      · rw [addRun_join hj.1 hj.2] at h ⊢
        rw [List.length_set] at h
        by_cases e : k = R.length - 1
        · subst e
          rw [runAt_set _ h]
          have := ih _ h
          simp only; omega
        · rw [runAt_set_ne _ (Ne.symm e)]
          have := ih k h; omega
      · rw [addRun_new hj] at h ⊢
        by_cases e : k = R.length
        · subst e; rw [runAt_last]; simp only; omega
        · rw [runAt_append (by simp at h; omega)]
          have := ih k (by simp at h; omega); omega
    · rename_i hs
      rw [if_neg hs] at h
      have := ih k h; omega
theorem runsTo_sum (S : Int → Bool) (x : Int) : ∀ n : Nat, sumTo (runsTo S x n) (runsTo S x n).length = cntTo S x n := by
  intro n
  induction n with
  | zero => rfl
  | succ n ih =>
    rw [runsTo, cntTo]
    split
    · rw [addRun_sum, ih]; omega
    · rw [ih]; omega
theorem cntTo_bd (S : Int → Bool) (x : Int) : ∀ n : Nat, 0 ≤ cntTo S x n ∧ cntTo S x n ≤ n := by
  intro n
  induction n with
  | zero => simp [cntTo]
  | succ n ih => rw [cntTo]; split <;> omega
theorem sumTo_mono {R : List (Int × Int)} (h : ∀ k, k < R.length → (runAt R k).1 < (runAt R k).2) : ∀ j k : Nat, j ≤ k → k ≤ R.length → sumTo R j ≤ sumTo R k := by
  intro j k
  induction k with
  | zero => intro h1 _; rw [Nat.le_zero.1 h1]; exact Int.le_refl _
  | succ k ih =>
    intro h1 h2
    by_cases e : j = k + 1
    · subst e; exact Int.le_refl _
    · have := ih (by omega) (by omega)
      have := h k (by omega)
      rw [sumTo]; omega
/-- the reference's count of nights: complete runs, the length of the run that ends here -/
def nightTo (S : Int → Bool) (x ln : Int) : Nat → Int × Int
  | 0 => (0, 0)
  | n + 1 => if S (x + n) = true then ((nightTo S x ln n).1, (nightTo S x ln n).2 + 1)
    else ((nightTo S x ln n).1 + if ln ≤ (nightTo S x ln n).2 ∧ 0 < (nightTo S x ln n).2 then 1 else 0, 0)
/-- the last number: it closes the run -/
def nightEnd (S : Int → Bool) (x ln : Int) (n : Nat) : Int := (nightTo S x ln n).1 + if ln ≤ (nightTo S x ln n).2 ∧ 0 < (nightTo S x ln n).2 then 1 else 0
/-- the open run of R at e: its length, or 0 -/
def openLen (R : List (Int × Int)) (e : Int) : Int := if 0 < R.length ∧ (runAt R (R.length - 1)).2 = e then e - (runAt R (R.length - 1)).1 else 0
def openCnt (R : List (Int × Int)) (e : Int) : Nat := if 0 < R.length ∧ (runAt R (R.length - 1)).2 = e then R.length - 1 else R.length
theorem nightTo_runs (S : Int → Bool) (x ln : Int) : ∀ n : Nat, nightTo S x ln n = (longTo (runsTo S x n) ln (openCnt (runsTo S x n) (x + n)), openLen (runsTo S x n) (x + n)) := by
  intro n
  induction n with
  | zero => simp [nightTo, runsTo, openCnt, openLen, longTo]
  | succ n ih =>
    have hin := runsTo_in S x n
    rw [nightTo, runsTo, ih]
    generalize runsTo S x n = R at *
    rw [show x + ((n + 1 : Nat) : Int) = x + n + 1 by omega]
    split
    · by_cases hj : 0 < R.length ∧ (runAt R (R.length - 1)).2 = x + n
      · have hl : R.length - 1 < R.length := by omega
        have c1 : openCnt R (x + n) = R.length - 1 := if_pos hj
        have c2 : openLen R (x + n) = x + n - (runAt R (R.length - 1)).1 := if_pos hj
        rw [addRun_join hj.1 hj.2, c1, c2]
        have d : 0 < (R.set (R.length - 1) ((runAt R (R.length - 1)).1, x + n + 1)).length ∧ (runAt (R.set (R.length - 1) ((runAt R (R.length - 1)).1, x + n + 1)) ((R.set (R.length - 1) ((runAt R (R.length - 1)).1, x + n + 1)).length - 1)).2 = x + n + 1 := by
          rw [List.length_set, runAt_set _ hl]; exact ⟨hj.1, rfl⟩
        rw [openCnt, if_pos d, openLen, if_pos d, List.length_set, runAt_set _ hl]
        refine Prod.ext ?_ ?_
        · exact longTo_congr _ (fun j hj => (runAt_set_ne _ (by omega)).symm)
        · simp only; omega
      · have c1 : openCnt R (x + n) = R.length := if_neg hj
        have c2 : openLen R (x + n) = 0 := if_neg hj
        rw [addRun_new hj, c1, c2]
        have e : (R ++ [(x + (n : Int), x + n + 1)]).length - 1 = R.length := by simp
        have d : 0 < (R ++ [(x + (n : Int), x + n + 1)]).length ∧ (runAt (R ++ [(x + (n : Int), x + n + 1)]) ((R ++ [(x + (n : Int), x + n + 1)]).length - 1)).2 = x + n + 1 := by
          rw [e, runAt_last]; exact ⟨by simp, rfl⟩
        rw [openCnt, if_pos d, openLen, if_pos d, e, runAt_last]
        refine Prod.ext ?_ ?_
        · exact longTo_congr _ (fun j hj => (runAt_append hj).symm)
        · simp only; omega
    · have d : ¬ (0 < R.length ∧ (runAt R (R.length - 1)).2 = x + n + 1) := by
        rintro ⟨h1, h2⟩
        have := hin (R.length - 1) (by omega)
        omega
      have c1 : openCnt R (x + n + 1) = R.length := if_neg d
      have c2 : openLen R (x + n + 1) = 0 := if_neg d
      rw [c1, c2]
      refine Prod.ext ?_ rfl
      simp only
      by_cases hj : 0 < R.length ∧ (runAt R (R.length - 1)).2 = x + n
      · obtain ⟨m, hm⟩ : ∃ m, R.length = m + 1 := ⟨R.length - 1, by omega⟩
        have := hin (R.length - 1) (by omega)
        have h2 := hj.2
        rw [openCnt, if_pos hj, openLen, if_pos hj]
        rw [hm] at this h2 ⊢
        simp only [Nat.add_sub_cancel] at this h2 ⊢
        rw [longTo, h2]
        congr 1
        by_cases c : ln ≤ x + n - (runAt R m).1
        · rw [if_pos c, if_pos ⟨c, by omega⟩]
        · rw [if_neg c, if_neg (fun h => c h.1)]
      · rw [openCnt, if_neg hj, openLen, if_neg hj, if_neg (by omega)]; omega
theorem nightEnd_runs (S : Int → Bool) (x ln : Int) (n : Nat) : nightEnd S x ln n = longTo (runsTo S x n) ln (runsTo S x n).length := by
  have hin := runsTo_in S x n
  unfold nightEnd
  rw [nightTo_runs]
  generalize runsTo S x n = R at *
  simp only
  by_cases hj : 0 < R.length ∧ (runAt R (R.length - 1)).2 = x + n
  · obtain ⟨m, hm⟩ : ∃ m, R.length = m + 1 := ⟨R.length - 1, by omega⟩
    have := hin (R.length - 1) (by omega)
    have h2 := hj.2
    rw [openCnt, if_pos hj, openLen, if_pos hj]
    rw [hm] at this h2 ⊢
    simp only [Nat.add_sub_cancel] at this h2 ⊢
    rw [longTo, h2]
    congr 1
    by_cases c : ln ≤ x + n - (runAt R m).1
    · rw [if_pos c, if_pos ⟨c, by omega⟩]
    · rw [if_neg c, if_neg (fun h => c h.1)]
  · rw [openCnt, if_neg hj, openLen, if_neg hj, if_neg (by omega)]; omega
theorem longTo_bd (R : List (Int × Int)) (ln : Int) : ∀ k : Nat, 0 ≤ longTo R ln k ∧ longTo R ln k ≤ k := by
  intro k
  induction k with
  | zero => simp [longTo]
  | succ k ih => rw [longTo]; split <;> omega
theorem nightTo_bd (S : Int → Bool) (x ln : Int) : ∀ n : Nat, 0 ≤ (nightTo S x ln n).1 ∧ (nightTo S x ln n).1 ≤ n ∧ 0 ≤ (nightTo S x ln n).2 ∧ (nightTo S x ln n).2 ≤ n := by
  intro n
  induction n with
  | zero => simp [nightTo]
  | succ n ih =>
    rw [nightTo]
    split
    · simp only; omega
    · simp only; split <;> omega
end Go.Proofs.Ytdjhoelbnnljjaa
