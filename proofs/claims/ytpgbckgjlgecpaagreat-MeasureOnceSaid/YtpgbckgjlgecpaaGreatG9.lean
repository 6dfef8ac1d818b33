/- merged texts: Or0 Or1 Op0 Op2 Op3 Op4 -/
import Derived.Deep.DeepCutAuto
import Derived.Test.YtpgbckgjlgecpaaGreatRows
import Derived.ProofKit
import Derived.OpenShut
import Derived.ShutString
import Derived.ChangeOld
import Derived.Below
import Derived.Deep.Slices
import Derived.Deep.Fields
import Derived.ChangeSame
import Derived.Lib.SmallJoins
import Derived.SizedLaws
import Derived.Test.YtpgbckgjlgecpaaGreatG3
import Derived.Test.YtpgbckgjlgecpaaGreatG5
import Derived.Test.YtpgbckgjlgecpaaGreatG8
import Derived.Test.YtpgbckgjlgecpaaGreatG1
import Derived.Test.YtpgbckgjlgecpaaGreatG2
/- plain facts on the orders of tasks, duties and pairings -/
namespace Go.Proofs.YtpgbckgjlgecpaaGreat
open Go.RowKit Go.Sort
set_option linter.unusedVariables false
set_option linter.unusedSimpArgs false
/-- a three-way comparison that is an order -/
structure Ord3 {A : Type} (c : A → A → Int) : Prop where
  refl : ∀ x, c x x = 0
  anti : ∀ x y, c y x = - c x y
  eq : ∀ x y, c x y = 0 → x = y
  trans : ∀ x y z, c x y ≤ 0 → c y z ≤ 0 → c x z ≤ 0
theorem ord_int : Ord3 cmpInt where
  refl x := by simp [cmpInt]
  anti x y := by unfold cmpInt; repeat (first | omega | split)
  eq x y h := by unfold cmpInt at h; repeat (first | omega | split at h)
  trans x y z h1 h2 := by unfold cmpInt at *; repeat (first | omega | split at h1 | split at h2 | split)
theorem ord_task : Ord3 taskCmp where
  refl x := by simp [taskCmp, ord_int.refl]
  anti x y := by
    obtain ⟨x1, x2⟩ := x; obtain ⟨y1, y2⟩ := y
    have h := ord_int.anti x1 y1
    by_cases e : cmpInt x1 y1 = 0
    · have e' : cmpInt y1 x1 = 0 := by omega
      cases x2 <;> cases y2 <;> simp [taskCmp, e, e']
    · have e' : cmpInt y1 x1 ≠ 0 := by omega
      show (if cmpInt y1 x1 ≠ 0 then _ else _) = -(if cmpInt x1 y1 ≠ 0 then _ else _)
      rw [if_pos e', if_pos e]; exact h
  eq x y h := by
    unfold taskCmp at h
    by_cases e : cmpInt x.1 y.1 = 0
    · rw [if_neg (by simpa using e)] at h
      have h1 := ord_int.eq _ _ e
      obtain ⟨x1, x2⟩ := x; obtain ⟨y1, y2⟩ := y
      simp only at h1
      subst h1
      cases x2 <;> cases y2 <;> simp at h ⊢
    · rw [if_pos (by simpa using e)] at h; exact absurd h e
  trans x y z h1 h2 := by
    obtain ⟨x1, x2⟩ := x; obtain ⟨y1, y2⟩ := y; obtain ⟨z1, z2⟩ := z
    unfold taskCmp cmpInt at *
    cases x2 <;> cases y2 <;> cases z2 <;> simp only [reduceCtorEq, if_false, if_true] at * <;> (repeat (first | omega | split at h1 | split at h2 | split))
theorem ord_list {A : Type} {c : A → A → Int} (h : Ord3 c) : Ord3 (listCmp c) where
  refl l := by
    induction l with
    | nil => rfl
    | cons x l ih => rw [listCmp, if_neg (by simp [h.refl])]; exact ih
  anti l := by
    induction l with
    | nil => intro m; cases m <;> rfl
    | cons x l ih =>
      intro m
      cases m with
      | nil => rfl
      | cons y m =>
        rw [listCmp, listCmp]
        have ha := h.anti x y
        by_cases e : c x y = 0
        · rw [if_neg (by rw [ha, e]; simp), if_neg (by simpa using e)]; exact ih m
        · rw [if_pos (by omega), if_pos e]; exact ha
  eq l := by
    induction l with
    | nil => intro m hm; cases m with
      | nil => rfl
      | cons y m => rw [listCmp] at hm; omega
    | cons x l ih =>
      intro m hm
      cases m with
      | nil => rw [listCmp] at hm; omega
      | cons y m =>
        rw [listCmp] at hm
        by_cases e : c x y = 0
        · rw [if_neg (by simpa using e)] at hm
          rw [h.eq _ _ e, ih m hm]
        · rw [if_pos e] at hm; exact absurd hm e
  trans l := by
    induction l with
    | nil => intro m n _ h2; cases n with
      | nil => rw [listCmp]; omega
      | cons z n => rw [listCmp]; omega
    | cons x l ih =>
      intro m n h1 h2
      cases m with
      | nil => rw [listCmp] at h1; omega
      | cons y m =>
        cases n with
        | nil => rw [listCmp] at h2; omega
        | cons z n =>
          rw [listCmp] at h1 h2 ⊢
          by_cases e1 : c x y = 0
          · obtain rfl := h.eq _ _ e1
            rw [if_neg (by simpa using e1)] at h1
            by_cases e2 : c x z = 0
            · rw [if_neg (by simpa using e2)] at h2 ⊢
              exact ih m n h1 h2
            · rw [if_pos e2] at h2 ⊢
              exact h2
          · rw [if_pos e1] at h1
            by_cases e2 : c y z = 0
            · obtain rfl := h.eq _ _ e2
              rw [if_pos e1]; exact h1
            · rw [if_pos e2] at h2
              have h3 := h.trans x y z h1 h2
              have h4 : c x z ≠ 0 := fun e => by
                obtain rfl := h.eq _ _ e
                have := h.anti x y
                omega
              rw [if_pos h4]; exact h3
theorem bytesLess_irr : ∀ l : List UInt8, Op.bytesLess l l = false
  | [] => rfl
  | c :: l => by simp [Op.bytesLess, bytesLess_irr l]
/-- strings, byte by byte -/
def byteCmp (a b : UInt8) : Int := cmpInt a.toNat b.toNat
theorem ord_byte : Ord3 byteCmp where
  refl x := ord_int.refl _
  anti x y := ord_int.anti _ _
  eq x y h := by
    have := ord_int.eq _ _ h
    exact UInt8.toNat_inj.1 (by omega)
  trans x y z h1 h2 := ord_int.trans _ _ _ h1 h2
theorem bytes_cmp : ∀ a b : List UInt8, (if Op.bytesLess a b = true then (-1 : Int) else if (a == b) = true then 0 else 1) = listCmp byteCmp a b
  | [], [] => rfl
  | [], y :: m => rfl
  | x :: l, [] => rfl
  | x :: l, y :: m => by
    have ih := bytes_cmp l m
    rw [listCmp, byteCmp, ← ih]
    simp only [Op.bytesLess, cmpInt]
    by_cases h1 : x < y
    · have h1' : (x.toNat : Int) < y.toNat := by have := UInt8.lt_iff_toNat_lt.1 h1; omega
      simp [h1, h1']
    · by_cases h2 : y < x
      · have h2' : (y.toNat : Int) < x.toNat := by have := UInt8.lt_iff_toNat_lt.1 h2; omega
        have h1' : ¬ (x.toNat : Int) < y.toNat := by omega
        have hne : ¬ x = y := by rintro rfl; omega
        have hne' : ¬ y = x := fun e => hne e.symm
        simp [h1, h2, h1', h2', hne]
      · have e : x = y := by
          apply UInt8.toNat_inj.1
          exact Nat.le_antisymm (Nat.not_lt.1 (fun h => h2 (UInt8.lt_iff_toNat_lt.2 h))) (Nat.not_lt.1 (fun h => h1 (UInt8.lt_iff_toNat_lt.2 h)))
        subst e
        simp
theorem strCmp_bytes (p q : ByteArray) : strCmp p q = listCmp byteCmp p.toList q.toList := bytes_cmp _ _
theorem ord_str : Ord3 strCmp where
  refl x := by rw [strCmp_bytes]; exact (ord_list ord_byte).refl _
  anti x y := by rw [strCmp_bytes, strCmp_bytes]; exact (ord_list ord_byte).anti _ _
  eq x y h := by
    have h1 := (strCmp_zero x y).1.1 h
    rw [ba_toList_eq] at h1
    simpa using h1
  trans x y z h1 h2 := by rw [strCmp_bytes] at *; exact (ord_list ord_byte).trans _ _ _ h1 h2
theorem ord_pair : Ord3 pairCmp where
  refl x := by unfold pairCmp; rw [if_neg (by simp [ord_str.refl])]; exact (ord_list (ord_list ord_task)).refl _
  anti x y := by
    have ha := ord_str.anti x.1 y.1
    unfold pairCmp
    by_cases e : strCmp x.1 y.1 = 0
    · rw [if_neg (by rw [ha, e]; simp), if_neg (by simpa using e)]; exact (ord_list (ord_list ord_task)).anti _ _
    · rw [if_pos (by omega), if_pos e]; exact ha
  eq x y h := by
    unfold pairCmp at h
    by_cases e : strCmp x.1 y.1 = 0
    · rw [if_neg (by simpa using e)] at h
      exact Prod.ext (ord_str.eq _ _ e) ((ord_list (ord_list ord_task)).eq _ _ h)
    · rw [if_pos e] at h; exact absurd h e
  trans x y z h1 h2 := by
    obtain ⟨x1, x2⟩ := x; obtain ⟨y1, y2⟩ := y; obtain ⟨z1, z2⟩ := z
    unfold pairCmp at *
    simp only at *
    by_cases e1 : strCmp x1 y1 = 0
    · obtain rfl := ord_str.eq _ _ e1
      rw [if_neg (by simpa using e1)] at h1
      by_cases e2 : strCmp x1 z1 = 0
      · rw [if_neg (by simpa using e2)] at h2 ⊢
        exact (ord_list (ord_list ord_task)).trans _ _ _ h1 h2
      · rw [if_pos e2] at h2 ⊢
        exact h2
    · rw [if_pos e1] at h1
      by_cases e2 : strCmp y1 z1 = 0
      · obtain rfl := ord_str.eq _ _ e2
        rw [if_pos e1]; exact h1
      · rw [if_pos e2] at h2
        have h3 := ord_str.trans x1 y1 z1 h1 h2
        have h4 : strCmp x1 z1 ≠ 0 := fun e => by
          obtain rfl := ord_str.eq _ _ e
          have := ord_str.anti x1 y1
          omega
        rw [if_pos h4]; exact h3
end Go.Proofs.YtpgbckgjlgecpaaGreat
/- the law MeasureOrders -/
namespace Go.Proofs.YtpgbckgjlgecpaaGreat
open Go.RowKit Go.Sort
set_option linter.unusedVariables false
set_option linter.unusedSimpArgs false
set_option maxRecDepth 100000
theorem rng_list {A : Type} {c : A → A → Int} (h : ∀ x y, -1 ≤ c x y ∧ c x y ≤ 1) : ∀ l m, -1 ≤ listCmp c l m ∧ listCmp c l m ≤ 1
  | [], [] => by rw [listCmp]; omega
  | [], y :: m => by rw [listCmp]; omega
  | x :: l, [] => by rw [listCmp]; omega
  | x :: l, y :: m => by
    rw [listCmp]
    split
    · exact h x y
    · exact rng_list h l m
theorem rng_int (x y : Int) : -1 ≤ cmpInt x y ∧ cmpInt x y ≤ 1 := by unfold cmpInt; repeat (first | omega | split)
theorem rng_task (x y : Int × Bool) : -1 ≤ taskCmp x y ∧ taskCmp x y ≤ 1 := by
  unfold taskCmp
  split
  · exact rng_int _ _
  · repeat (first | omega | split)
theorem rng_pair (x y : ByteArray × List Duty) : -1 ≤ pairCmp x y ∧ pairCmp x y ≤ 1 := by
  unfold pairCmp
  split
  · rw [strCmp_bytes]; exact rng_list (fun a b => rng_int _ _) _ _
  · exact rng_list (rng_list rng_task) _ _
def SomeBool (w : World) (e : Ending) (w' : World) : Prop := ∃ b : Bool, e = .returned (.bool b) ∧ Below w.heap.size w w'
set_option maxHeartbeats 800000 in
theorem light_any (s : ByteArray) (l : List Duty) (a : Option Addr) (cap : Nat) (w : World) (hl : l.length ≤ 140737488355328) (ha : SlAt dutyRT w a l) : Calls Tryz.prog 11 #[.agg #[.string s, .slice a l.length cap]] w (SomeBool w) := by
  have HA := Lib.hid ha
  clear ha
  go_enter Tryz.func11, Tryz.ntmps11
  go_wp2_with fail
  have HB := Lib.hid (below_new w (Obj.cells #[.string s, .slice a l.length cap] 37))
  have q0 := heap_new w (Obj.cells #[.string s, .slice a l.length cap] 37)
  have x1 : (w.alloc (Obj.cells #[.string s, .slice a l.length cap] 37)).cell? ⟨w.heap.size, 1, none⟩ = some (.slice a l.length cap) := cellW (j := 1) q0 rfl
  have xl := lt_of_block q0
  clear q0
  generalize w.alloc (Obj.cells #[.string s, .slice a l.length cap] 37) = W at *
  go_loop [3, 4] (fun n i => ∃ k m : Nat, k ≤ l.length ∧ i = .int .i64 k ∧ n = .int .i64 m ∧ m ≤ 281474976710656) (fun _ i => l.length - (intOf i).toNat)
  case atStart => exact ⟨0, 0, Nat.zero_le _, rfl, rfl, by omega⟩
  case round =>
    obtain ⟨k, m, hk, rfl, rfl, hm⟩ := hrel
    by_cases hlt : k < l.length
    · by_cases hm2 : m < 1000
      · obtain ⟨b, off, rfl, hb, hcs⟩ := duty_cells (HA.out.below HB.out) (by omega)
        obtain ⟨da, dc, c0, hd1, _⟩ := hcs k hlt
        clear hcs
        have g1 : decide ((m : Int) < 1000) = true := by simp; omega
        go_wp2_with fail
        go_round
        case rel => exact ⟨k + 1, m + 1 + (dAt l k).length, by omega, by go_num, by go_num, by omega⟩
        case measure => simp [intOf]; omega
      · have g1 : decide ((m : Int) < 1000) = false := by simp; omega
        go_wp2_with fail
        go_ret
        exact ⟨_, rfl, HB.out⟩
    · go_wp2_with fail
      go_ret
      exact ⟨_, rfl, HB.out⟩
end Go.Proofs.YtpgbckgjlgecpaaGreat
/- opening arguments: reading data as representations -/
namespace Go.Proofs.YtpgbckgjlgecpaaGreat
open Go.ChangeShapes Go.WideShapes Go.ChangeAt Go.RowKit Go.Deep Go.Joins
open Go.ChangeMaps (open_string shut_string)
set_option linter.unusedVariables false
theorem own : ownKnob Tryz.prog.godebug = none := by kernel_rfl
theorem laidOut : laidOutB Tryz.prog = true := by kernel_rfl
/-- what is read at type t opens as r -/
def Opens {A : Type} (t : TypeId) (r : RT A) : Prop := ∀ {H : Type} {enc : TypeId × Value → H} {W : World} {fuel : Nat} {cs : List Value} {x : DataW H × List MemPlace}, DataW.trod enc Tryz.prog W 0 (fun _ => true) true fuel t cs = some x → (∀ n ∈ DataW.weights Tryz.prog t x.1, n ≤ reachBytes) → ∃ a : A, r.rep W cs a
theorem opens_int {t : TypeId} (ht : Tryz.prog.underlying t = some (.int .i64)) : Opens t RT.int := by
  intro H enc W fuel cs x h _
  obtain ⟨n, e, _, hw⟩ := DataW.trod_int ht h
  exact ⟨n, e, hw⟩
theorem opens_bool {t : TypeId} (ht : Tryz.prog.underlying t = some .bool) : Opens t RT.bool := by
  intro H enc W fuel cs x h _
  obtain ⟨b, e, _⟩ := DataW.trod_bool ht h
  exact ⟨b, e⟩
theorem opens_str {t : TypeId} (ht : Tryz.prog.underlying t = some .string) : Opens t RT.str := by
  intro H enc W fuel cs x h hw
  obtain ⟨s, e, rfl, _⟩ := DataW.trod_string ht h
  refine ⟨s, e, ?_⟩
  have := hw s.data.toList.length (by simp [DataW.weights])
  have e2 : s.data.toList.length = s.size := by simp
  have := reachBytes_lt
  omega
theorem weights_all {H : Type} {e : TypeId} : ∀ {l : List (DataW H)} {d : DataW H}, d ∈ l → ∀ n ∈ d.weights Tryz.prog e, n ∈ DataW.weightsAll Tryz.prog e l
  | x :: l, d, hd, n, hn => by
    simp only [DataW.weightsAll, List.mem_append]
    rcases List.mem_cons.1 hd with rfl | hd
    · exact .inl hn
    · exact .inr (weights_all hd n hn)
theorem choose_list {A : Type} (n : Nat) (R : Nat → A → Prop) (h : ∀ i, i < n → ∃ x, R i x) : ∃ l : List A, l.length = n ∧ ∀ i (hi : i < l.length), R i l[i] := by
  induction n with
  | zero => exact ⟨[], rfl, fun i hi => absurd hi (Nat.not_lt_zero _)⟩
  | succ n ih =>
    obtain ⟨l, hl, hr⟩ := ih (fun i hi => h i (by omega))
    obtain ⟨x, hx⟩ := h n (by omega)
    refine ⟨l ++ [x], by simp [hl], fun i hi => ?_⟩
    by_cases e : i = n
    · subst e
      rw [List.getElem_append_right (by omega)]
      simpa using hx
    · have hi' : i < l.length := by simp at hi; omega
      rw [List.getElem_append_left hi']; exact hr i hi'
theorem opens_slice {A : Type} {r : RT A} {t e : TypeId} (ht : Tryz.prog.underlying t = some (.slice e)) (hc : Tryz.prog.cellsOf e = r.n) (hn : 0 < r.n) (hb : 1 ≤ Tryz.prog.bytesOf e) (h : Opens e r) : Opens t (RT.sl r) := by
  intro H enc W fuel cs x hx hw
  rcases open_slice ht hx with ⟨e1, _⟩ | ⟨a, len, cap, m, n, D, Pl, e1, _, hl, _, hm, hxx, hf⟩
  · exact ⟨[], none, 0, e1, Nat.le_refl _, by omega, .inl rfl⟩
  · simp only [if_true] at hm
    rw [hm] at hf hxx
    clear hm
    subst hxx
    have hw1 := hw ((((List.range len).map D).length + ((List.range (cap - len)).map fun j => D (len + j)).length) * Tryz.prog.bytesOf e) (by simp only [DataW.weights, ht]; exact List.mem_cons_self ..)
    have hlen : ((List.range len).map D).length + ((List.range (cap - len)).map fun j => D (len + j)).length = cap := by simp; omega
    rw [hlen] at hw1
    have hcap : cap ≤ 140737488355328 := by
      have := reachBytes_lt
      have h1 : cap * 1 ≤ cap * Tryz.prog.bytesOf e := Nat.mul_le_mul_left _ hb
      omega
    have hex : ∀ i, i < len → ∃ y : A, ∃ cs', W.cells? 0 (a.add (i * Tryz.prog.cellsOf e)) (Tryz.prog.cellsOf e) = some cs' ∧ r.rep W cs' y := by
      intro i hi
      obtain ⟨cs', h1, h2⟩ := hf i (by omega)
      obtain ⟨y, hy⟩ := h h2 (fun k hk => hw k (by
        simp only [DataW.weights, ht]
        refine List.mem_cons_of_mem _ (List.mem_append_left _ ?_)
        exact weights_all (List.mem_map.2 ⟨i, List.mem_range.2 hi, rfl⟩) k hk))
      exact ⟨y, cs', h1, hy⟩
    obtain ⟨l, hll, hlr⟩ := choose_list len (fun i y => ∃ cs', W.cells? 0 (a.add (i * Tryz.prog.cellsOf e)) (Tryz.prog.cellsOf e) = some cs' ∧ r.rep W cs' y) hex
    subst hll
    refine ⟨l, some a, cap, e1, hl, hcap, ?_⟩
    by_cases e0 : l.length = 0
    · exact .inl (List.length_eq_zero_iff.1 e0)
    · have hcell : ∀ i (hi : i < l.length), ∃ cs', (∀ j (hj : j < cs'.length), W.cell? (a.add (i * r.n + j)) = some cs'[j]) ∧ r.rep W cs' l[i] := by
        intro i hi
        obtain ⟨cs', h1, h2⟩ := hlr i hi
        rw [hc] at h1
        obtain ⟨_, hlen', hat⟩ := World.cells?_some h1
        refine ⟨cs', fun j hj => ?_, h2⟩
        have g := hat j (by omega)
        rw [add_add] at g
        rw [g]; exact List.getElem?_eq_getElem hj
      obtain ⟨b, off, spot⟩ := a
      obtain ⟨cs0, h00, hr0⟩ := hcell 0 (by omega)
      have hl0 : 0 < cs0.length := by rw [r.len hr0]; exact hn
      have g0 := h00 0 hl0
      have hspot : spot = none := by simpa [Addr.add] using World.cell?_spot g0
      subst hspot
      have hblt : b < W.heap.size := by simpa [Addr.add] using block_lt_of_cell g0
      refine .inr ⟨b, off, rfl, hblt, fun i hi => ?_⟩
      obtain ⟨cs', h1, h2⟩ := hcell i hi
      refine ⟨cs', fun j hj => ?_, h2⟩
      have g := h1 j hj
      rw [Addr.add_lit] at g
      rw [Nat.add_assoc]
      exact g
/-- the fields of a struct -/
theorem trod_fields {H : Type} {enc : TypeId × Value → H} {W : World} {t : TypeId} {fs : Array Field} {fuel : Nat} {cs : List Value} {x : DataW H × List MemPlace} (ht : Tryz.prog.underlying t = some (.struct fs)) (h : DataW.trod enc Tryz.prog W 0 (fun _ => true) true fuel t cs = some x) (hw : ∀ n ∈ DataW.weights Tryz.prog t x.1, n ≤ reachBytes) :
    cs.length = Tryz.prog.cellsOf t ∧ ∀ (i : Nat) (f : Field), fs[i]? = some f → ∃ (n : Nat) (y : DataW H × List MemPlace), DataW.trod enc Tryz.prog W 0 (fun _ => true) true n f.type ((cs.drop f.offset).take (Tryz.prog.cellsOf f.type)) = some y ∧ ∀ k ∈ DataW.weights Tryz.prog f.type y.1, k ≤ reachBytes := by
  obtain ⟨xs, n, _, rfl, hl, hlen, hf⟩ := DataW.trod_struct ht h
  refine ⟨hl, fun i f hi => ?_⟩
  have h1 := hf i f hi
  have hif : i < fs.size := (Array.getElem?_eq_some_iff.1 hi).1
  have hix : i < xs.length := by omega
  rw [List.getElem?_eq_getElem hix] at h1
  refine ⟨n, xs[i], h1, fun k hk => hw k ?_⟩
  simp only [DataW.weights, ht]
  refine DataW.weights_mem_each (j := i) (t := f.type) (d := xs[i].1) ?_ ?_ k hk
  · rw [List.getElem?_map, Array.getElem?_toList, hi]; rfl
  · rw [List.getElem?_map, List.getElem?_eq_getElem hix]; rfl
/-- a struct of two parts -/
theorem opens_two {A B : Type} {r : RT A} {q : RT B} {t : TypeId} {f0 f1 : Field} (ht : Tryz.prog.underlying t = some (.struct #[f0, f1])) (h0 : f0.offset = 0) (h1 : f1.offset = r.n) (k0 : Tryz.prog.cellsOf f0.type = r.n) (k1 : Tryz.prog.cellsOf f1.type = q.n) (kt : Tryz.prog.cellsOf t = r.n + q.n) (g0 : Opens f0.type r) (g1 : Opens f1.type q) : Opens t (RT.prod r q) := by
  intro H enc W fuel cs x h hw
  obtain ⟨hl, hf⟩ := trod_fields ht h hw
  obtain ⟨n0, y0, t0, w0⟩ := hf 0 f0 rfl
  obtain ⟨n1, y1, t1, w1⟩ := hf 1 f1 rfl
  obtain ⟨a, ha⟩ := g0 t0 w0
  obtain ⟨b, hb⟩ := g1 t1 w1
  rw [h0, k0, List.drop_zero] at ha
  rw [h1, k1] at hb
  rw [List.take_of_length_le (by rw [List.length_drop]; omega)] at hb
  exact ⟨(a, b), cs.take r.n, cs.drop r.n, (List.take_append_drop _ _).symm, ha, hb⟩
end Go.Proofs.YtpgbckgjlgecpaaGreat
/- opening duties and pairings -/
namespace Go.Proofs.YtpgbckgjlgecpaaGreat
open Go.ChangeShapes Go.WideShapes Go.ChangeAt Go.RowKit Go.Deep Go.Joins
set_option linter.unusedVariables false
set_option maxRecDepth 100000
theorem opens_duty : Opens 44 dutyRT :=
  opens_slice Tryz.underlying44 (by kernel_rfl) (by decide) (Nat.le_of_ble_eq_true (by kernel_rfl)) (opens_two Tryz.underlying46 rfl rfl (by kernel_rfl) (by kernel_rfl) (by kernel_rfl) (opens_int Tryz.underlying3) (opens_bool Tryz.underlying4))
theorem opens_duties : Opens 35 (RT.sl dutyRT) :=
  opens_slice Tryz.underlying35 (by kernel_rfl) (by decide) (Nat.le_of_ble_eq_true (by kernel_rfl)) opens_duty
theorem opens_pairing : Opens 37 (RT.prod RT.str (RT.sl dutyRT)) :=
  opens_two Tryz.underlying37 rfl rfl (by kernel_rfl) (by kernel_rfl) (by kernel_rfl) (opens_str Tryz.underlying9) opens_duties
theorem open_duty {H : Type} {enc : TypeId × Value → H} {W : World} {r : Reach} {b0 : Nat} {v : Value} {d : DataW H} {p : List MemPlace} (hv : Value.okWide Tryz.prog W r b0 44 v) (h : DataW.Trod enc Tryz.prog W 0 (fun _ => true) true 44 v d p) (hw : ∀ n ∈ DataW.weights Tryz.prog 44 d, n ≤ reachBytes) :
    ∃ (l : Duty) (a : Option Addr) (cap : Nat), v = .slice a l.length cap ∧ l.length ≤ 140737488355328 ∧ SlAt taskRT W a l := by
  obtain ⟨sa, sn, sc, rfl⟩ := okWide_slice Tryz.underlying44 hv
  obtain ⟨fu, hf⟩ := h
  obtain ⟨l, a, cap, e, h1, h2, h3⟩ := opens_duty hf hw
  have e' : [Value.slice sa sn sc] = [.slice a l.length cap] := e
  cases e'
  exact ⟨l, _, _, rfl, Nat.le_trans h1 h2, h3⟩
theorem open_pairing {H : Type} {enc : TypeId × Value → H} {W : World} {r : Reach} {b0 : Nat} {v : Value} {d : DataW H} {p : List MemPlace} (hv : Value.okWide Tryz.prog W r b0 37 v) (h : DataW.Trod enc Tryz.prog W 0 (fun _ => true) true 37 v d p) (hw : ∀ n ∈ DataW.weights Tryz.prog 37 d, n ≤ reachBytes) :
    ∃ (s : ByteArray) (l : List Duty) (a : Option Addr) (cap : Nat), v = .agg #[.string s, .slice a l.length cap] ∧ s.size ≤ 140737488355328 ∧ l.length ≤ 140737488355328 ∧ SlAt dutyRT W a l := by
  obtain ⟨cs, rfl, _⟩ := okWide_struct Tryz.underlying37 hv
  obtain ⟨fu, hf⟩ := h
  obtain ⟨⟨s, l⟩, c, q, e, ⟨rfl, hs⟩, a, cap, rfl, h1, h2, h3⟩ := opens_pairing hf hw
  have e' : cs.toList = [.string s, .slice a l.length cap] := e
  have e2 : cs = #[.string s, .slice a l.length cap] := by cases cs; simpa using e'
  subst e2
  exact ⟨s, l, a, cap, rfl, hs, Nat.le_trans h1 h2, h3⟩
end Go.Proofs.YtpgbckgjlgecpaaGreat
/- opening expressions and contracts -/
namespace Go.Proofs.YtpgbckgjlgecpaaGreat
open Go.ChangeShapes Go.WideShapes Go.ChangeAt Go.RowKit Go.Deep Go.Joins
set_option linter.unusedVariables false
set_option maxRecDepth 100000
/-- what is read at type t with little fuel opens as r -/
def OpensF (N : Nat) {A : Type} (t : TypeId) (r : RT A) : Prop := ∀ (H : Type) (enc : TypeId × Value → H) (W : World) (fuel : Nat) (cs : List Value) (x : DataW H × List MemPlace), fuel < N → DataW.trod enc Tryz.prog W 0 (fun _ => true) true fuel t cs = some x → (∀ n ∈ DataW.weights Tryz.prog t x.1, n ≤ reachBytes) → ∃ a : A, r.rep W cs a
theorem Opens.of {A : Type} {t : TypeId} {r : RT A} (h : ∀ N, OpensF N t r) : Opens t r := by
  intro H enc W fuel cs x h1 h2
  exact h (fuel + 1) H enc W fuel cs x (Nat.lt_succ_self _) h1 h2
theorem opens_sliceF {A : Type} {r : RT A} {t e : TypeId} {N : Nat} (ht : Tryz.prog.underlying t = some (.slice e)) (hc : Tryz.prog.cellsOf e = r.n) (hn : 0 < r.n) (hb : 1 ≤ Tryz.prog.bytesOf e) (h : OpensF N e r) : OpensF (N + 1) t (RT.sl r) := by
  intro H enc W fuel cs x hN hx hw
  rcases DataW.trod_slice ht hx with ⟨e1, _⟩ | ⟨a, len, cap, elems, rest, n, hfu, e1, hxx, _, hl, _, hlen, hel, hsp, _⟩
  · exact ⟨[], none, 0, e1, Nat.le_refl _, by omega, .inl rfl⟩
  · obtain ⟨hrl, _⟩ := hsp rfl
    subst hxx
    have hw1 := hw (((elems.map (·.1)).length + (rest.map (·.1)).length) * Tryz.prog.bytesOf e) (by simp only [DataW.weights, ht]; exact List.mem_cons_self ..)
    have hlen2 : (elems.map (·.1)).length + (rest.map (·.1)).length = cap := by simp; omega
    rw [hlen2] at hw1
    have hcap : cap ≤ 140737488355328 := by
      have := reachBytes_lt
      have h1 : cap * 1 ≤ cap * Tryz.prog.bytesOf e := Nat.mul_le_mul_left _ hb
      omega
    have hex : ∀ i, i < len → ∃ y : A, ∃ cs', W.cells? 0 (a.add (i * Tryz.prog.cellsOf e)) (Tryz.prog.cellsOf e) = some cs' ∧ r.rep W cs' y := by
      intro i hi
      have h1 := hel i hi
      have hi' : i < elems.length := by omega
      rw [List.getElem?_eq_getElem hi', Option.bind_eq_some_iff] at h1
      obtain ⟨cs', h1, h2⟩ := h1
      obtain ⟨y, hy⟩ := h _ _ _ _ _ _ (by omega) h2 (fun k hk => hw k (by
        simp only [DataW.weights, ht]
        refine List.mem_cons_of_mem _ (List.mem_append_left _ ?_)
        exact weights_all (List.mem_map.2 ⟨elems[i], List.getElem_mem hi', rfl⟩) k hk))
      exact ⟨y, cs', h1, hy⟩
    obtain ⟨l, hll, hlr⟩ := choose_list len (fun i y => ∃ cs', W.cells? 0 (a.add (i * Tryz.prog.cellsOf e)) (Tryz.prog.cellsOf e) = some cs' ∧ r.rep W cs' y) hex
    clear hlen hlen2 hel hsp hrl hw hw1 hex
    subst hll
    refine ⟨l, some a, cap, e1, hl, hcap, ?_⟩
    by_cases e0 : l.length = 0
    · exact .inl (List.length_eq_zero_iff.1 e0)
    · have hcell : ∀ i (hi : i < l.length), ∃ cs', (∀ j (hj : j < cs'.length), W.cell? (a.add (i * r.n + j)) = some cs'[j]) ∧ r.rep W cs' l[i] := by
        intro i hi
        obtain ⟨cs', h1, h2⟩ := hlr i hi
        rw [hc] at h1
        obtain ⟨_, hlen', hat⟩ := World.cells?_some h1
        refine ⟨cs', fun j hj => ?_, h2⟩
        have g := hat j (by omega)
        rw [add_add] at g
        rw [g]; exact List.getElem?_eq_getElem hj
      obtain ⟨b, off, spot⟩ := a
      obtain ⟨cs0, h00, hr0⟩ := hcell 0 (by omega)
      have hl0 : 0 < cs0.length := by rw [r.len hr0]; exact hn
      have g0 := h00 0 hl0
      have hspot : spot = none := by simpa [Addr.add] using World.cell?_spot g0
      subst hspot
      have hblt : b < W.heap.size := by simpa [Addr.add] using block_lt_of_cell g0
      refine .inr ⟨b, off, rfl, hblt, fun i hi => ?_⟩
      obtain ⟨cs', h1, h2⟩ := hcell i hi
      refine ⟨cs', fun j hj => ?_, h2⟩
      have g := h1 j hj
      rw [Addr.add_lit] at g
      rw [Nat.add_assoc]
      exact g
/-- the fields of a struct, with less fuel -/
theorem trod_fieldsF {H : Type} {enc : TypeId × Value → H} {W : World} {t : TypeId} {fs : Array Field} {fuel : Nat} {cs : List Value} {x : DataW H × List MemPlace} (ht : Tryz.prog.underlying t = some (.struct fs)) (h : DataW.trod enc Tryz.prog W 0 (fun _ => true) true fuel t cs = some x) (hw : ∀ n ∈ DataW.weights Tryz.prog t x.1, n ≤ reachBytes) :
    cs.length = Tryz.prog.cellsOf t ∧ ∀ (i : Nat) (f : Field), fs[i]? = some f → ∃ (n : Nat) (y : DataW H × List MemPlace), n < fuel ∧ DataW.trod enc Tryz.prog W 0 (fun _ => true) true n f.type ((cs.drop f.offset).take (Tryz.prog.cellsOf f.type)) = some y ∧ ∀ k ∈ DataW.weights Tryz.prog f.type y.1, k ≤ reachBytes := by
  obtain ⟨xs, n, hfu, rfl, hl, hlen, hf⟩ := DataW.trod_struct ht h
  refine ⟨hl, fun i f hi => ?_⟩
  have h1 := hf i f hi
  have hif : i < fs.size := (Array.getElem?_eq_some_iff.1 hi).1
  have hix : i < xs.length := by omega
  rw [List.getElem?_eq_getElem hix] at h1
  refine ⟨n, xs[i], by omega, h1, fun k hk => hw k ?_⟩
  simp only [DataW.weights, ht]
  refine DataW.weights_mem_each (j := i) (t := f.type) (d := xs[i].1) ?_ ?_ k hk
  · rw [List.getElem?_map, Array.getElem?_toList, hi]; rfl
  · rw [List.getElem?_map, List.getElem?_eq_getElem hix]; rfl
theorem one_of_len {l : List Value} (h : l.length = 1) : ∃ v, l = [v] := by
  match l, h with
  | [v], _ => exact ⟨v, rfl⟩
theorem at_of_take1 {cs : List Value} {o : Nat} {v : Value} (h : (cs.drop o).take 1 = [v]) : cs[o]? = some v := by
  have := congrArg (fun l : List Value => l[0]?) h
  simpa using this
/-- a field of one cell -/
theorem field1F {A : Type} {r : RT A} {H : Type} {enc : TypeId × Value → H} {W : World} {fs : Array Field} {fuel : Nat} {cs : List Value}
    (hfl : ∀ (i : Nat) (f : Field), fs[i]? = some f → ∃ (n : Nat) (y : DataW H × List MemPlace), n < fuel ∧ DataW.trod enc Tryz.prog W 0 (fun _ => true) true n f.type ((cs.drop f.offset).take (Tryz.prog.cellsOf f.type)) = some y ∧ ∀ k ∈ DataW.weights Tryz.prog f.type y.1, k ≤ reachBytes)
    (i : Nat) {f : Field} (hi : fs[i]? = some f) (hr : r.n = 1) (hc : Tryz.prog.cellsOf f.type = 1) (ho : OpensF fuel f.type r) : ∃ (a : A) (v : Value), cs[f.offset]? = some v ∧ r.rep W [v] a := by
  obtain ⟨n, y, hn, h1, h2⟩ := hfl i f hi
  obtain ⟨a, ha⟩ := ho _ _ _ _ _ _ hn h1 h2
  rw [hc] at ha
  obtain ⟨v, hv⟩ := one_of_len ((r.len ha).trans hr)
  exact ⟨a, v, at_of_take1 hv, hv ▸ ha⟩
theorem Opens.f {A : Type} {t : TypeId} {r : RT A} (h : Opens t r) (N : Nat) : OpensF N t r := fun _ _ _ _ _ _ _ h1 h2 => h h1 h2
theorem cons_of_len {n : Nat} {cs : List Value} (h : cs.length = n + 1) : ∃ c l, cs = c :: l ∧ l.length = n := by
  cases cs with
  | nil => simp at h
  | cons c l => exact ⟨c, l, rfl, by simpa using h⟩
/-- an expression in four cells -/
def exprRT : RT ExprM where
  n := 4
  rep w cs x := ∃ a cap, cs = [.int .i64 x.op, .int .i64 x.num, .string x.name, .slice a x.args.length cap] ∧ ExprFit x ∧ ArgsAt w.heap.size w a x.args
  len := by rintro w cs z ⟨_, _, rfl, _⟩; rfl
  mono := by
    rintro w w' cs z ⟨a, cap, h1, h2, h3⟩ hw
    exact ⟨a, cap, h1, h2, (h3.keep hw).more hw.size⟩
theorem exprsAt_of {w : World} {b : Nat} (hb : b < w.heap.size) : ∀ (l : List ExprM) (off : Nat), (∀ i (h : i < l.length), ∃ cs, CellsAt w b (off + i * 4) cs ∧ exprRT.rep w cs l[i]) → ExprsAt w.heap.size w b off l
  | [], off, _ => .nil b off
  | x :: l, off, h => by
    obtain ⟨cs, h1, a, cap, rfl, hf, b', off', ha, hx⟩ := h 0 (by simp)
    have g0 := h1 0 (by simp)
    have g1 := h1 1 (by simp)
    have g2 := h1 2 (by simp)
    have g3 := h1 3 (by simp)
    refine .cons hb (by simpa using g0) (by simpa using g1) (by simpa using g2) (by simpa using g3) hf.1 hf.2.1 hf.2.2.1 hf.2.2.2 (by simpa using ha) (by simpa using hx) (exprsAt_of hb l (off + 4) fun i hi => ?_)
    have := h (i + 1) (by simpa using hi)
    rw [show off + (i + 1) * 4 = off + 4 + i * 4 by omega] at this
    simpa using this
theorem argsAt_of {w : World} {a : Option Addr} {l : List ExprM} (h : SlAt exprRT w a l) : ArgsAt w.heap.size w a l := by
  rcases h with rfl | ⟨b, off, rfl, hb, hc⟩
  · exact ⟨0, 0, fun h => absurd rfl h, .nil _ _⟩
  · exact ⟨b, off, fun _ => rfl, exprsAt_of hb l off hc⟩
theorem fit_of {w : World} {a : Option Addr} {l : List ExprM} (h : SlAt exprRT w a l) : ∀ x ∈ l, ExprFit x := by
  intro x hx
  obtain ⟨i, hi, rfl⟩ := List.getElem_of_mem hx
  rcases h with rfl | ⟨b, off, rfl, hb, hc⟩
  · simp at hi
  · obtain ⟨cs, _, a, cap, _, hf, _⟩ := hc i hi
    exact hf
theorem opens_exprF : ∀ N, OpensF N 111 exprRT
  | 0 => fun _ _ _ _ _ _ h _ _ => absurd h (Nat.not_lt_zero _)
  | N + 1 => by
    intro H enc W fuel cs x hN hx hw
    obtain ⟨hl, hf⟩ := trod_fieldsF Tryz.underlying111 hx hw
    have hl4 : cs.length = 4 := hl.trans (by kernel_rfl)
    have hS : OpensF fuel 30 (RT.sl exprRT) := by
      cases N with
      | zero =>
        intro H enc W f2 cs x h1 h2 h3
        have h0 : f2 = 0 := by omega
        subst h0
        simp [DataW.trod] at h2
      | succ M => exact fun _ _ _ _ _ _ h1 h2 h3 => opens_sliceF (N := M) Tryz.underlying30 (by kernel_rfl) (by decide) (Nat.le_of_ble_eq_true (by kernel_rfl)) (fun _ _ _ _ _ _ g1 g2 g3 => opens_exprF (M + 1) _ _ _ _ _ _ (by omega) g2 g3) _ _ _ _ _ _ (by omega) h2 h3
    obtain ⟨o, v0, e0, hv0, w0⟩ := field1F hf 0 rfl rfl (by kernel_rfl) (Opens.f (opens_int Tryz.underlying3) fuel)
    obtain ⟨m, v1, e1, hv1, w1⟩ := field1F hf 1 rfl rfl (by kernel_rfl) (Opens.f (opens_int Tryz.underlying3) fuel)
    obtain ⟨s, v2, e2, hv2, w2⟩ := field1F hf 2 rfl rfl (by kernel_rfl) (Opens.f (opens_str Tryz.underlying9) fuel)
    obtain ⟨l, v3, e3, a, cap, hv3, h1, h2, h3⟩ := field1F hf 3 rfl rfl (by kernel_rfl) hS
    cases hv0; cases hv1; cases hv2; cases hv3
    obtain ⟨c0, r0, rfl, k0⟩ := cons_of_len hl4
    obtain ⟨c1, r1, rfl, k1⟩ := cons_of_len k0
    obtain ⟨c2, r2, rfl, k2⟩ := cons_of_len k1
    obtain ⟨c3, r3, rfl, k3⟩ := cons_of_len k2
    obtain rfl := List.length_eq_zero_iff.1 k3
    have g0 : some c0 = some _ := e0
    have g1 : some c1 = some _ := e1
    have g2 : some c2 = some _ := e2
    have g3 : some c3 = some _ := e3
    cases g0; cases g1; cases g2; cases g3
    exact ⟨.mk o m s l, a, cap, rfl, ⟨w2, Nat.le_trans h1 h2, w0, w1⟩, argsAt_of h3⟩
theorem opens_expr : Opens 111 exprRT := Opens.of opens_exprF
theorem opens_exprs : Opens 30 (RT.sl exprRT) := opens_slice Tryz.underlying30 (by kernel_rfl) (by decide) (Nat.le_of_ble_eq_true (by kernel_rfl)) opens_expr
/-- data read through a function -/
def RT.via {A B : Type} (r : RT A) (f : B → A) : RT B where
  n := r.n
  rep w cs b := r.rep w cs (f b)
  len h := r.len h
  mono h hw := r.mono h hw
theorem Opens.via {A B : Type} {t : TypeId} {r : RT A} (h : Opens t r) (f : B → A) (g : A → B) (hg : ∀ a, f (g a) = a) : Opens t (r.via f) := by
  intro H enc W fuel cs x h1 h2
  obtain ⟨a, ha⟩ := h h1 h2
  exact ⟨g a, by show r.rep W cs (f (g a)); rw [hg]; exact ha⟩
theorem opens_three {A B C : Type} {r : RT A} {q : RT B} {s : RT C} {t : TypeId} {f0 f1 f2 : Field} (ht : Tryz.prog.underlying t = some (.struct #[f0, f1, f2])) (h0 : f0.offset = 0) (h1 : f1.offset = r.n) (h2 : f2.offset = r.n + q.n) (k0 : Tryz.prog.cellsOf f0.type = r.n) (k1 : Tryz.prog.cellsOf f1.type = q.n) (k2 : Tryz.prog.cellsOf f2.type = s.n) (kt : Tryz.prog.cellsOf t = r.n + (q.n + s.n)) (g0 : Opens f0.type r) (g1 : Opens f1.type q) (g2 : Opens f2.type s) : Opens t (RT.prod r (RT.prod q s)) := by
  intro H enc W fuel cs x h hw
  obtain ⟨hl, hf⟩ := trod_fields ht h hw
  obtain ⟨n0, y0, t0, w0⟩ := hf 0 f0 rfl
  obtain ⟨n1, y1, t1, w1⟩ := hf 1 f1 rfl
  obtain ⟨n2, y2, t2, w2⟩ := hf 2 f2 rfl
  obtain ⟨a, ha⟩ := g0 t0 w0
  obtain ⟨b, hb⟩ := g1 t1 w1
  obtain ⟨c, hc⟩ := g2 t2 w2
  rw [h0, k0, List.drop_zero] at ha
  rw [h1, k1] at hb
  rw [h2, k2] at hc
  rw [List.take_of_length_le (by rw [List.length_drop]; omega), ← List.drop_drop] at hc
  exact ⟨(a, b, c), cs.take r.n, cs.drop r.n, (List.take_append_drop _ _).symm, ha, (cs.drop r.n).take q.n, (cs.drop r.n).drop q.n, (List.take_append_drop _ _).symm, hb, hc⟩
def constRT : RT ConstM := (RT.prod RT.str exprRT).via fun x => (x.name, x.ex)
def ruleRT : RT RuleM := (RT.prod RT.int (RT.prod RT.str exprRT)).via fun x => (x.scope, x.name, x.ex)
def costRT : RT CostM := (RT.prod RT.int exprRT).via fun x => (x.scope, x.ex)
def offRT : RT OffM := (RT.prod RT.str (RT.prod RT.int RT.int)).via fun x => (x.name, x.cnt, x.days)
def limRT : RT LimM where
  n := 4
  rep w cs x := cs = [.string x.name, .string x.meas, .int .i64 x.most, .int .i64 x.days] ∧ x.name.size ≤ 140737488355328 ∧ x.meas.size ≤ 140737488355328
  len := by rintro w cs z ⟨rfl, _⟩; rfl
  mono := by rintro w w' cs z h _; exact h
theorem opens_const : Opens 138 constRT := Opens.via (opens_two Tryz.underlying138 rfl rfl (by kernel_rfl) (by kernel_rfl) (by kernel_rfl) (opens_str Tryz.underlying9) opens_expr) _ (fun a => ⟨a.1, a.2⟩) (fun _ => rfl)
theorem opens_rule : Opens 113 ruleRT := Opens.via (opens_three Tryz.underlying113 rfl rfl rfl (by kernel_rfl) (by kernel_rfl) (by kernel_rfl) (by kernel_rfl) (opens_int Tryz.underlying3) (opens_str Tryz.underlying9) opens_expr) _ (fun a => ⟨a.1, a.2.1, a.2.2⟩) (fun _ => rfl)
theorem opens_cost : Opens 115 costRT := Opens.via (opens_two Tryz.underlying115 rfl rfl (by kernel_rfl) (by kernel_rfl) (by kernel_rfl) (opens_int Tryz.underlying3) opens_expr) _ (fun a => ⟨a.1, a.2⟩) (fun _ => rfl)
theorem opens_off : Opens 247 offRT := Opens.via (opens_three Tryz.underlying247 rfl rfl rfl (by kernel_rfl) (by kernel_rfl) (by kernel_rfl) (by kernel_rfl) (opens_str Tryz.underlying9) (opens_int Tryz.underlying3) (opens_int Tryz.underlying3)) _ (fun a => ⟨a.1, a.2.1, a.2.2⟩) (fun _ => rfl)
theorem opens_lim : Opens 245 limRT := by
  intro H enc W fuel cs x hx hw
  obtain ⟨hl, hf⟩ := trod_fieldsF Tryz.underlying245 hx hw
  have hl4 : cs.length = 4 := hl.trans (by kernel_rfl)
  obtain ⟨o, v0, e0, hv0, w0⟩ := field1F hf 0 rfl rfl (by kernel_rfl) (Opens.f (opens_str Tryz.underlying9) fuel)
  obtain ⟨m, v1, e1, hv1, w1⟩ := field1F hf 1 rfl rfl (by kernel_rfl) (Opens.f (opens_str Tryz.underlying9) fuel)
  obtain ⟨s, v2, e2, hv2, w2⟩ := field1F hf 2 rfl rfl (by kernel_rfl) (Opens.f (opens_int Tryz.underlying3) fuel)
  obtain ⟨l, v3, e3, hv3, w3⟩ := field1F hf 3 rfl rfl (by kernel_rfl) (Opens.f (opens_int Tryz.underlying3) fuel)
  cases hv0; cases hv1; cases hv2; cases hv3
  obtain ⟨c0, r0, rfl, k0⟩ := cons_of_len hl4
  obtain ⟨c1, r1, rfl, k1⟩ := cons_of_len k0
  obtain ⟨c2, r2, rfl, k2⟩ := cons_of_len k1
  obtain ⟨c3, r3, rfl, k3⟩ := cons_of_len k2
  obtain rfl := List.length_eq_zero_iff.1 k3
  have g0 : some c0 = some _ := e0
  have g1 : some c1 = some _ := e1
  have g2 : some c2 = some _ := e2
  have g3 : some c3 = some _ := e3
  cases g0; cases g1; cases g2; cases g3
  exact ⟨⟨o, m, s, l⟩, rfl, w0, w1⟩
theorem CellsAt.left {w : World} {b off : Nat} {c d : List Value} (h : CellsAt w b off (c ++ d)) : CellsAt w b off c := fun j hj => by
  have := h j (by simp; omega)
  rwa [List.getElem_append_left hj] at this
theorem CellsAt.right {w : World} {b off : Nat} {c d : List Value} (h : CellsAt w b off (c ++ d)) : CellsAt w b (off + c.length) d := fun j hj => by
  have := h (c.length + j) (by simp; omega)
  rw [List.getElem_append_right (by omega)] at this
  rw [Nat.add_assoc]
  simpa using this
theorem exprC_of {w : World} {b off : Nat} {cs : List Value} {x : ExprM} (h : CellsAt w b off cs) (hr : exprRT.rep w cs x) : ExprC w.heap.size w b off x := by
  obtain ⟨a, cap, rfl, hf, ha⟩ := hr
  have g0 := h 0 (by simp)
  have g1 := h 1 (by simp)
  have g2 := h 2 (by simp)
  have g3 := h 3 (by simp)
  exact ⟨a, cap, ⟨by simpa using g0, by simpa using g1, by simpa using g2, by simpa using g3⟩, hf, ha⟩
theorem listAt_of {X : Type} {r : RT X} {at' : List X → Nat → X} {C : Nat → World → Nat → Nat → X → Prop} {w : World} {a : Option Addr} {l : List X} (hat : ∀ i (h : i < l.length), at' l i = l[i]) (hC : ∀ b off cs x, CellsAt w b off cs → r.rep w cs x → C w.heap.size w b off x) (hl : l.length ≤ 140737488355328) (h : SlAt r w a l) : ListAt r.n at' C w.heap.size w a l := by
  refine ⟨hl, ?_⟩
  rcases h with h | ⟨b, off, h1, h2, h3⟩
  · exact .inl h
  · refine .inr ⟨b, off, h1, h2, fun i hi => ?_⟩
    obtain ⟨cs, g1, g2⟩ := h3 i hi
    rw [hat i hi]
    exact hC _ _ _ _ g1 g2
theorem getD_at {X : Type} (l : List X) (i : Nat) (h : i < l.length) (d : X) : l.getD i d = l[i] := by
  rw [List.getD_eq_getElem?_getD, List.getElem?_eq_getElem h]; rfl
theorem constC_of (w : World) (b off : Nat) (cs : List Value) (x : ConstM) (h : CellsAt w b off cs) (hr : constRT.rep w cs x) : ConstC w.heap.size w b off x := by
  obtain ⟨c, d, rfl, ⟨rfl, hs⟩, hd⟩ := hr
  have g0 := h 0 (by simp)
  exact ⟨by simpa using g0, hs, exprC_of h.right hd⟩
theorem ruleC_of (w : World) (b off : Nat) (cs : List Value) (x : RuleM) (h : CellsAt w b off cs) (hr : ruleRT.rep w cs x) : RuleC w.heap.size w b off x := by
  obtain ⟨c, d, rfl, ⟨rfl, hs⟩, c2, d2, rfl, ⟨rfl, hs2⟩, hd⟩ := hr
  have g0 := h 0 (by simp)
  have g1 := h 1 (by simp)
  exact ⟨by simpa using g0, by simpa using g1, hs2, hs, exprC_of h.right.right hd⟩
theorem costC_of (w : World) (b off : Nat) (cs : List Value) (x : CostM) (h : CellsAt w b off cs) (hr : costRT.rep w cs x) : CostC w.heap.size w b off x := by
  obtain ⟨c, d, rfl, ⟨rfl, hs⟩, hd⟩ := hr
  have g0 := h 0 (by simp)
  exact ⟨by simpa using g0, hs, exprC_of h.right hd⟩
theorem limC_of (w : World) (b off : Nat) (cs : List Value) (x : LimM) (h : CellsAt w b off cs) (hr : limRT.rep w cs x) : LimC w.heap.size w b off x := by
  obtain ⟨rfl, hs, hs2⟩ := hr
  have g0 := h 0 (by simp)
  have g1 := h 1 (by simp)
  have g2 := h 2 (by simp)
  have g3 := h 3 (by simp)
  exact ⟨by simpa using g0, by simpa using g1, by simpa using g2, by simpa using g3, hs, hs2⟩
theorem offC_of (w : World) (b off : Nat) (cs : List Value) (x : OffM) (h : CellsAt w b off cs) (hr : offRT.rep w cs x) : OffC w.heap.size w b off x := by
  obtain ⟨c, d, rfl, ⟨rfl, hs⟩, c2, d2, rfl, ⟨rfl, _⟩, hd, _⟩ := hr
  subst hd
  have g0 := h 0 (by simp)
  have g1 := h 1 (by simp)
  have g2 := h 2 (by simp)
  exact ⟨by simpa using g0, by simpa using g1, by simpa using g2, hs⟩
theorem opens_consts : Opens 27 (RT.sl constRT) := opens_slice Tryz.underlying27 (by kernel_rfl) (by decide) (Nat.le_of_ble_eq_true (by kernel_rfl)) opens_const
theorem opens_rules : Opens 28 (RT.sl ruleRT) := opens_slice Tryz.underlying28 (by kernel_rfl) (by decide) (Nat.le_of_ble_eq_true (by kernel_rfl)) opens_rule
theorem opens_costs : Opens 29 (RT.sl costRT) := opens_slice Tryz.underlying29 (by kernel_rfl) (by decide) (Nat.le_of_ble_eq_true (by kernel_rfl)) opens_cost
theorem opens_lims : Opens 31 (RT.sl limRT) := opens_slice Tryz.underlying31 (by kernel_rfl) (by decide) (Nat.le_of_ble_eq_true (by kernel_rfl)) opens_lim
theorem opens_offs : Opens 32 (RT.sl offRT) := opens_slice Tryz.underlying32 (by kernel_rfl) (by decide) (Nat.le_of_ble_eq_true (by kernel_rfl)) opens_off
theorem open_con {H : Type} {enc : TypeId × Value → H} {W : World} {r : Reach} {b0 : Nat} {v : Value} {d : DataW H} {p : List MemPlace} (hv : Value.okWide Tryz.prog W r b0 34 v) (h : DataW.Trod enc Tryz.prog W 0 (fun _ => true) true 34 v d p) (hw : ∀ n ∈ DataW.weights Tryz.prog 34 d, n ≤ reachBytes) :
    ∃ (c : ConM) (q : ConP), v = .agg (conVals c q) ∧ (c.consts.length ≤ q.cc ∧ q.cc ≤ 140737488355328) ∧ ConAt W.heap.size W c q := by
  obtain ⟨cs, rfl, _⟩ := okWide_struct Tryz.underlying34 hv
  obtain ⟨fuel, hf0⟩ := h
  obtain ⟨hl, hf⟩ := trod_fieldsF Tryz.underlying34 hf0 hw
  have hl14 : cs.toList.length = 14 := hl.trans (by kernel_rfl)
  obtain ⟨l, hcl⟩ : ∃ l, l = cs.toList := ⟨_, rfl⟩
  replace hf := hcl ▸ hf
  rw [← hcl] at hl14
  obtain ⟨x0, v0, e0, hv0, w0⟩ := field1F hf 0 rfl rfl (by kernel_rfl) (Opens.f (opens_int Tryz.underlying3) fuel)
  obtain ⟨x1, v1, e1, hv1, w1⟩ := field1F hf 1 rfl rfl (by kernel_rfl) (Opens.f (opens_int Tryz.underlying3) fuel)
  obtain ⟨x2, v2, e2, hv2, w2⟩ := field1F hf 2 rfl rfl (by kernel_rfl) (Opens.f (opens_int Tryz.underlying3) fuel)
  obtain ⟨x3, v3, e3, hv3, w3⟩ := field1F hf 3 rfl rfl (by kernel_rfl) (Opens.f (opens_int Tryz.underlying3) fuel)
  obtain ⟨x4, v4, e4, hv4, w4⟩ := field1F hf 4 rfl rfl (by kernel_rfl) (Opens.f (opens_int Tryz.underlying3) fuel)
  obtain ⟨x5, v5, e5, hv5, w5⟩ := field1F hf 5 rfl rfl (by kernel_rfl) (Opens.f (opens_int Tryz.underlying3) fuel)
  obtain ⟨x6, v6, e6, hv6, w6⟩ := field1F hf 6 rfl rfl (by kernel_rfl) (Opens.f (opens_int Tryz.underlying3) fuel)
  obtain ⟨x7, v7, e7, a7, p7, hv7, hl7, hm7, hs7⟩ := field1F hf 7 rfl rfl (by kernel_rfl) (Opens.f opens_consts fuel)
  obtain ⟨x8, v8, e8, a8, p8, hv8, hl8, hm8, hs8⟩ := field1F hf 8 rfl rfl (by kernel_rfl) (Opens.f opens_rules fuel)
  obtain ⟨x9, v9, e9, a9, p9, hv9, hl9, hm9, hs9⟩ := field1F hf 9 rfl rfl (by kernel_rfl) (Opens.f opens_costs fuel)
  obtain ⟨x10, v10, e10, a10, p10, hv10, hl10, hm10, hs10⟩ := field1F hf 10 rfl rfl (by kernel_rfl) (Opens.f opens_exprs fuel)
  obtain ⟨x11, v11, e11, a11, p11, hv11, hl11, hm11, hs11⟩ := field1F hf 11 rfl rfl (by kernel_rfl) (Opens.f opens_lims fuel)
  obtain ⟨x12, v12, e12, a12, p12, hv12, hl12, hm12, hs12⟩ := field1F hf 12 rfl rfl (by kernel_rfl) (Opens.f opens_offs fuel)
  obtain ⟨x13, v13, e13, hv13, w13⟩ := field1F hf 13 rfl rfl (by kernel_rfl) (Opens.f (opens_int Tryz.underlying3) fuel)
  cases hv0
  cases hv1
  cases hv2
  cases hv3
  cases hv4
  cases hv5
  cases hv6
  cases hv7
  cases hv8
  cases hv9
  cases hv10
  cases hv11
  cases hv12
  cases hv13
  obtain ⟨c0, r0, rfl, k0⟩ := cons_of_len hl14
  obtain ⟨c1, r1, rfl, k1⟩ := cons_of_len k0
  obtain ⟨c2, r2, rfl, k2⟩ := cons_of_len k1
  obtain ⟨c3, r3, rfl, k3⟩ := cons_of_len k2
  obtain ⟨c4, r4, rfl, k4⟩ := cons_of_len k3
  obtain ⟨c5, r5, rfl, k5⟩ := cons_of_len k4
  obtain ⟨c6, r6, rfl, k6⟩ := cons_of_len k5
  obtain ⟨c7, r7, rfl, k7⟩ := cons_of_len k6
  obtain ⟨c8, r8, rfl, k8⟩ := cons_of_len k7
  obtain ⟨c9, r9, rfl, k9⟩ := cons_of_len k8
  obtain ⟨c10, r10, rfl, k10⟩ := cons_of_len k9
  obtain ⟨c11, r11, rfl, k11⟩ := cons_of_len k10
  obtain ⟨c12, r12, rfl, k12⟩ := cons_of_len k11
  obtain ⟨c13, r13, rfl, k13⟩ := cons_of_len k12
  obtain rfl := List.length_eq_zero_iff.1 k13
  have g0 : some c0 = some _ := e0
  have g1 : some c1 = some _ := e1
  have g2 : some c2 = some _ := e2
  have g3 : some c3 = some _ := e3
  have g4 : some c4 = some _ := e4
  have g5 : some c5 = some _ := e5
  have g6 : some c6 = some _ := e6
  have g7 : some c7 = some _ := e7
  have g8 : some c8 = some _ := e8
  have g9 : some c9 = some _ := e9
  have g10 : some c10 = some _ := e10
  have g11 : some c11 = some _ := e11
  have g12 : some c12 = some _ := e12
  have g13 : some c13 = some _ := e13
  cases g0
  cases g1
  cases g2
  cases g3
  cases g4
  cases g5
  cases g6
  cases g7
  cases g8
  cases g9
  cases g10
  cases g11
  cases g12
  cases g13
  have hcs : cs = conVals ⟨x0, x1, x2, x3, x4, x5, x6, x7, x8, x9, x10, x11, x12, x13⟩ ⟨a7, p7, a8, p8, a9, p9, a10, p10, a11, p11, a12, p12⟩ := by
    cases cs
    exact congrArg Array.mk hcl.symm
  exact ⟨⟨x0, x1, x2, x3, x4, x5, x6, x7, x8, x9, x10, x11, x12, x13⟩, ⟨a7, p7, a8, p8, a9, p9, a10, p10, a11, p11, a12, p12⟩, by rw [hcs], ⟨hl7, hm7⟩,
    ⟨listAt_of (fun i h => getD_at _ _ h _) (constC_of W) (Nat.le_trans hl7 hm7) hs7, listAt_of (fun i h => getD_at _ _ h _) (ruleC_of W) (Nat.le_trans hl8 hm8) hs8, listAt_of (fun i h => getD_at _ _ h _) (costC_of W) (Nat.le_trans hl9 hm9) hs9, argsAt_of hs10, Nat.le_trans hl10 hm10, fit_of hs10, listAt_of (fun i h => getD_at _ _ h _) (limC_of W) (Nat.le_trans hl11 hm11) hs11, listAt_of (fun i h => getD_at _ _ h _) (offC_of W) (Nat.le_trans hl12 hm12) hs12⟩⟩
end Go.Proofs.YtpgbckgjlgecpaaGreat
/- opening timetables -/
namespace Go.Proofs.YtpgbckgjlgecpaaGreat
open Go.ChangeShapes Go.WideShapes Go.ChangeAt Go.RowKit Go.Deep Go.Joins
set_option linter.unusedVariables false
set_option maxRecDepth 100000
theorem opens_shs : Opens 83 (RT.sl shRT) :=
  opens_slice Tryz.underlying83 (by kernel_rfl) (by decide) (Nat.le_of_ble_eq_true (by kernel_rfl)) (opens_two Tryz.underlying161 rfl rfl (by kernel_rfl) (by kernel_rfl) (by kernel_rfl) (opens_int Tryz.underlying3) (opens_int Tryz.underlying3))
theorem opens_zone : Opens 85 zoneRT := by
  intro H enc W fuel cs x h1 h2
  obtain ⟨⟨s, n, l⟩, c, d, rfl, ⟨rfl, hs⟩, c2, d2, rfl, ⟨rfl, hn⟩, a, cap, rfl, g1, g2, g3⟩ := opens_three Tryz.underlying85 rfl rfl rfl (by kernel_rfl) (by kernel_rfl) (by kernel_rfl) (by kernel_rfl) (opens_str Tryz.underlying9) (opens_int Tryz.underlying3) opens_shs h1 h2
  exact ⟨⟨s, n, l⟩, a, cap, rfl, hs, hn, Nat.le_trans g1 g2, g3⟩
theorem opens_air : Opens 88 airRT := by
  intro H enc W fuel cs x h1 h2
  obtain ⟨⟨s, n⟩, c, d, rfl, ⟨rfl, hs⟩, rfl, hn⟩ := opens_two Tryz.underlying88 rfl rfl (by kernel_rfl) (by kernel_rfl) (by kernel_rfl) (opens_str Tryz.underlying9) (opens_str Tryz.underlying9) h1 h2
  exact ⟨⟨s, n⟩, rfl, hs, hn⟩
theorem opens_flight : Opens 107 flightRT := by
  intro H enc W fuel cs x hx hw
  obtain ⟨hl, hf⟩ := trod_fieldsF Tryz.underlying107 hx hw
  have hl9 : cs.length = 9 := hl.trans (by kernel_rfl)
  obtain ⟨x0, v0, e0, hv0, w0⟩ := field1F hf 0 rfl rfl (by kernel_rfl) (Opens.f (opens_str Tryz.underlying9) fuel)
  obtain ⟨x1, v1, e1, hv1, w1⟩ := field1F hf 1 rfl rfl (by kernel_rfl) (Opens.f (opens_str Tryz.underlying9) fuel)
  obtain ⟨x2, v2, e2, hv2, w2⟩ := field1F hf 2 rfl rfl (by kernel_rfl) (Opens.f (opens_str Tryz.underlying9) fuel)
  obtain ⟨x3, v3, e3, hv3, w3⟩ := field1F hf 3 rfl rfl (by kernel_rfl) (Opens.f (opens_int Tryz.underlying3) fuel)
  obtain ⟨x4, v4, e4, hv4, w4⟩ := field1F hf 4 rfl rfl (by kernel_rfl) (Opens.f (opens_int Tryz.underlying3) fuel)
  obtain ⟨x5, v5, e5, hv5, w5⟩ := field1F hf 5 rfl rfl (by kernel_rfl) (Opens.f (opens_str Tryz.underlying9) fuel)
  obtain ⟨n6, y6, _, t6', _⟩ := hf 6 _ rfl
  have t6 : DataW.trod enc Tryz.prog W 0 (fun _ => true) true n6 105 ((cs.drop 6).take (Tryz.prog.cellsOf 105)) = some y6 := t6'
  clear t6'
  rw [show Tryz.prog.cellsOf 105 = 3 by kernel_rfl] at t6
  obtain ⟨xs, m, _, ex, hlen, hlx, hel⟩ := DataW.trod_array Tryz.underlying105 t6
  cases hv0
  cases hv1
  cases hv2
  cases hv3
  cases hv4
  cases hv5
  obtain ⟨c0, r0, rfl, k0⟩ := cons_of_len hl9
  obtain ⟨c1, r1, rfl, k1⟩ := cons_of_len k0
  obtain ⟨c2, r2, rfl, k2⟩ := cons_of_len k1
  obtain ⟨c3, r3, rfl, k3⟩ := cons_of_len k2
  obtain ⟨c4, r4, rfl, k4⟩ := cons_of_len k3
  obtain ⟨c5, r5, rfl, k5⟩ := cons_of_len k4
  obtain ⟨c6, r6, rfl, k6⟩ := cons_of_len k5
  obtain ⟨c7, r7, rfl, k7⟩ := cons_of_len k6
  obtain ⟨c8, r8, rfl, k8⟩ := cons_of_len k7
  obtain rfl := List.length_eq_zero_iff.1 k8
  have g0 : some c0 = some _ := e0
  have g1 : some c1 = some _ := e1
  have g2 : some c2 = some _ := e2
  have g3 : some c3 = some _ := e3
  have g4 : some c4 = some _ := e4
  have g5 : some c5 = some _ := e5
  cases g0
  cases g1
  cases g2
  cases g3
  cases g4
  cases g5
  have hx3 : ∀ i, i < 3 → ∃ n, ((([c6, c7, c8] : List Value).drop (i * 1)).take 1) = [.int .i64 n] := fun i hi => by
    have h := hel i hi
    rw [show Tryz.prog.cellsOf 3 = 1 by kernel_rfl, List.getElem?_eq_getElem (by omega)] at h
    obtain ⟨n, e, _⟩ := DataW.trod_int Tryz.underlying3 h
    exact ⟨n, e⟩
  obtain ⟨n0, z0⟩ := hx3 0 (by omega)
  obtain ⟨n1, z1⟩ := hx3 1 (by omega)
  obtain ⟨n2, z2⟩ := hx3 2 (by omega)
  have q0 : [c6] = [Value.int .i64 n0] := z0
  have q1 : [c7] = [Value.int .i64 n1] := z1
  have q2 : [c8] = [Value.int .i64 n2] := z2
  cases q0; cases q1; cases q2
  exact ⟨⟨x0, x1, x2, x3, x4, x5, n0, n1, n2⟩, rfl, ⟨w0, w1, w2, w5⟩, w3, w4⟩
theorem opens_tt1 : Opens 22 (RT.sl zoneRT) := opens_slice Tryz.underlying22 (by kernel_rfl) (by decide) (Nat.le_of_ble_eq_true (by kernel_rfl)) opens_zone
theorem opens_tt2 : Opens 23 (RT.sl airRT) := opens_slice Tryz.underlying23 (by kernel_rfl) (by decide) (Nat.le_of_ble_eq_true (by kernel_rfl)) opens_air
theorem opens_tt3 : Opens 24 (RT.sl flightRT) := opens_slice Tryz.underlying24 (by kernel_rfl) (by decide) (Nat.le_of_ble_eq_true (by kernel_rfl)) opens_flight
theorem open_tt {H : Type} {enc : TypeId × Value → H} {W : World} {r : Reach} {b0 : Nat} {v : Value} {d : DataW H} {p : List MemPlace} (hv : Value.okWide Tryz.prog W r b0 26 v) (h : DataW.Trod enc Tryz.prog W 0 (fun _ => true) true 26 v d p) (hw : ∀ n ∈ DataW.weights Tryz.prog 26 d, n ≤ reachBytes) :
    ∃ (t : TTM) (za : Option Addr) (zc : Nat) (aa : Option Addr) (ac : Nat) (fa : Option Addr) (fc : Nat), v = .agg #[.slice za t.zones.length zc, .slice aa t.airs.length ac, .slice fa t.fls.length fc] ∧ ((t.zones.length ≤ zc ∧ zc ≤ 140737488355328 ∧ t.airs.length ≤ ac ∧ ac ≤ 140737488355328) ∧ t.fls.length ≤ fc ∧ fc ≤ 140737488355328) ∧ SlAt zoneRT W za t.zones ∧ SlAt airRT W aa t.airs ∧ SlAt flightRT W fa t.fls := by
  obtain ⟨cs, rfl, _⟩ := okWide_struct Tryz.underlying26 hv
  obtain ⟨fu, hf⟩ := h
  obtain ⟨⟨l1, l2, l3⟩, c, q, e, ⟨a1, p1, rfl, h11, h12, h13⟩, c', q', rfl, ⟨a2, p2, rfl, h21, h22, h23⟩, a3, p3, rfl, h31, h32, h33⟩ := opens_three Tryz.underlying26 rfl rfl rfl (by kernel_rfl) (by kernel_rfl) (by kernel_rfl) (by kernel_rfl) opens_tt1 opens_tt2 opens_tt3 hf hw
  have e' : cs.toList = [.slice a1 l1.length p1, .slice a2 l2.length p2, .slice a3 l3.length p3] := e
  have e2 : cs = #[.slice a1 l1.length p1, .slice a2 l2.length p2, .slice a3 l3.length p3] := by cases cs; simpa using e'
  subst e2
  exact ⟨⟨l1, l2, l3⟩, a1, p1, a2, p2, a3, p3, rfl, ⟨⟨h11, h12, h21, h22⟩, h31, h32⟩, h13, h23, h33⟩
end Go.Proofs.YtpgbckgjlgecpaaGreat
