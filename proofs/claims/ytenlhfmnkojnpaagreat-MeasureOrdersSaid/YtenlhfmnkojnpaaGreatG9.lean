/- merged texts: Or0 Or1 Or2 Op0 Op2 -/
import Derived.Deep.DeepCutAuto
import Derived.Test.YtenlhfmnkojnpaaGreatRows
import Derived.ProofKit
import Derived.OpenShut
import Derived.ShutString
import Derived.ChangeOld
import Derived.Below
import Derived.Deep.Slices
import Derived.Deep.Fields
import Derived.ChangeSame
import Derived.Lib.SmallJoins
import Derived.SizedLaws
import Derived.Test.YtenlhfmnkojnpaaGreatG3
import Derived.Test.YtenlhfmnkojnpaaGreatG5
import Derived.Test.YtenlhfmnkojnpaaGreatG8
import Derived.Test.YtenlhfmnkojnpaaGreatG1
/- plain facts on the orders of tasks, duties and pairings -/
namespace Go.Proofs.YtenlhfmnkojnpaaGreat
open Go.RowKit Go.Sort
set_option linter.unusedVariables false
set_option linter.unusedSimpArgs false
/-- a three-way comparison that is an order -/
structure Ord3 {A : Type} (c : A → A → Int) : Prop where
  refl : ∀ x, c x x = 0
  anti : ∀ x y, c y x = - c x y
  eq : ∀ x y, c x y = 0 → x = y
  trans : ∀ x y z, c x y ≤ 0 → c y z ≤ 0 → c x z ≤ 0
theorem ord_int : Ord3 cmpInt where
  refl x := by simp [cmpInt]
  anti x y := by unfold cmpInt; repeat (first | omega | split)
  eq x y h := by unfold cmpInt at h; repeat (first | omega | split at h)
  trans x y z h1 h2 := by unfold cmpInt at *; repeat (first | omega | split at h1 | split at h2 | split)
theorem ord_task : Ord3 taskCmp where
  refl x := by simp [taskCmp, ord_int.refl]
  anti x y := by
    obtain ⟨x1, x2⟩ := x; obtain ⟨y1, y2⟩ := y
    have h := ord_int.anti x1 y1
    by_cases e : cmpInt x1 y1 = 0
    · have e' : cmpInt y1 x1 = 0 := by omega
      cases x2 <;> cases y2 <;> simp [taskCmp, e, e']
    · have e' : cmpInt y1 x1 ≠ 0 := by omega
      show (if cmpInt y1 x1 ≠ 0 then _ else _) = -(if cmpInt x1 y1 ≠ 0 then _ else _)
      rw [if_pos e', if_pos e]; exact h
  eq x y h := by
    unfold taskCmp at h
    by_cases e : cmpInt x.1 y.1 = 0
    · rw [if_neg (by simpa using e)] at h
      have h1 := ord_int.eq _ _ e
      obtain ⟨x1, x2⟩ := x; obtain ⟨y1, y2⟩ := y
      simp only at h1
      subst h1
      cases x2 <;> cases y2 <;> simp at h ⊢
    · rw [if_pos (by simpa using e)] at h; exact absurd h e
  trans x y z h1 h2 := by
    obtain ⟨x1, x2⟩ := x; obtain ⟨y1, y2⟩ := y; obtain ⟨z1, z2⟩ := z
    unfold taskCmp cmpInt at *
    cases x2 <;> cases y2 <;> cases z2 <;> simp only [reduceCtorEq, if_false, if_true] at * <;> (repeat (first | omega | split at h1 | split at h2 | split))
theorem ord_list {A : Type} {c : A → A → Int} (h : Ord3 c) : Ord3 (listCmp c) where
  refl l := by
    induction l with
    | nil => rfl
    | cons x l ih => rw [listCmp, if_neg (by simp [h.refl])]; exact ih
  anti l := by
    induction l with
    | nil => intro m; cases m <;> rfl
    | cons x l ih =>
      intro m
      cases m with
      | nil => rfl
      | cons y m =>
        rw [listCmp, listCmp]
        have ha := h.anti x y
        by_cases e : c x y = 0
        · rw [if_neg (by rw [ha, e]; simp), if_neg (by simpa using e)]; exact ih m
        · rw [if_pos (by omega), if_pos e]; exact ha
  eq l := by
    induction l with
    | nil => intro m hm; cases m with
      | nil => rfl
      | cons y m => rw [listCmp] at hm; omega
    | cons x l ih =>
      intro m hm
      cases m with
      | nil => rw [listCmp] at hm; omega
      | cons y m =>
        rw [listCmp] at hm
        by_cases e : c x y = 0
        · rw [if_neg (by simpa using e)] at hm
          rw [h.eq _ _ e, ih m hm]
        · rw [if_pos e] at hm; exact absurd hm e
  trans l := by
    induction l with
    | nil => intro m n _ h2; cases n with
      | nil => rw [listCmp]; omega
      | cons z n => rw [listCmp]; omega
    | cons x l ih =>
      intro m n h1 h2
      cases m with
      | nil => rw [listCmp] at h1; omega
      | cons y m =>
        cases n with
        | nil => rw [listCmp] at h2; omega
        | cons z n =>
          rw [listCmp] at h1 h2 ⊢
          by_cases e1 : c x y = 0
          · obtain rfl := h.eq _ _ e1
            rw [if_neg (by simpa using e1)] at h1
            by_cases e2 : c x z = 0
            · rw [if_neg (by simpa using e2)] at h2 ⊢
              exact ih m n h1 h2
            · rw [if_pos e2] at h2 ⊢
              exact h2
          · rw [if_pos e1] at h1
            by_cases e2 : c y z = 0
            · obtain rfl := h.eq _ _ e2
              rw [if_pos e1]; exact h1
            · rw [if_pos e2] at h2
              have h3 := h.trans x y z h1 h2
              have h4 : c x z ≠ 0 := fun e => by
                obtain rfl := h.eq _ _ e
                have := h.anti x y
                omega
              rw [if_pos h4]; exact h3
theorem bytesLess_irr : ∀ l : List UInt8, Op.bytesLess l l = false
  | [] => rfl
  | c :: l => by simp [Op.bytesLess, bytesLess_irr l]
/-- strings, byte by byte -/
def byteCmp (a b : UInt8) : Int := cmpInt a.toNat b.toNat
theorem ord_byte : Ord3 byteCmp where
  refl x := ord_int.refl _
  anti x y := ord_int.anti _ _
  eq x y h := by
    have := ord_int.eq _ _ h
    exact UInt8.toNat_inj.1 (by omega)
  trans x y z h1 h2 := ord_int.trans _ _ _ h1 h2
theorem bytes_cmp : ∀ a b : List UInt8, (if Op.bytesLess a b = true then (-1 : Int) else if (a == b) = true then 0 else 1) = listCmp byteCmp a b
  | [], [] => rfl
  | [], y :: m => rfl
  | x :: l, [] => rfl
  | x :: l, y :: m => by
    have ih := bytes_cmp l m
    rw [listCmp, byteCmp, ← ih]
    simp only [Op.bytesLess, cmpInt]
    by_cases h1 : x < y
    · have h1' : (x.toNat : Int) < y.toNat := by have := UInt8.lt_iff_toNat_lt.1 h1; omega
      simp [h1, h1']
    · by_cases h2 : y < x
      · have h2' : (y.toNat : Int) < x.toNat := by have := UInt8.lt_iff_toNat_lt.1 h2; omega
        have h1' : ¬ (x.toNat : Int) < y.toNat := by omega
        have hne : ¬ x = y := by rintro rfl; omega
        have hne' : ¬ y = x := fun e => hne e.symm
        simp [h1, h2, h1', h2', hne]
      · have e : x = y := by
          apply UInt8.toNat_inj.1
          exact Nat.le_antisymm (Nat.not_lt.1 (fun h => h2 (UInt8.lt_iff_toNat_lt.2 h))) (Nat.not_lt.1 (fun h => h1 (UInt8.lt_iff_toNat_lt.2 h)))
        subst e
        simp
theorem strCmp_bytes (p q : ByteArray) : strCmp p q = listCmp byteCmp p.toList q.toList := bytes_cmp _ _
theorem ord_str : Ord3 strCmp where
  refl x := by rw [strCmp_bytes]; exact (ord_list ord_byte).refl _
  anti x y := by rw [strCmp_bytes, strCmp_bytes]; exact (ord_list ord_byte).anti _ _
  eq x y h := by
    have h1 := (strCmp_zero x y).1.1 h
    rw [ba_toList_eq] at h1
    simpa using h1
  trans x y z h1 h2 := by rw [strCmp_bytes] at *; exact (ord_list ord_byte).trans _ _ _ h1 h2
theorem ord_pair : Ord3 pairCmp where
  refl x := by unfold pairCmp; rw [if_neg (by simp [ord_str.refl])]; exact (ord_list (ord_list ord_task)).refl _
  anti x y := by
    have ha := ord_str.anti x.1 y.1
    unfold pairCmp
    by_cases e : strCmp x.1 y.1 = 0
    · rw [if_neg (by rw [ha, e]; simp), if_neg (by simpa using e)]; exact (ord_list (ord_list ord_task)).anti _ _
    · rw [if_pos (by omega), if_pos e]; exact ha
  eq x y h := by
    unfold pairCmp at h
    by_cases e : strCmp x.1 y.1 = 0
    · rw [if_neg (by simpa using e)] at h
      exact Prod.ext (ord_str.eq _ _ e) ((ord_list (ord_list ord_task)).eq _ _ h)
    · rw [if_pos e] at h; exact absurd h e
  trans x y z h1 h2 := by
    obtain ⟨x1, x2⟩ := x; obtain ⟨y1, y2⟩ := y; obtain ⟨z1, z2⟩ := z
    unfold pairCmp at *
    simp only at *
    by_cases e1 : strCmp x1 y1 = 0
    · obtain rfl := ord_str.eq _ _ e1
      rw [if_neg (by simpa using e1)] at h1
      by_cases e2 : strCmp x1 z1 = 0
      · rw [if_neg (by simpa using e2)] at h2 ⊢
        exact (ord_list (ord_list ord_task)).trans _ _ _ h1 h2
      · rw [if_pos e2] at h2 ⊢
        exact h2
    · rw [if_pos e1] at h1
      by_cases e2 : strCmp y1 z1 = 0
      · obtain rfl := ord_str.eq _ _ e2
        rw [if_pos e1]; exact h1
      · rw [if_pos e2] at h2
        have h3 := ord_str.trans x1 y1 z1 h1 h2
        have h4 : strCmp x1 z1 ≠ 0 := fun e => by
          obtain rfl := ord_str.eq _ _ e
          have := ord_str.anti x1 y1
          omega
        rw [if_pos h4]; exact h3
end Go.Proofs.YtenlhfmnkojnpaaGreat
/- the law MeasureOrders -/
namespace Go.Proofs.YtenlhfmnkojnpaaGreat
open Go.RowKit Go.Sort
set_option linter.unusedVariables false
set_option linter.unusedSimpArgs false
set_option maxRecDepth 100000
theorem rng_list {A : Type} {c : A → A → Int} (h : ∀ x y, -1 ≤ c x y ∧ c x y ≤ 1) : ∀ l m, -1 ≤ listCmp c l m ∧ listCmp c l m ≤ 1
  | [], [] => by rw [listCmp]; omega
  | [], y :: m => by rw [listCmp]; omega
  | x :: l, [] => by rw [listCmp]; omega
  | x :: l, y :: m => by
    rw [listCmp]
    split
    · exact h x y
    · exact rng_list h l m
theorem rng_int (x y : Int) : -1 ≤ cmpInt x y ∧ cmpInt x y ≤ 1 := by unfold cmpInt; repeat (first | omega | split)
theorem rng_task (x y : Int × Bool) : -1 ≤ taskCmp x y ∧ taskCmp x y ≤ 1 := by
  unfold taskCmp
  split
  · exact rng_int _ _
  · repeat (first | omega | split)
theorem rng_pair (x y : ByteArray × List Duty) : -1 ≤ pairCmp x y ∧ pairCmp x y ≤ 1 := by
  unfold pairCmp
  split
  · rw [strCmp_bytes]; exact rng_list (fun a b => rng_int _ _) _ _
  · exact rng_list (rng_list rng_task) _ _
def SomeBool (w : World) (e : Ending) (w' : World) : Prop := ∃ b : Bool, e = .returned (.bool b) ∧ Below w.heap.size w w'
set_option maxHeartbeats 800000 in
theorem light_any (s : ByteArray) (l : List Duty) (a : Option Addr) (cap : Nat) (w : World) (hl : l.length ≤ 140737488355328) (ha : SlAt dutyRT w a l) : Calls Tryz.prog 28 #[.agg #[.string s, .slice a l.length cap]] w (SomeBool w) := by
  have HA := Lib.hid ha
  clear ha
  go_enter Tryz.func28, Tryz.ntmps28
  go_wp2_with fail
  have HB := Lib.hid (below_new w (Obj.cells #[.string s, .slice a l.length cap] 58))
  have q0 := heap_new w (Obj.cells #[.string s, .slice a l.length cap] 58)
  have x1 : (w.alloc (Obj.cells #[.string s, .slice a l.length cap] 58)).cell? ⟨w.heap.size, 1, none⟩ = some (.slice a l.length cap) := cellW (j := 1) q0 rfl
  have xl := lt_of_block q0
  clear q0
  generalize w.alloc (Obj.cells #[.string s, .slice a l.length cap] 58) = W at *
  go_loop [3, 4] (fun n i => ∃ k m : Nat, k ≤ l.length ∧ i = .int .i64 k ∧ n = .int .i64 m ∧ m ≤ 281474976710656) (fun _ i => l.length - (intOf i).toNat)
  case atStart => exact ⟨0, 0, Nat.zero_le _, rfl, rfl, by omega⟩
  case round =>
    obtain ⟨k, m, hk, rfl, rfl, hm⟩ := hrel
    by_cases hlt : k < l.length
    · by_cases hm2 : m < 1000
      · obtain ⟨b, off, rfl, hb, hcs⟩ := duty_cells (HA.out.below HB.out) (by omega)
        obtain ⟨da, dc, c0, hd1, _⟩ := hcs k hlt
        clear hcs
        have g1 : decide ((m : Int) < 1000) = true := by simp; omega
        go_wp2_with fail
        go_round
        case rel => exact ⟨k + 1, m + 1 + (dAt l k).length, by omega, by go_num, by go_num, by omega⟩
        case measure => simp [intOf]; omega
      · have g1 : decide ((m : Int) < 1000) = false := by simp; omega
        go_wp2_with fail
        go_ret
        exact ⟨_, rfl, HB.out⟩
    · go_wp2_with fail
      go_ret
      exact ⟨_, rfl, HB.out⟩
end Go.Proofs.YtenlhfmnkojnpaaGreat
/- the law MeasureOrders: the walk -/
namespace Go.Proofs.YtenlhfmnkojnpaaGreat
open Go.RowKit Go.Sort
set_option linter.unusedVariables false
set_option linter.unusedSimpArgs false
set_option maxRecDepth 100000
set_option maxHeartbeats 6400000 in
theorem orders_walk (s0 : ByteArray) (l0 : List Duty) (s1 : ByteArray) (l1 : List Duty) (s2 : ByteArray) (l2 : List Duty) (a0 : Option Addr) (c0 : Nat) (a1 : Option Addr) (c1 : Nat) (a2 : Option Addr) (c2 : Nat) (w : World) (hs0 : s0.size ≤ 140737488355328) (hl0 : l0.length ≤ 140737488355328) (ha0 : SlAt dutyRT w a0 l0) (hs1 : s1.size ≤ 140737488355328) (hl1 : l1.length ≤ 140737488355328) (ha1 : SlAt dutyRT w a1 l1) (hs2 : s2.size ≤ 140737488355328) (hl2 : l2.length ≤ 140737488355328) (ha2 : SlAt dutyRT w a2 l2) : Calls Tryz.prog 6 #[.agg #[.string s0, .slice a0 l0.length c0], .agg #[.string s1, .slice a1 l1.length c1], .agg #[.string s2, .slice a2 l2.length c2]] w fun e w' => e = .returned (.bool true) ∧ Below w.heap.size w w' := by
  have HA := Lib.hid (fun W (h : Below w.heap.size w W) => And.intro (ha0.below h) (And.intro (ha1.below h) (ha2.below h)))
  clear ha0 ha1 ha2
  have r0 := rng_pair (s0, l0) (s1, l1)
  have r1 := rng_pair (s1, l1) (s2, l2)
  have r2 := rng_pair (s0, l0) (s2, l2)
  have HT := Lib.hid (ord_pair.trans (s0, l0) (s1, l1) (s2, l2))
  have HY := Lib.hid (ord_pair.anti (s0, l0) (s1, l1))
  have HR := Lib.hid (ord_pair.refl (s0, l0))
  go_enter Tryz.func6, Tryz.ntmps6
  go_wp2_with fail
  have HB0 := Lib.hid (Below.then (below_new w (Obj.cells #[.string s0, .slice a0 l0.length c0] 58)) (Below.then (below_new _ (Obj.cells #[.string s1, .slice a1 l1.length c1] 58)) (below_new _ (Obj.cells #[.string s2, .slice a2 l2.length c2] 58))))
  have q0 := one_alloc (o' := (Obj.cells #[.string s2, .slice a2 l2.length c2] 58)) (one_alloc (o' := (Obj.cells #[.string s1, .slice a1 l1.length c1] 58)) (heap_new w (Obj.cells #[.string s0, .slice a0 l0.length c0] 58)))
  have q1 := one_alloc (o' := (Obj.cells #[.string s2, .slice a2 l2.length c2] 58)) (heap_new (w.alloc (Obj.cells #[.string s0, .slice a0 l0.length c0] 58)) (Obj.cells #[.string s1, .slice a1 l1.length c1] 58))
  have q2 := heap_new ((w.alloc (Obj.cells #[.string s0, .slice a0 l0.length c0] 58)).alloc (Obj.cells #[.string s1, .slice a1 l1.length c1] 58)) (Obj.cells #[.string s2, .slice a2 l2.length c2] 58)
  rw [alloc_size] at q1
  rw [alloc_size, alloc_size] at q2
  obtain ⟨b0, hb0⟩ : ∃ b0, b0 = w.heap.size := ⟨_, rfl⟩
  obtain ⟨b1, hb1⟩ : ∃ b1, b1 = w.heap.size + 1 := ⟨_, rfl⟩
  obtain ⟨b2, hb2⟩ : ∃ b2, b2 = w.heap.size + 1 + 1 := ⟨_, rfl⟩
  rw [← hb0] at q0
  rw [← hb1] at q1
  rw [← hb2] at q2
  simp only [← hb2]
  simp only [← hb1]
  simp only [← hb0]
  clear hb0 hb1 hb2
  generalize ((w.alloc (Obj.cells #[.string s0, .slice a0 l0.length c0] 58)).alloc (Obj.cells #[.string s1, .slice a1 l1.length c1] 58)).alloc (Obj.cells #[.string s2, .slice a2 l2.length c2] 58) = W at *
  have Q0 := Lib.hid q0
  have Q1 := Lib.hid q1
  have Q2 := Lib.hid q2
  clear q0 q1 q2
  have BX := Lib.hid (fun W' (h : Below W.heap.size W W') => And.intro (blk_after h Q0.out) (And.intro (blk_after h Q1.out) (blk_after h Q2.out)))
  have HK0 := Lib.hid (Below.refl W.heap.size W)
  refine (light_any s0 l0 a0 c0 W hl0 (HA.out _ HB0.out).1).mono ?_
  rintro e w1 ⟨bl, rfl, hbl⟩
  have HB1 := Lib.hid (Below.then HB0.out hbl)
  have HK1 := Lib.hid (Below.then HK0.out hbl)
  clear hbl
  cases bl
  · have HBX := HB1
    go_wp2_with fail
    refine (awake_any _).mono ?_
    rintro e wz ⟨rfl, hbz⟩
    have HBz := Lib.hid (Below.then HBX.out hbz)
    clear hbz
    go_wp2_with fail
    go_ret
    exact ⟨rfl, HBz.out⟩
  · have x100 : w1.cell? ⟨b0, 0, none⟩ = some (.string s0) := cellW (j := 0) (BX.out _ HK1.out).1 rfl
    have x101 : w1.cell? ⟨b0, 1, none⟩ = some (.slice a0 l0.length c0) := cellW (j := 1) (BX.out _ HK1.out).1 rfl
    have xl10 := lt_of_block (BX.out _ HK1.out).1
    have x110 : w1.cell? ⟨b1, 0, none⟩ = some (.string s1) := cellW (j := 0) (BX.out _ HK1.out).2.1 rfl
    have x111 : w1.cell? ⟨b1, 1, none⟩ = some (.slice a1 l1.length c1) := cellW (j := 1) (BX.out _ HK1.out).2.1 rfl
    have xl11 := lt_of_block (BX.out _ HK1.out).2.1
    have x120 : w1.cell? ⟨b2, 0, none⟩ = some (.string s2) := cellW (j := 0) (BX.out _ HK1.out).2.2 rfl
    have x121 : w1.cell? ⟨b2, 1, none⟩ = some (.slice a2 l2.length c2) := cellW (j := 1) (BX.out _ HK1.out).2.2 rfl
    have xl12 := lt_of_block (BX.out _ HK1.out).2.2
    go_wp2_with fail
    refine (light_any s1 l1 a1 c1 w1 hl1 (HA.out _ HB1.out).2.1).mono ?_
    rintro e w2 ⟨bl, rfl, hbl⟩
    have HB2 := Lib.hid (Below.then HB1.out hbl)
    have HK2 := Lib.hid (Below.then HK1.out hbl)
    clear hbl
    clear x100 x101 xl10 x110 x111 xl11 x120 x121 xl12
    cases bl
    · have HBX := HB2
      go_wp2_with fail
      refine (awake_any _).mono ?_
      rintro e wz ⟨rfl, hbz⟩
      have HBz := Lib.hid (Below.then HBX.out hbz)
      clear hbz
      go_wp2_with fail
      go_ret
      exact ⟨rfl, HBz.out⟩
    · have x200 : w2.cell? ⟨b0, 0, none⟩ = some (.string s0) := cellW (j := 0) (BX.out _ HK2.out).1 rfl
      have x201 : w2.cell? ⟨b0, 1, none⟩ = some (.slice a0 l0.length c0) := cellW (j := 1) (BX.out _ HK2.out).1 rfl
      have xl20 := lt_of_block (BX.out _ HK2.out).1
      have x210 : w2.cell? ⟨b1, 0, none⟩ = some (.string s1) := cellW (j := 0) (BX.out _ HK2.out).2.1 rfl
      have x211 : w2.cell? ⟨b1, 1, none⟩ = some (.slice a1 l1.length c1) := cellW (j := 1) (BX.out _ HK2.out).2.1 rfl
      have xl21 := lt_of_block (BX.out _ HK2.out).2.1
      have x220 : w2.cell? ⟨b2, 0, none⟩ = some (.string s2) := cellW (j := 0) (BX.out _ HK2.out).2.2 rfl
      have x221 : w2.cell? ⟨b2, 1, none⟩ = some (.slice a2 l2.length c2) := cellW (j := 1) (BX.out _ HK2.out).2.2 rfl
      have xl22 := lt_of_block (BX.out _ HK2.out).2.2
      go_wp2_with fail
      refine (light_any s2 l2 a2 c2 w2 hl2 (HA.out _ HB2.out).2.2).mono ?_
      rintro e w3 ⟨bl, rfl, hbl⟩
      have HB3 := Lib.hid (Below.then HB2.out hbl)
      have HK3 := Lib.hid (Below.then HK2.out hbl)
      clear hbl
      clear x200 x201 xl20 x210 x211 xl21 x220 x221 xl22
      cases bl
      · have HBX := HB3
        go_wp2_with fail
        refine (awake_any _).mono ?_
        rintro e wz ⟨rfl, hbz⟩
        have HBz := Lib.hid (Below.then HBX.out hbz)
        clear hbz
        go_wp2_with fail
        go_ret
        exact ⟨rfl, HBz.out⟩
      · have x300 : w3.cell? ⟨b0, 0, none⟩ = some (.string s0) := cellW (j := 0) (BX.out _ HK3.out).1 rfl
        have x301 : w3.cell? ⟨b0, 1, none⟩ = some (.slice a0 l0.length c0) := cellW (j := 1) (BX.out _ HK3.out).1 rfl
        have xl30 := lt_of_block (BX.out _ HK3.out).1
        have x310 : w3.cell? ⟨b1, 0, none⟩ = some (.string s1) := cellW (j := 0) (BX.out _ HK3.out).2.1 rfl
        have x311 : w3.cell? ⟨b1, 1, none⟩ = some (.slice a1 l1.length c1) := cellW (j := 1) (BX.out _ HK3.out).2.1 rfl
        have xl31 := lt_of_block (BX.out _ HK3.out).2.1
        have x320 : w3.cell? ⟨b2, 0, none⟩ = some (.string s2) := cellW (j := 0) (BX.out _ HK3.out).2.2 rfl
        have x321 : w3.cell? ⟨b2, 1, none⟩ = some (.slice a2 l2.length c2) := cellW (j := 1) (BX.out _ HK3.out).2.2 rfl
        have xl32 := lt_of_block (BX.out _ HK3.out).2.2
        go_wp2_with fail
        have C01 := Lib.hid (fun dd os => Calls.regrown_of (ComparePairings_any s0 s1 l0 l1 a0 a1 c0 c1 (grow (redrawn w3 dd) os) hl0 hl1 (HA.out _ (Below.then HB3.out (below_regrown w3 dd os))).1 (HA.out _ (Below.then HB3.out (below_regrown w3 dd os))).2.1))
        have C12 := Lib.hid (fun dd os => Calls.regrown_of (ComparePairings_any s1 s2 l1 l2 a1 a2 c1 c2 (grow (redrawn w3 dd) os) hl1 hl2 (HA.out _ (Below.then HB3.out (below_regrown w3 dd os))).2.1 (HA.out _ (Below.then HB3.out (below_regrown w3 dd os))).2.2))
        have C02 := Lib.hid (fun dd os => Calls.regrown_of (ComparePairings_any s0 s2 l0 l2 a0 a2 c0 c2 (grow (redrawn w3 dd) os) hl0 hl2 (HA.out _ (Below.then HB3.out (below_regrown w3 dd os))).1 (HA.out _ (Below.then HB3.out (below_regrown w3 dd os))).2.2))
        have y00 := fun dd os => cell_regrown x300 dd os
        have y01 := fun dd os => cell_regrown x301 dd os
        have y10 := fun dd os => cell_regrown x310 dd os
        have y11 := fun dd os => cell_regrown x311 dd os
        have y20 := fun dd os => cell_regrown x320 dd os
        have y21 := fun dd os => cell_regrown x321 dd os
        refine wp_region_quiet_below (by kernel_rfl) (by kernel_rfl) ?_
        repeat (first | go_big_quiet_step (first | (with_reducible exact C01.out _ _) | (with_reducible exact C12.out _ _) | (with_reducible exact C02.out _ _)) | quiet_step (first | (with_reducible exact C01.out _ _) | (with_reducible exact C12.out _ _) | (with_reducible exact C02.out _ _)))
        refine wpQuiet_nil ?_
        intro _ hw'
        obtain ⟨⟨dq, osq⟩, hw''⟩ := hw'
        subst hw''
        have HB4 := Lib.hid (Below.then HB3.out (below_regrown w3 dq osq))
        have HK4 := Lib.hid (Below.then HK3.out (below_regrown w3 dq osq))
        clear C01 C12 C02 y00 y01 y10 y11 y20 y21
        clear x300 x301 xl30 x310 x311 xl31 x320 x321 xl32
        generalize grow (redrawn w3 dq) osq = w4 at *
        obtain ⟨x, hx⟩ : ∃ x, x = pairCmp (s0, l0) (s1, l1) := ⟨_, rfl⟩
        obtain ⟨y, hy⟩ : ∃ y, y = pairCmp (s1, l1) (s2, l2) := ⟨_, rfl⟩
        obtain ⟨z, hz⟩ : ∃ z, z = pairCmp (s0, l0) (s2, l2) := ⟨_, rfl⟩
        rw [← hx] at r0 HY HT
        rw [← hy] at r1 HT
        rw [← hz] at r2 HT
        rw [← hx, ← hy, ← hz]
        have HX := Lib.hid hx
        clear hx hy hz
        obtain ⟨rx0, rx1⟩ := r0
        obtain ⟨ry0, ry1⟩ := r1
        obtain ⟨rz0, rz1⟩ := r2
        have x400 : w4.cell? ⟨b0, 0, none⟩ = some (.string s0) := cellW (j := 0) (BX.out _ HK4.out).1 rfl
        have x401 : w4.cell? ⟨b0, 1, none⟩ = some (.slice a0 l0.length c0) := cellW (j := 1) (BX.out _ HK4.out).1 rfl
        have xl40 := lt_of_block (BX.out _ HK4.out).1
        have x410 : w4.cell? ⟨b1, 0, none⟩ = some (.string s1) := cellW (j := 0) (BX.out _ HK4.out).2.1 rfl
        have x411 : w4.cell? ⟨b1, 1, none⟩ = some (.slice a1 l1.length c1) := cellW (j := 1) (BX.out _ HK4.out).2.1 rfl
        have xl41 := lt_of_block (BX.out _ HK4.out).2.1
        have x420 : w4.cell? ⟨b2, 0, none⟩ = some (.string s2) := cellW (j := 0) (BX.out _ HK4.out).2.2 rfl
        have x421 : w4.cell? ⟨b2, 1, none⟩ = some (.slice a2 l2.length c2) := cellW (j := 1) (BX.out _ HK4.out).2.2 rfl
        have xl42 := lt_of_block (BX.out _ HK4.out).2.2
        go_wp2_with fail
        refine (ComparePairingsR_any s0 s1 l0 l1 a0 a1 c0 c1 w4 hl0 hl1 (HA.out _ HB4.out).1 (HA.out _ HB4.out).2.1).mono ?_
        rintro e w5 ⟨rfl, hbl⟩
        have HB5 := Lib.hid (Below.then HB4.out hbl)
        have HK5 := Lib.hid (Below.then HK4.out hbl)
        clear hbl
        rw [← HX.out]
        clear x400 x401 xl40 x410 x411 xl41 x420 x421 xl42
        have x500 : w5.cell? ⟨b0, 0, none⟩ = some (.string s0) := cellW (j := 0) (BX.out _ HK5.out).1 rfl
        have x501 : w5.cell? ⟨b0, 1, none⟩ = some (.slice a0 l0.length c0) := cellW (j := 1) (BX.out _ HK5.out).1 rfl
        have xl50 := lt_of_block (BX.out _ HK5.out).1
        have x510 : w5.cell? ⟨b1, 0, none⟩ = some (.string s1) := cellW (j := 0) (BX.out _ HK5.out).2.1 rfl
        have x511 : w5.cell? ⟨b1, 1, none⟩ = some (.slice a1 l1.length c1) := cellW (j := 1) (BX.out _ HK5.out).2.1 rfl
        have xl51 := lt_of_block (BX.out _ HK5.out).2.1
        have x520 : w5.cell? ⟨b2, 0, none⟩ = some (.string s2) := cellW (j := 0) (BX.out _ HK5.out).2.2 rfl
        have x521 : w5.cell? ⟨b2, 1, none⟩ = some (.slice a2 l2.length c2) := cellW (j := 1) (BX.out _ HK5.out).2.2 rfl
        have xl52 := lt_of_block (BX.out _ HK5.out).2.2
        have n0 : (x != x) = false := by simp
        go_wp2_with fail
        refine (ComparePairings_any s1 s0 l1 l0 a1 a0 c1 c0 w5 hl1 hl0 (HA.out _ HB5.out).2.1 (HA.out _ HB5.out).1).mono ?_
        rintro e w6 ⟨rfl, hbl⟩
        have HB6 := Lib.hid (Below.then HB5.out hbl)
        have HK6 := Lib.hid (Below.then HK5.out hbl)
        clear hbl
        rw [HY.out]
        clear x500 x501 xl50 x510 x511 xl51 x520 x521 xl52
        have x600 : w6.cell? ⟨b0, 0, none⟩ = some (.string s0) := cellW (j := 0) (BX.out _ HK6.out).1 rfl
        have x601 : w6.cell? ⟨b0, 1, none⟩ = some (.slice a0 l0.length c0) := cellW (j := 1) (BX.out _ HK6.out).1 rfl
        have xl60 := lt_of_block (BX.out _ HK6.out).1
        have x610 : w6.cell? ⟨b1, 0, none⟩ = some (.string s1) := cellW (j := 0) (BX.out _ HK6.out).2.1 rfl
        have x611 : w6.cell? ⟨b1, 1, none⟩ = some (.slice a1 l1.length c1) := cellW (j := 1) (BX.out _ HK6.out).2.1 rfl
        have xl61 := lt_of_block (BX.out _ HK6.out).2.1
        have x620 : w6.cell? ⟨b2, 0, none⟩ = some (.string s2) := cellW (j := 0) (BX.out _ HK6.out).2.2 rfl
        have x621 : w6.cell? ⟨b2, 1, none⟩ = some (.slice a2 l2.length c2) := cellW (j := 1) (BX.out _ HK6.out).2.2 rfl
        have xl62 := lt_of_block (BX.out _ HK6.out).2.2
        have n1 : (-x != -x) = false := by simp
        go_wp2_with fail
        refine (ComparePairings_any s0 s0 l0 l0 a0 a0 c0 c0 w6 hl0 hl0 (HA.out _ HB6.out).1 (HA.out _ HB6.out).1).mono ?_
        rintro e w7 ⟨rfl, hbl⟩
        have HB7 := Lib.hid (Below.then HB6.out hbl)
        have HK7 := Lib.hid (Below.then HK6.out hbl)
        clear hbl
        rw [HR.out]
        clear x600 x601 xl60 x610 x611 xl61 x620 x621 xl62
        have hcase : ¬ x ≤ 0 ∨ (x ≤ 0 ∧ ¬ y ≤ 0) ∨ (x ≤ 0 ∧ y ≤ 0 ∧ ¬ 0 < z) := by
          have := HT.out
          omega
        have HX7 := Lib.hid (BX.out _ HK7.out)
        rcases hcase with g | ⟨g, g2⟩ | ⟨g, g2, g3⟩
        · clear HT HY HR HX HX7
          go_wp2_with fail
          go_loopw [10] (fun i wr => ∃ k : Nat, k ≤ l0.length ∧ i = .int .i64 k ∧ Hid (Below w.heap.size w wr) ∧ Hid (Below W.heap.size W wr)) (fun i _ => l0.length - (intOf i).toNat)
          case atStart => exact ⟨0, Nat.zero_le _, rfl, HB7, HK7⟩
          case round =>
            obtain ⟨k, hk, rfl, HB8, HK8⟩ := hrel
            have x800 : wr.cell? ⟨b0, 0, none⟩ = some (.string s0) := cellW (j := 0) (BX.out _ HK8.out).1 rfl
            have x801 : wr.cell? ⟨b0, 1, none⟩ = some (.slice a0 l0.length c0) := cellW (j := 1) (BX.out _ HK8.out).1 rfl
            have xl80 := lt_of_block (BX.out _ HK8.out).1
            have x810 : wr.cell? ⟨b1, 0, none⟩ = some (.string s1) := cellW (j := 0) (BX.out _ HK8.out).2.1 rfl
            have x811 : wr.cell? ⟨b1, 1, none⟩ = some (.slice a1 l1.length c1) := cellW (j := 1) (BX.out _ HK8.out).2.1 rfl
            have xl81 := lt_of_block (BX.out _ HK8.out).2.1
            have x820 : wr.cell? ⟨b2, 0, none⟩ = some (.string s2) := cellW (j := 0) (BX.out _ HK8.out).2.2 rfl
            have x821 : wr.cell? ⟨b2, 1, none⟩ = some (.slice a2 l2.length c2) := cellW (j := 1) (BX.out _ HK8.out).2.2 rfl
            have xl82 := lt_of_block (BX.out _ HK8.out).2.2
            by_cases hlt : k < l0.length
            · go_wp2_with fail
              obtain ⟨wo, rfl⟩ : ∃ wo : World, wo = wr := ⟨_, rfl⟩
              clear x800 x801 xl80 x810 x811 xl81 x820 x821 xl82
              go_loopw [11] (fun i wr => ∃ j : Nat, j ≤ l1.length ∧ i = .int .i64 j ∧ Hid (Below w.heap.size w wr) ∧ Hid (Below W.heap.size W wr)) (fun i _ => l1.length - (intOf i).toNat)
              case atStart => exact ⟨0, Nat.zero_le _, rfl, HB8, HK8⟩
              case round =>
                obtain ⟨j, hj, rfl, HB9, HK9⟩ := hrel
                have x900 : wr.cell? ⟨b0, 0, none⟩ = some (.string s0) := cellW (j := 0) (BX.out _ HK9.out).1 rfl
                have x901 : wr.cell? ⟨b0, 1, none⟩ = some (.slice a0 l0.length c0) := cellW (j := 1) (BX.out _ HK9.out).1 rfl
                have xl90 := lt_of_block (BX.out _ HK9.out).1
                have x910 : wr.cell? ⟨b1, 0, none⟩ = some (.string s1) := cellW (j := 0) (BX.out _ HK9.out).2.1 rfl
                have x911 : wr.cell? ⟨b1, 1, none⟩ = some (.slice a1 l1.length c1) := cellW (j := 1) (BX.out _ HK9.out).2.1 rfl
                have xl91 := lt_of_block (BX.out _ HK9.out).2.1
                have x920 : wr.cell? ⟨b2, 0, none⟩ = some (.string s2) := cellW (j := 0) (BX.out _ HK9.out).2.2 rfl
                have x921 : wr.cell? ⟨b2, 1, none⟩ = some (.slice a2 l2.length c2) := cellW (j := 1) (BX.out _ HK9.out).2.2 rfl
                have xl92 := lt_of_block (BX.out _ HK9.out).2.2
                by_cases hlt2 : j < l1.length
                · obtain ⟨e0, o0, rfl, he0, hc0⟩ := duty_cells (HA.out _ HB9.out).1 (by omega)
                  obtain ⟨e1, o1, rfl, he1, hc1⟩ := duty_cells (HA.out _ HB9.out).2.1 (by omega)
                  obtain ⟨d0, dc0, y0, hd0, hs0'⟩ := hc0 k hlt
                  obtain ⟨d1, dc1, y1, hd1, hs1'⟩ := hc1 j hlt2
                  clear hc0 hc1
                  have C1 := Lib.hid (fun dd os => Calls.regrown_of (CompareDuties_any (dAt l0 k) (dAt l1 j) d0 d1 dc0 dc1 (grow (redrawn wr dd) os) hd0 hd1 (hs0'.below (below_regrown wr dd os)) (hs1'.below (below_regrown wr dd os))))
                  have C2 := Lib.hid (fun dd os => Calls.regrown_of (CompareDutiesR_any (dAt l0 k) (dAt l1 j) d0 d1 dc0 dc1 (grow (redrawn wr dd) os) hd0 hd1 (hs0'.below (below_regrown wr dd os)) (hs1'.below (below_regrown wr dd os))))
                  clear hs0' hs1'
                  have i0 : (0 : Int) ≤ (k : Int) := by omega
                  have i1 : (k : Int) < (l0.length : Int) := by omega
                  have i2 : (0 : Int) ≤ (j : Int) := by omega
                  have i3 : (j : Int) < (l1.length : Int) := by omega
                  go_wp2_with fail
                  have z1 := fun dd os => cell_regrown x901 dd os
                  have z2 := fun dd os => cell_regrown x911 dd os
                  have z3 := fun dd os => cell_regrown y0 dd os
                  have z4 := fun dd os => cell_regrown y1 dd os
                  refine wp_region_quiet_below (by kernel_rfl) (by kernel_rfl) ?_
                  repeat (first | go_big_quiet_step (first | (with_reducible exact C1.out _ _) | (with_reducible exact C2.out _ _)) | quiet_step (first | (with_reducible exact C1.out _ _) | (with_reducible exact C2.out _ _)))
                  refine wpQuiet_nil ?_
                  intro _ hw'
                  obtain ⟨⟨dq, osq⟩, hw''⟩ := hw'
                  subst hw''
                  have HBa := Lib.hid (Below.then HB9.out (below_regrown wr dq osq))
                  have HKa := Lib.hid (Below.then HK9.out (below_regrown wr dq osq))
                  clear C1 C2 z1 z2 z3 z4 y0 y1
                  clear x900 x901 xl90 x910 x911 xl91 x920 x921 xl92
                  generalize grow (redrawn wr dq) osq = wa at *
                  have nn : (dutyCmp (dAt l0 k) (dAt l1 j) != dutyCmp (dAt l0 k) (dAt l1 j)) = false := by simp
                  go_wp2_with fail
                  go_roundw
                  case rel => exact ⟨j + 1, by omega, by go_num, HBa, HKa⟩
                  case measure => simp [intOf]; omega
                · go_wp2_with fail
                  go_roundw
                  case rel => exact ⟨k + 1, by omega, by go_num, HB9, HK9⟩
                  case measure => simp [intOf]; omega
            · have HBX := HB8
              go_wp2_with fail
              refine (awake_any _).mono ?_
              rintro e wz ⟨rfl, hbz⟩
              have HBz := Lib.hid (Below.then HBX.out hbz)
              clear hbz
              go_wp2_with fail
              go_ret
              exact ⟨rfl, HBz.out⟩
        · clear HT HY HR HX HX7
          go_wp2_with fail
          go_loopw [10] (fun i wr => ∃ k : Nat, k ≤ l0.length ∧ i = .int .i64 k ∧ Hid (Below w.heap.size w wr) ∧ Hid (Below W.heap.size W wr)) (fun i _ => l0.length - (intOf i).toNat)
          case atStart => exact ⟨0, Nat.zero_le _, rfl, HB7, HK7⟩
          case round =>
            obtain ⟨k, hk, rfl, HB8, HK8⟩ := hrel
            have x800 : wr.cell? ⟨b0, 0, none⟩ = some (.string s0) := cellW (j := 0) (BX.out _ HK8.out).1 rfl
            have x801 : wr.cell? ⟨b0, 1, none⟩ = some (.slice a0 l0.length c0) := cellW (j := 1) (BX.out _ HK8.out).1 rfl
            have xl80 := lt_of_block (BX.out _ HK8.out).1
            have x810 : wr.cell? ⟨b1, 0, none⟩ = some (.string s1) := cellW (j := 0) (BX.out _ HK8.out).2.1 rfl
            have x811 : wr.cell? ⟨b1, 1, none⟩ = some (.slice a1 l1.length c1) := cellW (j := 1) (BX.out _ HK8.out).2.1 rfl
            have xl81 := lt_of_block (BX.out _ HK8.out).2.1
            have x820 : wr.cell? ⟨b2, 0, none⟩ = some (.string s2) := cellW (j := 0) (BX.out _ HK8.out).2.2 rfl
            have x821 : wr.cell? ⟨b2, 1, none⟩ = some (.slice a2 l2.length c2) := cellW (j := 1) (BX.out _ HK8.out).2.2 rfl
            have xl82 := lt_of_block (BX.out _ HK8.out).2.2
            by_cases hlt : k < l0.length
            · go_wp2_with fail
              obtain ⟨wo, rfl⟩ : ∃ wo : World, wo = wr := ⟨_, rfl⟩
              clear x800 x801 xl80 x810 x811 xl81 x820 x821 xl82
              go_loopw [11] (fun i wr => ∃ j : Nat, j ≤ l1.length ∧ i = .int .i64 j ∧ Hid (Below w.heap.size w wr) ∧ Hid (Below W.heap.size W wr)) (fun i _ => l1.length - (intOf i).toNat)
              case atStart => exact ⟨0, Nat.zero_le _, rfl, HB8, HK8⟩
              case round =>
                obtain ⟨j, hj, rfl, HB9, HK9⟩ := hrel
                have x900 : wr.cell? ⟨b0, 0, none⟩ = some (.string s0) := cellW (j := 0) (BX.out _ HK9.out).1 rfl
                have x901 : wr.cell? ⟨b0, 1, none⟩ = some (.slice a0 l0.length c0) := cellW (j := 1) (BX.out _ HK9.out).1 rfl
                have xl90 := lt_of_block (BX.out _ HK9.out).1
                have x910 : wr.cell? ⟨b1, 0, none⟩ = some (.string s1) := cellW (j := 0) (BX.out _ HK9.out).2.1 rfl
                have x911 : wr.cell? ⟨b1, 1, none⟩ = some (.slice a1 l1.length c1) := cellW (j := 1) (BX.out _ HK9.out).2.1 rfl
                have xl91 := lt_of_block (BX.out _ HK9.out).2.1
                have x920 : wr.cell? ⟨b2, 0, none⟩ = some (.string s2) := cellW (j := 0) (BX.out _ HK9.out).2.2 rfl
                have x921 : wr.cell? ⟨b2, 1, none⟩ = some (.slice a2 l2.length c2) := cellW (j := 1) (BX.out _ HK9.out).2.2 rfl
                have xl92 := lt_of_block (BX.out _ HK9.out).2.2
                by_cases hlt2 : j < l1.length
                · obtain ⟨e0, o0, rfl, he0, hc0⟩ := duty_cells (HA.out _ HB9.out).1 (by omega)
                  obtain ⟨e1, o1, rfl, he1, hc1⟩ := duty_cells (HA.out _ HB9.out).2.1 (by omega)
                  obtain ⟨d0, dc0, y0, hd0, hs0'⟩ := hc0 k hlt
                  obtain ⟨d1, dc1, y1, hd1, hs1'⟩ := hc1 j hlt2
                  clear hc0 hc1
                  have C1 := Lib.hid (fun dd os => Calls.regrown_of (CompareDuties_any (dAt l0 k) (dAt l1 j) d0 d1 dc0 dc1 (grow (redrawn wr dd) os) hd0 hd1 (hs0'.below (below_regrown wr dd os)) (hs1'.below (below_regrown wr dd os))))
                  have C2 := Lib.hid (fun dd os => Calls.regrown_of (CompareDutiesR_any (dAt l0 k) (dAt l1 j) d0 d1 dc0 dc1 (grow (redrawn wr dd) os) hd0 hd1 (hs0'.below (below_regrown wr dd os)) (hs1'.below (below_regrown wr dd os))))
                  clear hs0' hs1'
                  have i0 : (0 : Int) ≤ (k : Int) := by omega
                  have i1 : (k : Int) < (l0.length : Int) := by omega
                  have i2 : (0 : Int) ≤ (j : Int) := by omega
                  have i3 : (j : Int) < (l1.length : Int) := by omega
                  go_wp2_with fail
                  have z1 := fun dd os => cell_regrown x901 dd os
                  have z2 := fun dd os => cell_regrown x911 dd os
                  have z3 := fun dd os => cell_regrown y0 dd os
                  have z4 := fun dd os => cell_regrown y1 dd os
                  refine wp_region_quiet_below (by kernel_rfl) (by kernel_rfl) ?_
                  repeat (first | go_big_quiet_step (first | (with_reducible exact C1.out _ _) | (with_reducible exact C2.out _ _)) | quiet_step (first | (with_reducible exact C1.out _ _) | (with_reducible exact C2.out _ _)))
                  refine wpQuiet_nil ?_
                  intro _ hw'
                  obtain ⟨⟨dq, osq⟩, hw''⟩ := hw'
                  subst hw''
                  have HBa := Lib.hid (Below.then HB9.out (below_regrown wr dq osq))
                  have HKa := Lib.hid (Below.then HK9.out (below_regrown wr dq osq))
                  clear C1 C2 z1 z2 z3 z4 y0 y1
                  clear x900 x901 xl90 x910 x911 xl91 x920 x921 xl92
                  generalize grow (redrawn wr dq) osq = wa at *
                  have nn : (dutyCmp (dAt l0 k) (dAt l1 j) != dutyCmp (dAt l0 k) (dAt l1 j)) = false := by simp
                  go_wp2_with fail
                  go_roundw
                  case rel => exact ⟨j + 1, by omega, by go_num, HBa, HKa⟩
                  case measure => simp [intOf]; omega
                · go_wp2_with fail
                  go_roundw
                  case rel => exact ⟨k + 1, by omega, by go_num, HB9, HK9⟩
                  case measure => simp [intOf]; omega
            · have HBX := HB8
              go_wp2_with fail
              refine (awake_any _).mono ?_
              rintro e wz ⟨rfl, hbz⟩
              have HBz := Lib.hid (Below.then HBX.out hbz)
              clear hbz
              go_wp2_with fail
              go_ret
              exact ⟨rfl, HBz.out⟩
        · clear HT HY HR HX HX7
          go_wp2_with fail
          go_loopw [10] (fun i wr => ∃ k : Nat, k ≤ l0.length ∧ i = .int .i64 k ∧ Hid (Below w.heap.size w wr) ∧ Hid (Below W.heap.size W wr)) (fun i _ => l0.length - (intOf i).toNat)
          case atStart => exact ⟨0, Nat.zero_le _, rfl, HB7, HK7⟩
          case round =>
            obtain ⟨k, hk, rfl, HB8, HK8⟩ := hrel
            have x800 : wr.cell? ⟨b0, 0, none⟩ = some (.string s0) := cellW (j := 0) (BX.out _ HK8.out).1 rfl
            have x801 : wr.cell? ⟨b0, 1, none⟩ = some (.slice a0 l0.length c0) := cellW (j := 1) (BX.out _ HK8.out).1 rfl
            have xl80 := lt_of_block (BX.out _ HK8.out).1
            have x810 : wr.cell? ⟨b1, 0, none⟩ = some (.string s1) := cellW (j := 0) (BX.out _ HK8.out).2.1 rfl
            have x811 : wr.cell? ⟨b1, 1, none⟩ = some (.slice a1 l1.length c1) := cellW (j := 1) (BX.out _ HK8.out).2.1 rfl
            have xl81 := lt_of_block (BX.out _ HK8.out).2.1
            have x820 : wr.cell? ⟨b2, 0, none⟩ = some (.string s2) := cellW (j := 0) (BX.out _ HK8.out).2.2 rfl
            have x821 : wr.cell? ⟨b2, 1, none⟩ = some (.slice a2 l2.length c2) := cellW (j := 1) (BX.out _ HK8.out).2.2 rfl
            have xl82 := lt_of_block (BX.out _ HK8.out).2.2
            by_cases hlt : k < l0.length
            · go_wp2_with fail
              obtain ⟨wo, rfl⟩ : ∃ wo : World, wo = wr := ⟨_, rfl⟩
              clear x800 x801 xl80 x810 x811 xl81 x820 x821 xl82
              go_loopw [11] (fun i wr => ∃ j : Nat, j ≤ l1.length ∧ i = .int .i64 j ∧ Hid (Below w.heap.size w wr) ∧ Hid (Below W.heap.size W wr)) (fun i _ => l1.length - (intOf i).toNat)
              case atStart => exact ⟨0, Nat.zero_le _, rfl, HB8, HK8⟩
              case round =>
                obtain ⟨j, hj, rfl, HB9, HK9⟩ := hrel
                have x900 : wr.cell? ⟨b0, 0, none⟩ = some (.string s0) := cellW (j := 0) (BX.out _ HK9.out).1 rfl
                have x901 : wr.cell? ⟨b0, 1, none⟩ = some (.slice a0 l0.length c0) := cellW (j := 1) (BX.out _ HK9.out).1 rfl
                have xl90 := lt_of_block (BX.out _ HK9.out).1
                have x910 : wr.cell? ⟨b1, 0, none⟩ = some (.string s1) := cellW (j := 0) (BX.out _ HK9.out).2.1 rfl
                have x911 : wr.cell? ⟨b1, 1, none⟩ = some (.slice a1 l1.length c1) := cellW (j := 1) (BX.out _ HK9.out).2.1 rfl
                have xl91 := lt_of_block (BX.out _ HK9.out).2.1
                have x920 : wr.cell? ⟨b2, 0, none⟩ = some (.string s2) := cellW (j := 0) (BX.out _ HK9.out).2.2 rfl
                have x921 : wr.cell? ⟨b2, 1, none⟩ = some (.slice a2 l2.length c2) := cellW (j := 1) (BX.out _ HK9.out).2.2 rfl
                have xl92 := lt_of_block (BX.out _ HK9.out).2.2
                by_cases hlt2 : j < l1.length
                · obtain ⟨e0, o0, rfl, he0, hc0⟩ := duty_cells (HA.out _ HB9.out).1 (by omega)
                  obtain ⟨e1, o1, rfl, he1, hc1⟩ := duty_cells (HA.out _ HB9.out).2.1 (by omega)
                  obtain ⟨d0, dc0, y0, hd0, hs0'⟩ := hc0 k hlt
                  obtain ⟨d1, dc1, y1, hd1, hs1'⟩ := hc1 j hlt2
                  clear hc0 hc1
                  have C1 := Lib.hid (fun dd os => Calls.regrown_of (CompareDuties_any (dAt l0 k) (dAt l1 j) d0 d1 dc0 dc1 (grow (redrawn wr dd) os) hd0 hd1 (hs0'.below (below_regrown wr dd os)) (hs1'.below (below_regrown wr dd os))))
                  have C2 := Lib.hid (fun dd os => Calls.regrown_of (CompareDutiesR_any (dAt l0 k) (dAt l1 j) d0 d1 dc0 dc1 (grow (redrawn wr dd) os) hd0 hd1 (hs0'.below (below_regrown wr dd os)) (hs1'.below (below_regrown wr dd os))))
                  clear hs0' hs1'
                  have i0 : (0 : Int) ≤ (k : Int) := by omega
                  have i1 : (k : Int) < (l0.length : Int) := by omega
                  have i2 : (0 : Int) ≤ (j : Int) := by omega
                  have i3 : (j : Int) < (l1.length : Int) := by omega
                  go_wp2_with fail
                  have z1 := fun dd os => cell_regrown x901 dd os
                  have z2 := fun dd os => cell_regrown x911 dd os
                  have z3 := fun dd os => cell_regrown y0 dd os
                  have z4 := fun dd os => cell_regrown y1 dd os
                  refine wp_region_quiet_below (by kernel_rfl) (by kernel_rfl) ?_
                  repeat (first | go_big_quiet_step (first | (with_reducible exact C1.out _ _) | (with_reducible exact C2.out _ _)) | quiet_step (first | (with_reducible exact C1.out _ _) | (with_reducible exact C2.out _ _)))
                  refine wpQuiet_nil ?_
                  intro _ hw'
                  obtain ⟨⟨dq, osq⟩, hw''⟩ := hw'
                  subst hw''
                  have HBa := Lib.hid (Below.then HB9.out (below_regrown wr dq osq))
                  have HKa := Lib.hid (Below.then HK9.out (below_regrown wr dq osq))
                  clear C1 C2 z1 z2 z3 z4 y0 y1
                  clear x900 x901 xl90 x910 x911 xl91 x920 x921 xl92
                  generalize grow (redrawn wr dq) osq = wa at *
                  have nn : (dutyCmp (dAt l0 k) (dAt l1 j) != dutyCmp (dAt l0 k) (dAt l1 j)) = false := by simp
                  go_wp2_with fail
                  go_roundw
                  case rel => exact ⟨j + 1, by omega, by go_num, HBa, HKa⟩
                  case measure => simp [intOf]; omega
                · go_wp2_with fail
                  go_roundw
                  case rel => exact ⟨k + 1, by omega, by go_num, HB9, HK9⟩
                  case measure => simp [intOf]; omega
            · have HBX := HB8
              go_wp2_with fail
              refine (awake_any _).mono ?_
              rintro e wz ⟨rfl, hbz⟩
              have HBz := Lib.hid (Below.then HBX.out hbz)
              clear hbz
              go_wp2_with fail
              go_ret
              exact ⟨rfl, HBz.out⟩
end Go.Proofs.YtenlhfmnkojnpaaGreat
/- opening arguments: reading data as representations -/
namespace Go.Proofs.YtenlhfmnkojnpaaGreat
open Go.ChangeShapes Go.WideShapes Go.ChangeAt Go.RowKit Go.Deep Go.Joins
open Go.ChangeMaps (open_string shut_string)
set_option linter.unusedVariables false
theorem own : ownKnob Tryz.prog.godebug = none := by kernel_rfl
theorem laidOut : laidOutB Tryz.prog = true := by kernel_rfl
/-- what is read at type t opens as r -/
def Opens {A : Type} (t : TypeId) (r : RT A) : Prop := ∀ {H : Type} {enc : TypeId × Value → H} {W : World} {fuel : Nat} {cs : List Value} {x : DataW H × List MemPlace}, DataW.trod enc Tryz.prog W 0 (fun _ => true) true fuel t cs = some x → (∀ n ∈ DataW.weights Tryz.prog t x.1, n ≤ reachBytes) → ∃ a : A, r.rep W cs a
theorem opens_int {t : TypeId} (ht : Tryz.prog.underlying t = some (.int .i64)) : Opens t RT.int := by
  intro H enc W fuel cs x h _
  obtain ⟨n, e, _, hw⟩ := DataW.trod_int ht h
  exact ⟨n, e, hw⟩
theorem opens_bool {t : TypeId} (ht : Tryz.prog.underlying t = some .bool) : Opens t RT.bool := by
  intro H enc W fuel cs x h _
  obtain ⟨b, e, _⟩ := DataW.trod_bool ht h
  exact ⟨b, e⟩
theorem opens_str {t : TypeId} (ht : Tryz.prog.underlying t = some .string) : Opens t RT.str := by
  intro H enc W fuel cs x h hw
  obtain ⟨s, e, rfl, _⟩ := DataW.trod_string ht h
  refine ⟨s, e, ?_⟩
  have := hw s.data.toList.length (by simp [DataW.weights])
  have e2 : s.data.toList.length = s.size := by simp
  have := reachBytes_lt
  omega
theorem weights_all {H : Type} {e : TypeId} : ∀ {l : List (DataW H)} {d : DataW H}, d ∈ l → ∀ n ∈ d.weights Tryz.prog e, n ∈ DataW.weightsAll Tryz.prog e l
  | x :: l, d, hd, n, hn => by
    simp only [DataW.weightsAll, List.mem_append]
    rcases List.mem_cons.1 hd with rfl | hd
    · exact .inl hn
    · exact .inr (weights_all hd n hn)
theorem choose_list {A : Type} (n : Nat) (R : Nat → A → Prop) (h : ∀ i, i < n → ∃ x, R i x) : ∃ l : List A, l.length = n ∧ ∀ i (hi : i < l.length), R i l[i] := by
  induction n with
  | zero => exact ⟨[], rfl, fun i hi => absurd hi (Nat.not_lt_zero _)⟩
  | succ n ih =>
    obtain ⟨l, hl, hr⟩ := ih (fun i hi => h i (by omega))
    obtain ⟨x, hx⟩ := h n (by omega)
    refine ⟨l ++ [x], by simp [hl], fun i hi => ?_⟩
    by_cases e : i = n
    · subst e
      rw [List.getElem_append_right (by omega)]
      simpa using hx
    · have hi' : i < l.length := by simp at hi; omega
      rw [List.getElem_append_left hi']; exact hr i hi'
theorem opens_slice {A : Type} {r : RT A} {t e : TypeId} (ht : Tryz.prog.underlying t = some (.slice e)) (hc : Tryz.prog.cellsOf e = r.n) (hn : 0 < r.n) (hb : 1 ≤ Tryz.prog.bytesOf e) (h : Opens e r) : Opens t (RT.sl r) := by
  intro H enc W fuel cs x hx hw
  rcases open_slice ht hx with ⟨e1, _⟩ | ⟨a, len, cap, m, n, D, Pl, e1, _, hl, _, hm, hxx, hf⟩
  · exact ⟨[], none, 0, e1, Nat.le_refl _, by omega, .inl rfl⟩
  · simp only [if_true] at hm
    rw [hm] at hf hxx
    clear hm
    subst hxx
    have hw1 := hw ((((List.range len).map D).length + ((List.range (cap - len)).map fun j => D (len + j)).length) * Tryz.prog.bytesOf e) (by simp only [DataW.weights, ht]; exact List.mem_cons_self ..)
    have hlen : ((List.range len).map D).length + ((List.range (cap - len)).map fun j => D (len + j)).length = cap := by simp; omega
    rw [hlen] at hw1
    have hcap : cap ≤ 140737488355328 := by
      have := reachBytes_lt
      have h1 : cap * 1 ≤ cap * Tryz.prog.bytesOf e := Nat.mul_le_mul_left _ hb
      omega
    have hex : ∀ i, i < len → ∃ y : A, ∃ cs', W.cells? 0 (a.add (i * Tryz.prog.cellsOf e)) (Tryz.prog.cellsOf e) = some cs' ∧ r.rep W cs' y := by
      intro i hi
      obtain ⟨cs', h1, h2⟩ := hf i (by omega)
      obtain ⟨y, hy⟩ := h h2 (fun k hk => hw k (by
        simp only [DataW.weights, ht]
        refine List.mem_cons_of_mem _ (List.mem_append_left _ ?_)
        exact weights_all (List.mem_map.2 ⟨i, List.mem_range.2 hi, rfl⟩) k hk))
      exact ⟨y, cs', h1, hy⟩
    obtain ⟨l, hll, hlr⟩ := choose_list len (fun i y => ∃ cs', W.cells? 0 (a.add (i * Tryz.prog.cellsOf e)) (Tryz.prog.cellsOf e) = some cs' ∧ r.rep W cs' y) hex
    subst hll
    refine ⟨l, some a, cap, e1, hl, hcap, ?_⟩
    by_cases e0 : l.length = 0
    · exact .inl (List.length_eq_zero_iff.1 e0)
    · have hcell : ∀ i (hi : i < l.length), ∃ cs', (∀ j (hj : j < cs'.length), W.cell? (a.add (i * r.n + j)) = some cs'[j]) ∧ r.rep W cs' l[i] := by
        intro i hi
        obtain ⟨cs', h1, h2⟩ := hlr i hi
        rw [hc] at h1
        obtain ⟨_, hlen', hat⟩ := World.cells?_some h1
        refine ⟨cs', fun j hj => ?_, h2⟩
        have g := hat j (by omega)
        rw [add_add] at g
        rw [g]; exact List.getElem?_eq_getElem hj
      obtain ⟨b, off, spot⟩ := a
      obtain ⟨cs0, h00, hr0⟩ := hcell 0 (by omega)
      have hl0 : 0 < cs0.length := by rw [r.len hr0]; exact hn
      have g0 := h00 0 hl0
      have hspot : spot = none := by simpa [Addr.add] using World.cell?_spot g0
      subst hspot
      have hblt : b < W.heap.size := by simpa [Addr.add] using block_lt_of_cell g0
      refine .inr ⟨b, off, rfl, hblt, fun i hi => ?_⟩
      obtain ⟨cs', h1, h2⟩ := hcell i hi
      refine ⟨cs', fun j hj => ?_, h2⟩
      have g := h1 j hj
      rw [Addr.add_lit] at g
      rw [Nat.add_assoc]
      exact g
/-- the fields of a struct -/
theorem trod_fields {H : Type} {enc : TypeId × Value → H} {W : World} {t : TypeId} {fs : Array Field} {fuel : Nat} {cs : List Value} {x : DataW H × List MemPlace} (ht : Tryz.prog.underlying t = some (.struct fs)) (h : DataW.trod enc Tryz.prog W 0 (fun _ => true) true fuel t cs = some x) (hw : ∀ n ∈ DataW.weights Tryz.prog t x.1, n ≤ reachBytes) :
    cs.length = Tryz.prog.cellsOf t ∧ ∀ (i : Nat) (f : Field), fs[i]? = some f → ∃ (n : Nat) (y : DataW H × List MemPlace), DataW.trod enc Tryz.prog W 0 (fun _ => true) true n f.type ((cs.drop f.offset).take (Tryz.prog.cellsOf f.type)) = some y ∧ ∀ k ∈ DataW.weights Tryz.prog f.type y.1, k ≤ reachBytes := by
  obtain ⟨xs, n, _, rfl, hl, hlen, hf⟩ := DataW.trod_struct ht h
  refine ⟨hl, fun i f hi => ?_⟩
  have h1 := hf i f hi
  have hif : i < fs.size := (Array.getElem?_eq_some_iff.1 hi).1
  have hix : i < xs.length := by omega
  rw [List.getElem?_eq_getElem hix] at h1
  refine ⟨n, xs[i], h1, fun k hk => hw k ?_⟩
  simp only [DataW.weights, ht]
  refine DataW.weights_mem_each (j := i) (t := f.type) (d := xs[i].1) ?_ ?_ k hk
  · rw [List.getElem?_map, Array.getElem?_toList, hi]; rfl
  · rw [List.getElem?_map, List.getElem?_eq_getElem hix]; rfl
/-- a struct of two parts -/
theorem opens_two {A B : Type} {r : RT A} {q : RT B} {t : TypeId} {f0 f1 : Field} (ht : Tryz.prog.underlying t = some (.struct #[f0, f1])) (h0 : f0.offset = 0) (h1 : f1.offset = r.n) (k0 : Tryz.prog.cellsOf f0.type = r.n) (k1 : Tryz.prog.cellsOf f1.type = q.n) (kt : Tryz.prog.cellsOf t = r.n + q.n) (g0 : Opens f0.type r) (g1 : Opens f1.type q) : Opens t (RT.prod r q) := by
  intro H enc W fuel cs x h hw
  obtain ⟨hl, hf⟩ := trod_fields ht h hw
  obtain ⟨n0, y0, t0, w0⟩ := hf 0 f0 rfl
  obtain ⟨n1, y1, t1, w1⟩ := hf 1 f1 rfl
  obtain ⟨a, ha⟩ := g0 t0 w0
  obtain ⟨b, hb⟩ := g1 t1 w1
  rw [h0, k0, List.drop_zero] at ha
  rw [h1, k1] at hb
  rw [List.take_of_length_le (by rw [List.length_drop]; omega)] at hb
  exact ⟨(a, b), cs.take r.n, cs.drop r.n, (List.take_append_drop _ _).symm, ha, hb⟩
end Go.Proofs.YtenlhfmnkojnpaaGreat
/- opening duties and pairings -/
namespace Go.Proofs.YtenlhfmnkojnpaaGreat
open Go.ChangeShapes Go.WideShapes Go.ChangeAt Go.RowKit Go.Deep Go.Joins
set_option linter.unusedVariables false
set_option maxRecDepth 100000
theorem opens_duty : Opens 36 dutyRT :=
  opens_slice Tryz.underlying36 (by kernel_rfl) (by decide) (Nat.le_of_ble_eq_true (by kernel_rfl)) (opens_two Tryz.underlying62 rfl rfl (by kernel_rfl) (by kernel_rfl) (by kernel_rfl) (opens_int Tryz.underlying3) (opens_bool Tryz.underlying4))
theorem opens_duties : Opens 56 (RT.sl dutyRT) :=
  opens_slice Tryz.underlying56 (by kernel_rfl) (by decide) (Nat.le_of_ble_eq_true (by kernel_rfl)) opens_duty
theorem opens_pairing : Opens 58 (RT.prod RT.str (RT.sl dutyRT)) :=
  opens_two Tryz.underlying58 rfl rfl (by kernel_rfl) (by kernel_rfl) (by kernel_rfl) (opens_str Tryz.underlying9) opens_duties
theorem open_duty {H : Type} {enc : TypeId × Value → H} {W : World} {r : Reach} {b0 : Nat} {v : Value} {d : DataW H} {p : List MemPlace} (hv : Value.okWide Tryz.prog W r b0 36 v) (h : DataW.Trod enc Tryz.prog W 0 (fun _ => true) true 36 v d p) (hw : ∀ n ∈ DataW.weights Tryz.prog 36 d, n ≤ reachBytes) :
    ∃ (l : Duty) (a : Option Addr) (cap : Nat), v = .slice a l.length cap ∧ l.length ≤ 140737488355328 ∧ SlAt taskRT W a l := by
  obtain ⟨sa, sn, sc, rfl⟩ := okWide_slice Tryz.underlying36 hv
  obtain ⟨fu, hf⟩ := h
  obtain ⟨l, a, cap, e, h1, h2, h3⟩ := opens_duty hf hw
  have e' : [Value.slice sa sn sc] = [.slice a l.length cap] := e
  cases e'
  exact ⟨l, _, _, rfl, Nat.le_trans h1 h2, h3⟩
theorem open_pairing {H : Type} {enc : TypeId × Value → H} {W : World} {r : Reach} {b0 : Nat} {v : Value} {d : DataW H} {p : List MemPlace} (hv : Value.okWide Tryz.prog W r b0 58 v) (h : DataW.Trod enc Tryz.prog W 0 (fun _ => true) true 58 v d p) (hw : ∀ n ∈ DataW.weights Tryz.prog 58 d, n ≤ reachBytes) :
    ∃ (s : ByteArray) (l : List Duty) (a : Option Addr) (cap : Nat), v = .agg #[.string s, .slice a l.length cap] ∧ s.size ≤ 140737488355328 ∧ l.length ≤ 140737488355328 ∧ SlAt dutyRT W a l := by
  obtain ⟨cs, rfl, _⟩ := okWide_struct Tryz.underlying58 hv
  obtain ⟨fu, hf⟩ := h
  obtain ⟨⟨s, l⟩, c, q, e, ⟨rfl, hs⟩, a, cap, rfl, h1, h2, h3⟩ := opens_pairing hf hw
  have e' : cs.toList = [.string s, .slice a l.length cap] := e
  have e2 : cs = #[.string s, .slice a l.length cap] := by cases cs; simpa using e'
  subst e2
  exact ⟨s, l, a, cap, rfl, hs, Nat.le_trans h1 h2, h3⟩
end Go.Proofs.YtenlhfmnkojnpaaGreat
