/- the walk of ZoneSplits -/
import Derived.Test.YtdjhoelbnnljjaaBand3
namespace Go.Proofs.Ytdjhoelbnnljjaa
open Go.RowKit Go.Sort
set_option linter.unusedSimpArgs false
set_option linter.unusedVariables false

theorem cntTo_add (S : Int → Bool) (x : Int) (n : Nat) : ∀ m : Nat, cntTo S x (n + m) = cntTo S x n + cntTo S (x + n) m := by
  intro m
  induction m with
  | zero => simp [cntTo]
  | succ m ih =>
    rw [← Nat.add_assoc, cntTo, cntTo, ih, show x + ((n + m : Nat) : Int) = x + n + m by omega]
    omega
theorem cntTo_compl {S T : Int → Bool} (h : ∀ t, T t = !S t) (x : Int) : ∀ n : Nat, cntTo S x n + cntTo T x n = n := by
  intro n
  induction n with
  | zero => rfl
  | succ n ih =>
    rw [cntTo, cntTo, h]
    cases S (x + n) <;> simp <;> omega
theorem bandB_compl {c fr to : Int} (hne : fr ≠ to) : bandB c to fr = !bandB c fr to := by
  rw [Bool.eq_iff_iff]
  unfold bandB
  split <;> split <;> simp <;> omega
theorem splits_facts {nm : List UInt8} {o : Int} {l : List (Int × Int)} {x y cut fr to : Int} (hv : valZone nm o l = 0) (h1 : 0 ≤ x) (h2 : x ≤ cut) (h3 : cut ≤ y) (h4 : y ≤ 52596000) (hf : 0 ≤ fr ∧ fr < 1440) (ht : 0 ≤ to ∧ to < 1440) (hne : fr ≠ to) :
    ∃ A B C : Int, bandMinZ nm o l x y fr to = (A + B, 0) ∧ bandMinZ nm o l x cut fr to = (A, 0) ∧ bandMinZ nm o l cut y fr to = (B, 0) ∧ bandMinZ nm o l x y to fr = (C, 0) ∧ A + B + C = y - x ∧ 0 ≤ A ∧ A ≤ 52596000 ∧ 0 ≤ B ∧ B ≤ 52596000 ∧ 0 ≤ C ∧ C ≤ 52596000 := by
  have hsp : ∀ a b : Int, 0 ≤ a → a ≤ b → b ≤ 52596000 → spnB a b = true := fun a b u v z => by simp [spnB]; omega
  have hc : ∀ a : Int, 0 ≤ a ∧ a < 1440 → clkB a = true := fun a u => by simp [clkB]; omega
  have he : ∀ a b p q : Int, 0 ≤ a → a ≤ b → b ≤ 52596000 → (0 ≤ p ∧ p < 1440) → (0 ≤ q ∧ q < 1440) → bandErr nm o l a b p q = 0 := fun a b p q u v z r t => by
    simp [bandErr, hv, hsp a b u v z, hc p r, hc q t]
  have e1 := bandMinZ_ok (he x y fr to h1 (by omega) h4 hf ht)
  have e2 := bandMinZ_ok (he x cut fr to h1 h2 (by omega) hf ht)
  have e3 := bandMinZ_ok (he cut y fr to (by omega) h3 h4 hf ht)
  have e4 := bandMinZ_ok (he x y to fr h1 (by omega) h4 ht hf)
  have b2 := cntTo_bd (inB o l fr to) x (cut - x).toNat
  have b3 := cntTo_bd (inB o l fr to) cut (y - cut).toNat
  have b4 := cntTo_bd (inB o l to fr) x (y - x).toNat
  have s1 := cntTo_add (inB o l fr to) x (cut - x).toNat (y - cut).toNat
  rw [show (cut - x).toNat + (y - cut).toNat = (y - x).toNat by omega, show x + ((cut - x).toNat : Int) = cut by omega] at s1
  have s2 := cntTo_compl (S := inB o l fr to) (T := inB o l to fr) (fun t => bandB_compl hne) x (y - x).toNat
  refine ⟨_, _, _, by rw [e1, s1], e2, e3, e4, by omega, b2.1, by omega, b3.1, by omega, b4.1, by omega⟩

set_option maxRecDepth 100000 in
set_option maxHeartbeats 1600000 in
theorem zoneSplits_walk (s : ByteArray) (o : Int) (l : List (Int × Int)) (a : Option Addr) (cap : Nat) (x y cut fr to : Int) (w : World) (hs : s.size ≤ maxLen) (hl : l.length ≤ maxLen) (ho : (Lit.int .i64 o).wf = true) (ha : ShAt w a l) (hx : (Lit.int .i64 x).wf = true) (hy : (Lit.int .i64 y).wf = true) (hcu : (Lit.int .i64 cut).wf = true) (hfr : (Lit.int .i64 fr).wf = true) (hto : (Lit.int .i64 to).wf = true) :
    Calls Try.prog 8 #[.agg #[.string s, .int .i64 o, .slice a l.length cap], .agg #[.int .i64 x, .int .i64 y], .int .i64 cut, .int .i64 fr, .int .i64 to] w fun e w' => e = .returned (.bool true) ∧ Below w.heap.size w w' := by
  clear ho hx hy hfr hto hcu
  have hA := Lib.hid (fun W (h : Below w.heap.size w W) => ha.below h)
  clear ha
  go_enter Try.func8, Try.ntmps8
  go_wp2_with fail
  obtain ⟨zb, sb, hbW⟩ := boxes w s o a l.length cap x y
  generalize ((w.alloc (Obj.cells #[Value.string s, Value.int IntKind.i64 o, Value.slice a l.length cap] 24)).alloc (Obj.cells #[Value.int IntKind.i64 x, Value.int IntKind.i64 y] 35)) = W at *
  refine (light_any s o x y l.length a cap _ hl).mono ?_
  rintro e w1 ⟨rfl, hb1⟩
  have hB1 := Below.then hbW hb1
  replace zb := zb.below hb1
  replace sb := sb.below hb1
  obtain ⟨z0, z1, z2, z3⟩ := Lib.hid zb |>.out
  obtain ⟨t0, t1, t2⟩ := Lib.hid sb |>.out
  clear hb1 hbW
  clear W
  cases hli : lightB l.length x y
  · go_wp2_with (go_at_call 11; refine (awake_any _).mono ?_; rintro e w9 ⟨rfl, hb9⟩)
    go_ret
    exact ⟨rfl, Below.then hB1 hb9⟩
  · have hl' : l.length ≤ 1000000 := by have := light_ok hli; omega
    go_wp2_with fail
    refine (validateR_any s o l a cap _ hs hl' (hA.out _ hB1)).mono ?_
    rintro e w2 ⟨rfl, hb2⟩
    have hB2 := Below.then hB1 hb2
    replace zb := zb.below hb2
    replace sb := sb.below hb2
    clear hb2 z0 z1 z2 z3 t0 t1 t2
    obtain ⟨z0, z1, z2, z3⟩ := Lib.hid zb |>.out
    obtain ⟨t0, t1, t2⟩ := Lib.hid sb |>.out
    by_cases hv : valZone s.data.toList o l = 0
    · have hn : (valZone s.data.toList o l != 0) = false := by simpa using hv
      by_cases hC : ((0 ≤ x ∧ y ≤ 52596000) ∧ (x ≤ cut ∧ cut ≤ y) ∧ (0 ≤ fr ∧ fr ≤ 1439) ∧ (0 ≤ to ∧ to ≤ 1439)) ∧ fr ≠ to
      · obtain ⟨⟨⟨h1, h2⟩, ⟨h3, h4⟩, ⟨h5, h6⟩, h7, h8⟩, h9⟩ := hC
        obtain ⟨A, B, C, k1, k2, k3, k4, k5, k6, k7, k8, k9, k10, k11⟩ := splits_facts hv h1 h3 h4 h2 ⟨h5, by omega⟩ ⟨h7, by omega⟩ h9
        have K1 := Lib.hid k1
        have K2 := Lib.hid k2
        have K3 := Lib.hid k3
        have K4 := Lib.hid k4
        have h9' : (fr == to) = false := by simpa using h9
        have k5' : (A + B + C == y - x) = true := by simpa using k5
        clear k1 k2 k3 k4 h9 hv k5
        go_wp2_with fail
        refine (BandMinutes_any s o x y fr to l a cap _ hs hl' (hA.out _ hB2)).mono ?_
        rintro e w3 ⟨rfl, hb3⟩
        rw [K1.out]
        have hB3 := Below.then hB2 hb3
        replace zb := zb.below hb3
        replace sb := sb.below hb3
        clear hb3 z0 z1 z2 z3 t0 t1 t2
        obtain ⟨z0, z1, z2, z3⟩ := Lib.hid zb |>.out
        obtain ⟨t0, t1, t2⟩ := Lib.hid sb |>.out
        go_wp2_with fail
        refine (BandMinutes_any s o x cut fr to l a cap _ hs hl' (hA.out _ hB3)).mono ?_
        rintro e w4 ⟨rfl, hb4⟩
        rw [K2.out]
        have hB4 := Below.then hB3 hb4
        replace zb := zb.below hb4
        replace sb := sb.below hb4
        clear hb4 z0 z1 z2 z3 t0 t1 t2
        obtain ⟨z0, z1, z2, z3⟩ := Lib.hid zb |>.out
        obtain ⟨t0, t1, t2⟩ := Lib.hid sb |>.out
        go_wp2_with fail
        refine (BandMinutes_any s o cut y fr to l a cap _ hs hl' (hA.out _ hB4)).mono ?_
        rintro e w5 ⟨rfl, hb5⟩
        rw [K3.out]
        have hB5 := Below.then hB4 hb5
        replace zb := zb.below hb5
        replace sb := sb.below hb5
        clear hb5 z0 z1 z2 z3 t0 t1 t2
        obtain ⟨z0, z1, z2, z3⟩ := Lib.hid zb |>.out
        obtain ⟨t0, t1, t2⟩ := Lib.hid sb |>.out
        go_wp2_with fail
        refine (BandMinutes_any s o x y to fr l a cap _ hs hl' (hA.out _ hB5)).mono ?_
        rintro e w6 ⟨rfl, hb6⟩
        rw [K4.out]
        have hB6 := Below.then hB5 hb6
        replace zb := zb.below hb6
        replace sb := sb.below hb6
        clear hb6 z0 z1 z2 z3 t0 t1 t2
        obtain ⟨z0, z1, z2, z3⟩ := Lib.hid zb |>.out
        obtain ⟨t0, t1, t2⟩ := Lib.hid sb |>.out
        go_wp2_with (go_at_call 11; refine (awake_any _).mono ?_; rintro e w9 ⟨rfl, hb9⟩)
        go_ret
        exact ⟨rfl, Below.then hB6 hb9⟩
      · clear hv
        go_wp2_with (go_at_call 11; refine (awake_any _).mono ?_; rintro e w9 ⟨rfl, hb9⟩)
        all_goals first
          | (go_ret; exact ⟨rfl, Below.then hB2 hb9⟩)
          | (exfalso; simp only [beq_eq_false_iff_ne, ne_eq] at *; omega)
    · have hn : (valZone s.data.toList o l != 0) = true := by simpa using hv
      clear hv
      go_wp2_with (go_at_call 11; refine (awake_any _).mono ?_; rintro e w9 ⟨rfl, hb9⟩)
      go_ret
      exact ⟨rfl, Below.then hB2 hb9⟩
end Go.Proofs.Ytdjhoelbnnljjaa
