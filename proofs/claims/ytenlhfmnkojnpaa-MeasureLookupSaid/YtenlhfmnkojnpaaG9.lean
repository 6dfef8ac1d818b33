/- merged texts: Lk Op0 Op1 -/
import Derived.Test.YtenlhfmnkojnpaaRows
import Derived.ProofKit
import Derived.OpenShut
import Derived.ShutString
import Derived.ChangeOld
import Derived.Below
import Derived.Deep.Slices
import Derived.Deep.Fields
import Derived.ChangeSame
import Derived.Lib.SmallJoins
import Derived.SizedLaws
import Derived.Test.YtenlhfmnkojnpaaG5
import Derived.Test.YtenlhfmnkojnpaaG8
import Derived.Test.YtenlhfmnkojnpaaG1
/- the law MeasureLookup -/
namespace Go.Proofs.Ytenlhfmnkojnpaa
open Go.RowKit Go.Sort
set_option linter.unusedVariables false
set_option linter.unusedSimpArgs false
set_option maxRecDepth 100000
set_option maxHeartbeats 400000 in
theorem attributeR_any (l : List (ByteArray × Int)) (s : ByteArray) (a : Option Addr) (cap : Nat) (w : World) (ha : AttrAt w a l) (hl : l.length ≤ 140737488355328) : Calls Try.prog 6 #[.slice a l.length cap, .string s] w fun e w' => e = .returned (.tuple #[.int .i64 (atF l s).1, .int .i64 (atF l s).2]) ∧ w = w' := by
  have HA := Lib.hid ha
  clear ha
  go_enter Try.func6, Try.ntmps6
  go_wp2_with fail
  refine (find_any l s a cap w HA.out hl).mono ?_
  rintro e w1 ⟨n, rfl, h, rfl⟩
  rcases h with ⟨h, hE⟩ | ⟨k, rfl, hk, hE⟩
  · have HE := Lib.hid hE
    clear hE
    go_wp2_with fail
    go_ret2
    exact ⟨ret_int2 (by rw [HE.out]) (by rw [HE.out]), rfl⟩
  · have HE := Lib.hid hE
    clear hE
    obtain ⟨b, off, rfl, hb, hcs⟩ := HA.out.cells (by omega)
    have c1 := (hcs k hk).2
    have hn : ¬ ((k : Int) < 0) := by omega
    clear hcs
    go_wp2_with fail
    go_ret2
    exact ⟨ret_int2 (by rw [HE.out]) (by rw [HE.out]), rfl⟩
set_option maxHeartbeats 800000 in
theorem lookup_walk (l : List (ByteArray × Int)) (s : ByteArray) (a : Option Addr) (cap : Nat) (w : World) (hl : l.length ≤ 140737488355328) (ha : AttrAt w a l) : Calls Try.prog 3 #[.slice a l.length cap, .string s] w fun e w' => e = .returned (.bool true) ∧ Below w.heap.size w w' := by
  have HA := Lib.hid ha
  clear ha
  by_cases h100 : 100 < l.length
  · go_enter Try.func3, Try.ntmps3
    go_wp2_with fail
    refine (awake_any w).mono ?_
    rintro e w1 ⟨rfl, hb⟩
    have HB := Lib.hid hb
    clear hb
    go_wp2_with fail
    go_ret
    exact ⟨rfl, HB.out⟩
  · go_enter Try.func3, Try.ntmps3
    go_wp2_with fail
    refine (attribute_any l s a cap w HA.out (by omega)).mono ?_
    rintro e w1 ⟨rfl, hb⟩
    have HB := Lib.hid hb
    clear hb
    go_wp2_with fail
    refine (attributeR_any l s a cap w1 (HA.out.below HB.out) (by omega)).mono ?_
    rintro e w2 ⟨rfl, rfl⟩
    obtain ⟨p, q⟩ := atF l s
    have e1 : (p == p) = true := by simp
    have e2 : (q == q) = true := by simp
    go_wp2_with fail
    refine (awake_any w1).mono ?_
    rintro e w3 ⟨rfl, hb⟩
    have HB3 := Lib.hid (Below.then HB.out hb)
    clear hb
    go_wp2_with fail
    go_ret
    exact ⟨rfl, HB3.out⟩
end Go.Proofs.Ytenlhfmnkojnpaa
/- opening arguments: reading data as representations -/
namespace Go.Proofs.Ytenlhfmnkojnpaa
open Go.ChangeShapes Go.WideShapes Go.ChangeAt Go.RowKit Go.Deep Go.Joins
open Go.ChangeMaps (open_string shut_string)
set_option linter.unusedVariables false
theorem own : ownKnob Try.prog.godebug = none := by kernel_rfl
theorem laidOut : laidOutB Try.prog = true := by kernel_rfl
/-- what is read at type t opens as r -/
def Opens {A : Type} (t : TypeId) (r : RT A) : Prop := ∀ {H : Type} {enc : TypeId × Value → H} {W : World} {fuel : Nat} {cs : List Value} {x : DataW H × List MemPlace}, DataW.trod enc Try.prog W 0 (fun _ => true) true fuel t cs = some x → (∀ n ∈ DataW.weights Try.prog t x.1, n ≤ reachBytes) → ∃ a : A, r.rep W cs a
theorem opens_int {t : TypeId} (ht : Try.prog.underlying t = some (.int .i64)) : Opens t RT.int := by
  intro H enc W fuel cs x h _
  obtain ⟨n, e, _, hw⟩ := DataW.trod_int ht h
  exact ⟨n, e, hw⟩
theorem opens_bool {t : TypeId} (ht : Try.prog.underlying t = some .bool) : Opens t RT.bool := by
  intro H enc W fuel cs x h _
  obtain ⟨b, e, _⟩ := DataW.trod_bool ht h
  exact ⟨b, e⟩
theorem opens_str {t : TypeId} (ht : Try.prog.underlying t = some .string) : Opens t RT.str := by
  intro H enc W fuel cs x h hw
  obtain ⟨s, e, rfl, _⟩ := DataW.trod_string ht h
  refine ⟨s, e, ?_⟩
  have := hw s.data.toList.length (by simp [DataW.weights])
  have e2 : s.data.toList.length = s.size := by simp
  have := reachBytes_lt
  omega
theorem weights_all {H : Type} {e : TypeId} : ∀ {l : List (DataW H)} {d : DataW H}, d ∈ l → ∀ n ∈ d.weights Try.prog e, n ∈ DataW.weightsAll Try.prog e l
  | x :: l, d, hd, n, hn => by
    simp only [DataW.weightsAll, List.mem_append]
    rcases List.mem_cons.1 hd with rfl | hd
    · exact .inl hn
    · exact .inr (weights_all hd n hn)
theorem choose_list {A : Type} (n : Nat) (R : Nat → A → Prop) (h : ∀ i, i < n → ∃ x, R i x) : ∃ l : List A, l.length = n ∧ ∀ i (hi : i < l.length), R i l[i] := by
  induction n with
  | zero => exact ⟨[], rfl, fun i hi => absurd hi (Nat.not_lt_zero _)⟩
  | succ n ih =>
    obtain ⟨l, hl, hr⟩ := ih (fun i hi => h i (by omega))
    obtain ⟨x, hx⟩ := h n (by omega)
    refine ⟨l ++ [x], by simp [hl], fun i hi => ?_⟩
    by_cases e : i = n
    · subst e
      rw [List.getElem_append_right (by omega)]
      simpa using hx
    · have hi' : i < l.length := by simp at hi; omega
      rw [List.getElem_append_left hi']; exact hr i hi'
theorem opens_slice {A : Type} {r : RT A} {t e : TypeId} (ht : Try.prog.underlying t = some (.slice e)) (hc : Try.prog.cellsOf e = r.n) (hn : 0 < r.n) (hb : 1 ≤ Try.prog.bytesOf e) (h : Opens e r) : Opens t (RT.sl r) := by
  intro H enc W fuel cs x hx hw
  rcases open_slice ht hx with ⟨e1, _⟩ | ⟨a, len, cap, m, n, D, Pl, e1, _, hl, _, hm, hxx, hf⟩
  · exact ⟨[], none, 0, e1, Nat.le_refl _, by omega, .inl rfl⟩
  · simp only [if_true] at hm
    rw [hm] at hf hxx
    clear hm
    subst hxx
    have hw1 := hw ((((List.range len).map D).length + ((List.range (cap - len)).map fun j => D (len + j)).length) * Try.prog.bytesOf e) (by simp only [DataW.weights, ht]; exact List.mem_cons_self ..)
    have hlen : ((List.range len).map D).length + ((List.range (cap - len)).map fun j => D (len + j)).length = cap := by simp; omega
    rw [hlen] at hw1
    have hcap : cap ≤ 140737488355328 := by
      have := reachBytes_lt
      have h1 : cap * 1 ≤ cap * Try.prog.bytesOf e := Nat.mul_le_mul_left _ hb
      omega
    have hex : ∀ i, i < len → ∃ y : A, ∃ cs', W.cells? 0 (a.add (i * Try.prog.cellsOf e)) (Try.prog.cellsOf e) = some cs' ∧ r.rep W cs' y := by
      intro i hi
      obtain ⟨cs', h1, h2⟩ := hf i (by omega)
      obtain ⟨y, hy⟩ := h h2 (fun k hk => hw k (by
        simp only [DataW.weights, ht]
        refine List.mem_cons_of_mem _ (List.mem_append_left _ ?_)
        exact weights_all (List.mem_map.2 ⟨i, List.mem_range.2 hi, rfl⟩) k hk))
      exact ⟨y, cs', h1, hy⟩
    obtain ⟨l, hll, hlr⟩ := choose_list len (fun i y => ∃ cs', W.cells? 0 (a.add (i * Try.prog.cellsOf e)) (Try.prog.cellsOf e) = some cs' ∧ r.rep W cs' y) hex
    subst hll
    refine ⟨l, some a, cap, e1, hl, hcap, ?_⟩
    by_cases e0 : l.length = 0
    · exact .inl (List.length_eq_zero_iff.1 e0)
    · have hcell : ∀ i (hi : i < l.length), ∃ cs', (∀ j (hj : j < cs'.length), W.cell? (a.add (i * r.n + j)) = some cs'[j]) ∧ r.rep W cs' l[i] := by
        intro i hi
        obtain ⟨cs', h1, h2⟩ := hlr i hi
        rw [hc] at h1
        obtain ⟨_, hlen', hat⟩ := World.cells?_some h1
        refine ⟨cs', fun j hj => ?_, h2⟩
        have g := hat j (by omega)
        rw [add_add] at g
        rw [g]; exact List.getElem?_eq_getElem hj
      obtain ⟨b, off, spot⟩ := a
      obtain ⟨cs0, h00, hr0⟩ := hcell 0 (by omega)
      have hl0 : 0 < cs0.length := by rw [r.len hr0]; exact hn
      have g0 := h00 0 hl0
      have hspot : spot = none := by simpa [Addr.add] using World.cell?_spot g0
      subst hspot
      have hblt : b < W.heap.size := by simpa [Addr.add] using block_lt_of_cell g0
      refine .inr ⟨b, off, rfl, hblt, fun i hi => ?_⟩
      obtain ⟨cs', h1, h2⟩ := hcell i hi
      refine ⟨cs', fun j hj => ?_, h2⟩
      have g := h1 j hj
      rw [Addr.add_lit] at g
      rw [Nat.add_assoc]
      exact g
/-- the fields of a struct -/
theorem trod_fields {H : Type} {enc : TypeId × Value → H} {W : World} {t : TypeId} {fs : Array Field} {fuel : Nat} {cs : List Value} {x : DataW H × List MemPlace} (ht : Try.prog.underlying t = some (.struct fs)) (h : DataW.trod enc Try.prog W 0 (fun _ => true) true fuel t cs = some x) (hw : ∀ n ∈ DataW.weights Try.prog t x.1, n ≤ reachBytes) :
    cs.length = Try.prog.cellsOf t ∧ ∀ (i : Nat) (f : Field), fs[i]? = some f → ∃ (n : Nat) (y : DataW H × List MemPlace), DataW.trod enc Try.prog W 0 (fun _ => true) true n f.type ((cs.drop f.offset).take (Try.prog.cellsOf f.type)) = some y ∧ ∀ k ∈ DataW.weights Try.prog f.type y.1, k ≤ reachBytes := by
  obtain ⟨xs, n, _, rfl, hl, hlen, hf⟩ := DataW.trod_struct ht h
  refine ⟨hl, fun i f hi => ?_⟩
  have h1 := hf i f hi
  have hif : i < fs.size := (Array.getElem?_eq_some_iff.1 hi).1
  have hix : i < xs.length := by omega
  rw [List.getElem?_eq_getElem hix] at h1
  refine ⟨n, xs[i], h1, fun k hk => hw k ?_⟩
  simp only [DataW.weights, ht]
  refine DataW.weights_mem_each (j := i) (t := f.type) (d := xs[i].1) ?_ ?_ k hk
  · rw [List.getElem?_map, Array.getElem?_toList, hi]; rfl
  · rw [List.getElem?_map, List.getElem?_eq_getElem hix]; rfl
/-- a struct of two parts -/
theorem opens_two {A B : Type} {r : RT A} {q : RT B} {t : TypeId} {f0 f1 : Field} (ht : Try.prog.underlying t = some (.struct #[f0, f1])) (h0 : f0.offset = 0) (h1 : f1.offset = r.n) (k0 : Try.prog.cellsOf f0.type = r.n) (k1 : Try.prog.cellsOf f1.type = q.n) (kt : Try.prog.cellsOf t = r.n + q.n) (g0 : Opens f0.type r) (g1 : Opens f1.type q) : Opens t (RT.prod r q) := by
  intro H enc W fuel cs x h hw
  obtain ⟨hl, hf⟩ := trod_fields ht h hw
  obtain ⟨n0, y0, t0, w0⟩ := hf 0 f0 rfl
  obtain ⟨n1, y1, t1, w1⟩ := hf 1 f1 rfl
  obtain ⟨a, ha⟩ := g0 t0 w0
  obtain ⟨b, hb⟩ := g1 t1 w1
  rw [h0, k0, List.drop_zero] at ha
  rw [h1, k1] at hb
  rw [List.take_of_length_le (by rw [List.length_drop]; omega)] at hb
  exact ⟨(a, b), cs.take r.n, cs.drop r.n, (List.take_append_drop _ _).symm, ha, hb⟩
end Go.Proofs.Ytenlhfmnkojnpaa
/- opening attributes -/
namespace Go.Proofs.Ytenlhfmnkojnpaa
open Go.ChangeShapes Go.WideShapes Go.ChangeAt Go.RowKit Go.Deep Go.Joins
set_option linter.unusedVariables false
set_option maxRecDepth 100000
theorem opens_attrs : Opens 22 (RT.sl (RT.prod RT.str RT.int)) :=
  opens_slice Try.underlying22 (by kernel_rfl) (by decide) (Nat.le_of_ble_eq_true (by kernel_rfl)) (opens_two Try.underlying50 rfl rfl (by kernel_rfl) (by kernel_rfl) (by kernel_rfl) (opens_str Try.underlying9) (opens_int Try.underlying3))
theorem attr_of {w : World} {a : Option Addr} {l : List (ByteArray × Int)} (h : SlAt (RT.prod RT.str RT.int) w a l) : AttrAt w a l := by
  rcases h with h | ⟨b, off, ha, hb, hc⟩
  · exact .inl h
  · refine .inr ⟨b, off, ha, hb, fun i hi => ?_⟩
    obtain ⟨cs, h1, c, d, rfl, ⟨rfl, _⟩, rfl, _⟩ := hc i hi
    have e : arAt l i = l[i] := by rw [arAt, List.getD_eq_getElem?_getD, List.getElem?_eq_getElem hi]; rfl
    rw [e]
    have g0 := h1 0 (by simp)
    have g1 := h1 1 (by simp)
    exact ⟨by simpa [RT.prod, RT.int, RT.str] using g0, by simpa [RT.prod, RT.int, RT.str] using g1⟩
theorem open_attrs {H : Type} {enc : TypeId × Value → H} {W : World} {r : Reach} {b0 : Nat} {v : Value} {d : DataW H} {p : List MemPlace} (hv : Value.okWide Try.prog W r b0 22 v) (h : DataW.Trod enc Try.prog W 0 (fun _ => true) true 22 v d p) (hw : ∀ n ∈ DataW.weights Try.prog 22 d, n ≤ reachBytes) :
    ∃ (l : List (ByteArray × Int)) (a : Option Addr) (cap : Nat), v = .slice a l.length cap ∧ l.length ≤ 140737488355328 ∧ AttrAt W a l := by
  obtain ⟨sa, sn, sc, rfl⟩ := okWide_slice Try.underlying22 hv
  obtain ⟨fu, hf⟩ := h
  obtain ⟨l, a, cap, e, h1, h2, h3⟩ := opens_attrs hf hw
  have e' : [Value.slice sa sn sc] = [.slice a l.length cap] := e
  cases e'
  exact ⟨l, _, _, rfl, Nat.le_trans h1 h2, attr_of h3⟩
end Go.Proofs.Ytenlhfmnkojnpaa
