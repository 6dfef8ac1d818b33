/- merged texts: St5 St6 St7 St8 St9 St10 St11 Nw0 Dv0 -/
import Derived.Test.YtenlhfmnkojnpaaG5
/- contract of the setting: CreditOf -/
namespace Go.Proofs.Ytenlhfmnkojnpaa
open Go.RowKit Go.Sort
set_option linter.unusedVariables false
set_option linter.unusedSimpArgs false
set_option maxRecDepth 100000
/-- the credit of a duty with the values q -/
def credV (c : ConM) (q : List Int) : Int := if (creditOf c).length = 0 then iAt q 3 else fval q (gAt (creditOf c) 0)
end Go.Proofs.Ytenlhfmnkojnpaa
/- contracts: slices.Clone at []int, limited -/
namespace Go.Proofs.Ytenlhfmnkojnpaa
open Go.RowKit Go.Sort
set_option linter.unusedVariables false
set_option linter.unusedSimpArgs false
set_option maxRecDepth 100000
/-- values as expressions see them -/
def limV (k : Int) (q : List Int) : List Int := if k = 3 then q.set 6 (clampI (iAt q 6)) else q
theorem limV_len (k : Int) (q : List Int) : (limV k q).length = q.length := by unfold limV; split <;> simp
theorem own_ints {w : World} {B : Nat} {v : Value} {q : List Int} (h : w.ownsRow B 3 1 v q.length (q.map (Value.int .i64))) (hv : v ≠ .slice none 0 0) : ∃ g cap cur, v = .slice (some ⟨g, 0, none⟩) q.length cap ∧ B ≤ g ∧ w.heap[g]? = some (.cells cur 3 (0, 0)) ∧ q.length ≤ cur.size ∧ ∀ i, i < q.length → cur[i]? = some (.int .i64 (iAt q i)) := by
  rcases h.2 with ⟨e0, _⟩ | ⟨g, cap, cur, rfl, hb, hg, hn, hm, hs, ht⟩
  · exact absurd e0 hv
  · refine ⟨g, cap, cur, rfl, hb, hg, by omega, fun i hi => ?_⟩
    have e1 : (cur.toList.take (q.length * 1))[i]? = (q.map (Value.int .i64))[i]? := by rw [ht]
    rw [List.getElem?_take_of_lt (by omega)] at e1
    rw [← Array.getElem?_toList, e1]
    simp [iAt, List.getD, List.getElem?_eq_getElem hi]
theorem iAt_set {q : List Int} {k i : Nat} {x : Int} (h : k < q.length) : iAt (q.set k x) i = if i = k then x else iAt q i := by
  unfold iAt
  rw [List.getD_eq_getElem?_getD, List.getElem?_set, List.getD_eq_getElem?_getD]
  by_cases e : i = k
  · subst e; simp [h]
  · rw [if_neg (fun h => e h.symm), if_neg e]
end Go.Proofs.Ytenlhfmnkojnpaa
/- contract of the setting: CostOf -/
namespace Go.Proofs.Ytenlhfmnkojnpaa
open Go.RowKit Go.Sort
set_option linter.unusedVariables false
set_option linter.unusedSimpArgs false
set_option maxRecDepth 100000
def sumF (q : List Int) (l : List FormM) : Nat → Int
  | 0 => 0
  | j + 1 => sumF q l j + fval q (gAt l j)
theorem sumF_bd {q : List Int} {l : List FormM} (h : ∀ i, i < l.length → inR (fval q (gAt l i))) : ∀ k : Nat, k ≤ l.length → -(1099511627776 * (k : Int)) ≤ sumF q l k ∧ sumF q l k ≤ 1099511627776 * (k : Int)
  | 0, _ => by simp [sumF]
  | k + 1, hk => by
    obtain ⟨a, b⟩ := sumF_bd h k (by omega)
    obtain ⟨c, d⟩ := h k (by omega)
    rw [sumF]
    omega
/-- the sum of the costs of a scope -/
def costV (c : ConM) (k : Nat) (q : List Int) : Int := sumF (limV k q) (costsOf c k) (costsOf c k).length
end Go.Proofs.Ytenlhfmnkojnpaa
/- contract of the setting: Broken -/
namespace Go.Proofs.Ytenlhfmnkojnpaa
open Go.RowKit Go.Sort
set_option linter.unusedVariables false
set_option linter.unusedSimpArgs false
set_option maxRecDepth 100000
def brkF (q : List Int) (l : List (ByteArray × FormM)) : Nat → List ByteArray
  | 0 => []
  | j + 1 => if fval q (ruAt l j).2 = 0 then brkF q l j ++ [(ruAt l j).1] else brkF q l j
theorem brkF_hit {p : List Int} {l : List (ByteArray × FormM)} {k : Nat} (h : fval p (ruAt l k).2 = 0) : brkF p l (k + 1) = brkF p l k ++ [(ruAt l k).1] := if_pos h
theorem brkF_go {p : List Int} {l : List (ByteArray × FormM)} {k : Nat} (h : ¬ fval p (ruAt l k).2 = 0) : brkF p l (k + 1) = brkF p l k := if_neg h
theorem brkF_len (p : List Int) (l : List (ByteArray × FormM)) : ∀ k, (brkF p l k).length ≤ k
  | 0 => Nat.le_refl _
  | k + 1 => by
    have := brkF_len p l k
    rw [brkF]; split
    · rw [List.length_append]; simp; omega
    · omega
/-- the names of the broken rules of a scope -/
def brkV (c : ConM) (k : Nat) (q : List Int) : List ByteArray := brkF (limV k q) (rulesOf c k) (rulesOf c k).length
theorem rules_cells {w : World} {a : Option Addr} {l : List (ByteArray × FormM)} (h : RulesRow w a l) (hl : 0 < l.length) : ∃ b off, a = some ⟨b, off, none⟩ ∧ b < w.heap.size ∧ ∀ i, i < l.length → w.cell? ⟨b, off + i * 4, none⟩ = some (.string (ruAt l i).1) ∧ (ruAt l i).1.size ≤ 140737488355328 ∧ FormsAt noX w b (off + i * 4 + 1) [(ruAt l i).2] := by
  rcases h with rfl | h
  · simp at hl
  · exact h
theorem own_monoB {w : World} {B B' : Nat} {e : TypeId} {s : Nat} {v : Value} {n : Nat} {xs : List Value} (h : w.ownsRow B e s v n xs) (hb : B' ≤ B) : w.ownsRow B' e s v n xs := by
  refine ⟨h.1, ?_⟩
  rcases h.2 with h | ⟨g, cap, cur, h1, h2, h3⟩
  · exact .inl h
  · exact .inr ⟨g, cap, cur, h1, Nat.le_trans hb h2, h3⟩
end Go.Proofs.Ytenlhfmnkojnpaa
/- contract: violations -/
namespace Go.Proofs.Ytenlhfmnkojnpaa
open Go.RowKit Go.Sort
set_option linter.unusedVariables false
set_option linter.unusedSimpArgs false
set_option maxRecDepth 100000
/-- blocks of other element types than e stay -/
def Keeps (e : TypeId) (w w' : World) : Prop := w.heap.size ≤ w'.heap.size ∧ ∀ (b : Nat) (o : Obj), (∀ cs f, o ≠ Obj.cells cs e f) → w.heap[b]? = some o → w'.heap[b]? = some o
theorem Keeps.refl (e : TypeId) (w : World) : Keeps e w w := ⟨Nat.le_refl _, fun _ _ _ h => h⟩
theorem Keeps.append {e : TypeId} {B size n : Nat} {w wr w' : World} {v : Value} {xs : List Value} {o : Obj} (h : Keeps e w wr) (hO : wr.ownsRow B e size v n xs) (hg : (wr.alloc o).grownBy w' v.ownBlock) : Keeps e w w' := by
  have hs : wr.heap.size ≤ w'.heap.size := Nat.le_trans (by simp) hg.size
  refine ⟨Nat.le_trans h.1 hs, fun b x hx hb => ?_⟩
  have h1 := h.2 b x hx hb
  have hlt := lt_of_block h1
  rw [hg.block b (by simp; omega) ?_]
  · exact ((World.grownBy_alloc wr o none).block b hlt (by simp)).trans h1
  · intro e1
    rcases hO.2 with ⟨rfl, _⟩ | ⟨g, cap, cur, rfl, _, hg2, _⟩
    · simp [Value.ownBlock] at e1
    · simp [Value.ownBlock] at e1
      subst e1
      rw [hg2] at h1
      exact hx cur (0, 0) (Option.some.inj h1).symm
def vCells (x : Int × Int × ByteArray) : List Value := [.int .i64 x.1, .int .i64 x.2.1, .string x.2.2]
def vRow (V : List (Int × Int × ByteArray)) : List Value := V.flatMap vCells
def vTake (sc ix : Int) (N : List ByteArray) (k : Nat) : List (Int × Int × ByteArray) := (N.take k).map fun s => (sc, ix, s)
theorem vTake_succ {sc ix : Int} {N : List ByteArray} {k : Nat} (h : k < N.length) : vTake sc ix N (k + 1) = vTake sc ix N k ++ [(sc, ix, sAt N k)] := by
  unfold vTake
  rw [List.take_succ_eq_append_getElem h, List.map_append, sAt, List.getD_eq_getElem?_getD, List.getElem?_eq_getElem h]; rfl
theorem vTake_all (sc ix : Int) (N : List ByteArray) : vTake sc ix N N.length = N.map fun s => (sc, ix, s) := by rw [vTake, List.take_length]
theorem vTake_len {sc ix : Int} {N : List ByteArray} {k : Nat} (h : k ≤ N.length) : (vTake sc ix N k).length = k := by simp [vTake]; omega
/-- a row of strings at a block's head -/
def NamesAt (w : World) (a : Option Addr) (N : List ByteArray) : Prop := N = [] ∨ ∃ b cur f, a = some ⟨b, 0, none⟩ ∧ w.heap[b]? = some (.cells cur 9 f) ∧ ∀ i, i < N.length → cur[i]? = some (.string (sAt N i))
end Go.Proofs.Ytenlhfmnkojnpaa
/- contract: Attrs -/
namespace Go.Proofs.Ytenlhfmnkojnpaa
open Go.RowKit Go.Sort
set_option linter.unusedVariables false
set_option linter.unusedSimpArgs false
set_option maxRecDepth 100000
theorem attributes_new (k : Nat) (h0 : 0 < k) (hk : k < 4) (w : World) : Calls Try.prog 17 #[.int .i64 k] w fun e w' => ∃ b off cap, e = .returned (.slice (some ⟨b, off, none⟩) (attrNames k).length cap) ∧ w.heap.size ≤ b ∧ b < w'.heap.size ∧ StrCells w' b off (attrNames k) ∧ Below w.heap.size w w' := by
  obtain rfl | rfl | rfl : k = 1 ∨ k = 2 ∨ k = 3 := by omega
  · refine (attributes_duty w).mono ?_
    rintro e w' ⟨⟨cap, rfl⟩, h1, h2, h3⟩
    exact ⟨_, 0, cap, rfl, Nat.le_refl _, h1, h2, h3⟩
  · refine (attributes_rest w).mono ?_
    rintro e w' ⟨v, rfl, h1, h2⟩
    have hb := fun j hj => own_base h1 j hj
    obtain ⟨a, cap, rfl, h3, _⟩ := StrAt.of_own (l := restNames) h1 (by decide)
    obtain ⟨b, off, rfl, h4, h5⟩ := h3.cells (by decide)
    exact ⟨b, off, cap, rfl, hb b rfl, h4, h5, h2⟩
  · refine (attributes_pair w).mono ?_
    rintro e w' ⟨⟨cap, rfl⟩, h1, h2, h3⟩
    exact ⟨_, 0, cap, rfl, Nat.le_refl _, h1, h2, h3⟩
theorem info_attr : (Try.prog.info? 50).map (fun i => (i.zero, i.size, i.bytes)) = some (some (.agg #[.string ByteArray.empty, .int .i64 0]), 2, 24) := by kernel_rfl
theorem make_attrs (n : Nat) (hn : n ≤ 200) (w : World) : (Instr.makeSlice 22 (.int .i64 (n : Int)) (.int .i64 (n : Int))).run Try.prog w = .ok (.slice (some ⟨w.heap.size, 0, none⟩) n n) (w.alloc (.cells (madeCells #[.string ByteArray.empty, .int .i64 0] (n * 2)) 50)) := by
  obtain ⟨i, hi, hz, hs, hb⟩ := info_parts info_attr
  have hr := run_make (P := Try.prog) w 22 50 i (.agg #[.string ByteArray.empty, .int .i64 0]) Try.underlying22 hi hz .i64 .i64 n n (by omega) (Int.le_refl _) (by rw [hb]; omega) (by omega)
  simp only [Int.toNat_natCast, hs] at hr
  exact hr
theorem take_set2 {C : Array Value} {cs : List Value} {m : Nat} (h : C.toList.take m = cs) (hm : m + 2 ≤ C.size) (v0 v1 : Value) : ((C.setIfInBounds m v0).setIfInBounds (m + 1) v1).toList.take (m + 2) = cs ++ [v0, v1] := by
  subst h
  obtain ⟨L⟩ := C
  simp only [List.setIfInBounds_toArray, List.size_toArray] at hm ⊢
  have hd : L = L.take m ++ L.drop m := (List.take_append_drop m L).symm
  obtain ⟨x, y, T, hT⟩ : ∃ x y T, L.drop m = x :: y :: T := by
    have hl : 2 ≤ (L.drop m).length := by simp; omega
    match hh : L.drop m, hl with
    | x :: y :: T, _ => exact ⟨x, y, T, rfl⟩
  have hlen : (L.take m).length = m := by simp; omega
  generalize L.take m = A at *
  rw [hd, hT]
  subst hlen
  simp [List.set_append, List.take_append]
  exact List.take_of_length_le (by omega)
/-- the cells of the first k attributes -/
def atCells (N : List ByteArray) (q : List Int) : Nat → List Value
  | 0 => []
  | k + 1 => atCells N q k ++ [.string (sAt N k), .int .i64 (iAt q k)]
set_option maxHeartbeats 1600000 in
theorem attrs_any (k : Nat) (h0 : 0 < k) (hk : k < 4) (q : List Int) (a : Option Addr) (cap : Nat) (w : World) (hq : q.length = (attrNames k).length) (hI : IntsAt w a q) : Calls Try.prog 13 #[.int .i64 k, .slice a q.length cap] w fun e w' => ∃ C, e = .returned (.slice (some ⟨w.heap.size, 0, none⟩) q.length q.length) ∧ w'.heap[w.heap.size]? = some (.cells C 50 (0, 0)) ∧ C.size = q.length * 2 ∧ C.toList.take (q.length * 2) = atCells (attrNames k) q q.length ∧ Below w.heap.size w w' := by
  have hn := attr_len k
  have HI := Lib.hid hI
  have mk := fun w => make_attrs q.length (by omega) w
  clear hI
  obtain ⟨N, hN⟩ : ∃ N, N = attrNames k := ⟨_, rfl⟩
  have HC := Lib.hid (fun w => attributes_new k h0 hk w)
  rw [← hN] at HC hn hq
  rw [← hN]
  clear hN
  have hqn : q.length ≤ 25 := by omega
  have HQ := Lib.hid hq
  clear hq
  have HBn := Lib.hid (below_new w (.cells (madeCells #[.string ByteArray.empty, .int .i64 0] (q.length * 2)) 50))
  go_enter Try.func13, Try.ntmps13
  go_wp2_with fail
  refine (HC.out _).mono ?_
  rintro e w1 ⟨nb, noff, ncap, rfl, hnb, hnb1, hnc, hb1⟩
  have HBl := Lib.hid hb1
  have hsz1 : (w.alloc (.cells (madeCells #[.string ByteArray.empty, .int .i64 0] (q.length * 2)) 50)).heap.size = w.heap.size + 1 := by simp
  have hblk0 : w1.heap[w.heap.size]? = some (.cells (madeCells #[.string ByteArray.empty, .int .i64 0] (q.length * 2)) 50 (0, 0)) := (hb1.block _ (by rw [hsz1]; omega)).trans (by show (w.heap.push _)[w.heap.size]? = _; simp)
  rw [hsz1] at hnb
  have HB1 := Lib.hid (Below.then HBn.out hb1)
  have HNC := Lib.hid hnc
  have hms : (madeCells #[.string ByteArray.empty, .int .i64 0] (q.length * 2)).size = q.length * 2 := by simp [madeCells]
  obtain ⟨C0, hC0⟩ : ∃ C0, C0 = madeCells #[.string ByteArray.empty, .int .i64 0] (q.length * 2) := ⟨_, rfl⟩
  rw [← hC0] at hblk0 hms
  have Hb0 := Lib.hid hblk0
  have Hms := Lib.hid hms
  clear hb1 hnc HBl hsz1 hblk0 hms hC0 HBn mk HC
  go_wp2_with fail
  go_loopw [14] (fun i wr => ∃ (j : Nat) (C : Array Value), j ≤ N.length ∧ i = .int .i64 j ∧ Hid (wr.heap[w.heap.size]? = some (.cells C 50 (0, 0))) ∧ Hid (C.size = q.length * 2 ∧ C.toList.take (j * 2) = atCells N q j) ∧ Hid (StrCells wr nb noff N) ∧ nb < wr.heap.size ∧ Hid (Below w.heap.size w wr)) (fun i _ => N.length - (intOf i).toNat)
  case atStart => exact ⟨0, C0, Nat.zero_le _, rfl, Hb0, Lib.hid ⟨Hms.out, by simp [atCells]⟩, HNC, hnb1, HB1⟩
  clear Hb0 Hms HNC hnb1 HB1
  case round =>
    obtain ⟨j, C, hj, rfl, hblk, hC, hNC, hnb1, hB⟩ := hrel
    by_cases hlt : j < N.length
    · have c0 := hNC.out j hlt
      have hjq : j < q.length := by have := HQ.out; omega
      obtain ⟨b, off, rfl, hb, hcs⟩ := (HI.out.below hB.out).cells (by omega)
      have c1 := hcs j hjq
      have hblk' := hblk.out
      have hg := lt_of_block hblk'
      have hCs : j * 2 + 2 ≤ C.size := by have := hC.out.1; omega
      have y0 := cellW (j := j * 2) hblk' (Array.getElem?_eq_getElem (by omega))
      have y1 := cellW (j := j * 2 + 1) hblk' (Array.getElem?_eq_getElem (by omega))
      have u0 := freeW (j := j * 2) hblk'
      have u1 := freeW (j := j * 2 + 1) hblk'
      clear hcs
      go_wp2_with fail
      have Q := Lib.hid (block_setCell (i := j * 2 + 1) (u := .int .i64 (iAt q j)) (block_setCell (i := j * 2) (u := .string (sAt N j)) hblk'))
      have G := Lib.grownBy_setB (Lib.grownBy_setCell wr w.heap.size (j * 2) (.string (sAt N j))) (j * 2 + 1) (.int .i64 (iAt q j))
      have HB2 := Lib.hid ((hB.out.setCell (p := ⟨w.heap.size, j * 2, none⟩) (Nat.le_refl _) (.string (sAt N j))).setCell (p := ⟨w.heap.size, j * 2 + 1, none⟩) (Nat.le_refl _) (.int .i64 (iAt q j)))
      have HN2 := Lib.hid (hNC.out.kept hnb1 G (by omega))
      have hs2 := Nat.lt_of_lt_of_le hnb1 G.size
      have HC2 := Lib.hid (show ((C.setIfInBounds (j * 2) (.string (sAt N j))).setIfInBounds (j * 2 + 1) (.int .i64 (iAt q j))).size = q.length * 2 ∧ ((C.setIfInBounds (j * 2) (.string (sAt N j))).setIfInBounds (j * 2 + 1) (.int .i64 (iAt q j))).toList.take ((j + 1) * 2) = atCells N q (j + 1) from ⟨by simpa using hC.out.1, by rw [show (j + 1) * 2 = j * 2 + 2 by omega]; exact take_set2 hC.out.2 hCs _ _⟩)
      clear y0 y1 u0 u1 c0 c1 hblk' G hblk hC hNC hB
      go_roundw
      case rel => first | exact ⟨j + 1, _, by omega, by go_num, Q, HC2, HN2, hs2, HB2⟩ | ((repeat apply Exists.intro); exact ⟨⟨j + 1, _, by omega, by go_num, Q, HC2, HN2, hs2, HB2⟩, rfl⟩)
      case measure => simp [intOf]; omega
    · obtain rfl : j = N.length := by omega
      go_wp2_with fail
      go_ret
      exact ⟨C, rfl, hblk.out, hC.out.1, by rw [HQ.out]; exact hC.out.2, hB.out⟩
end Go.Proofs.Ytenlhfmnkojnpaa
/- contract: uses -/
namespace Go.Proofs.Ytenlhfmnkojnpaa
open Go.RowKit Go.Sort
set_option linter.unusedVariables false
set_option linter.unusedSimpArgs false
set_option maxRecDepth 100000
mutual
/-- does a formula have the attribute p? -/
def usesB (p : Int) : FormM → Bool
  | .mk o n l => if o = 6 then n == p else usesL p l
def usesL (p : Int) : List FormM → Bool
  | [] => false
  | x :: l => usesB p x || usesL p l
end
theorem usesL_step {p : Int} {l : List FormM} {k : Nat} (h : k < l.length) : usesL p (l.drop k) = (usesB p (gAt l k) || usesL p (l.drop (k + 1))) := by rw [g_drop l k h, usesL]
theorem usesL_end (p : Int) (l : List FormM) : usesL p (l.drop l.length) = false := by rw [List.drop_length, usesL]
def UsesS (p : Int) (X : Nat → Prop) (f : FormM) : Prop := ∀ (b off : Nat) (w : World), FormsAt X w b off [f] → Calls Try.prog 25 #[.pointer (some ⟨b, off, none⟩), .int .i64 p] w fun e w' => e = .returned (.bool (usesB p f)) ∧ w = w'
set_option maxHeartbeats 1600000 in
theorem uses_step (p : Int) (X : Nat → Prop) (o n : Int) (l : List FormM) (IH : ∀ k, k < l.length → UsesS p X (gAt l k)) : UsesS p X (.mk o n l) := by
  intro b off w hF
  obtain ⟨a, cap, hb, d0, d1, d2, hl, hA⟩ := hF.one
  simp only [FormM.op, FormM.num, FormM.args] at d0 d1 d2 hl hA
  have HI := Lib.hid IH
  have HA := Lib.hid hA
  clear hF hA IH
  by_cases h6 : o = 6
  · have hr := Lib.hid (show usesB p (.mk o n l) = (n == p) by rw [usesB, if_pos h6])
    subst h6
    go_enter Try.func25, Try.ntmps25
    go_wp2_with fail
    go_ret
    exact ⟨ret_boolE hr.out.symm, rfl⟩
  · have hr := Lib.hid (show usesB p (.mk o n l) = usesL p (l.drop 0) by rw [usesB, if_neg h6]; rfl)
    have h6b : (o == 6) = false := by simpa using h6
    go_enter Try.func25, Try.ntmps25
    go_wp2_with fail
    go_loop [22] (fun i => ∃ k : Nat, k ≤ l.length ∧ i = .int .i64 k ∧ Hid (usesL p (l.drop 0) = usesL p (l.drop k))) (fun i => l.length - (intOf i).toNat)
    case atStart => exact ⟨0, Nat.zero_le _, rfl, Lib.hid rfl⟩
    case round =>
      obtain ⟨k, hk, rfl, hval⟩ := hrel
      by_cases hlt : k < l.length
      · obtain ⟨fb, foff, rfl, hfb, hfc⟩ := HA.out.cells (by omega)
        have F0 := Lib.hid (hfc.at k hlt)
        clear hfc
        have hs := usesL_step (p := p) hlt
        have Hs := Lib.hid (hval.out.trans hs)
        clear hs
        go_wp2_with fail
        refine (HI.out k hlt fb (foff + k * 3) w F0.out).mono ?_
        rintro e w1 ⟨rfl, rfl⟩
        cases e0 : usesB p (gAt l k)
        · have hst := Lib.hid (show usesL p (l.drop 0) = usesL p (l.drop (k + 1)) from Hs.out.trans (by rw [e0]; rfl))
          go_wp2_with fail
          go_round
          case rel => exact ⟨k + 1, by omega, by go_num, hst⟩
          case measure => simp [intOf]; omega
        · have hst := Lib.hid (show usesL p (l.drop 0) = true from Hs.out.trans (by rw [e0]; rfl))
          go_wp2_with fail
          go_ret
          exact ⟨ret_boolE (hr.out.trans hst.out).symm, rfl⟩
      · obtain rfl : k = l.length := by omega
        have hst := Lib.hid (hval.out.trans (usesL_end p l))
        go_wp2_with fail
        go_ret
        exact ⟨ret_boolE (hr.out.trans hst.out).symm, rfl⟩
theorem uses_any (p : Int) (X : Nat → Prop) (f : FormM) : UsesS p X f := by
  obtain ⟨m, hm⟩ : ∃ m, m = SizeOf.sizeOf f := ⟨_, rfl⟩
  induction m using Nat.strongRecOn generalizing f with
  | _ m ih =>
    subst hm
    obtain ⟨o, n, l⟩ := f
    exact uses_step p X o n l fun k hk => ih _ (size_garg hk) _ rfl
end Go.Proofs.Ytenlhfmnkojnpaa
/- maps of zones, in plain terms -/
namespace Go.Proofs.Ytenlhfmnkojnpaa
open Go.RowKit Go.Sort
set_option linter.unusedVariables false
set_option linter.unusedSimpArgs false
set_option maxRecDepth 100000
theorem zoneN_snoc (zs : List ZoneM) (z : ZoneM) (s : ByteArray) : zoneN (zs ++ [z]) s = if z.name = s then some z else zoneN zs s := by
  unfold zoneN
  rw [List.reverse_append]
  by_cases h : z.name = s <;> simp [h]
theorem airN_snoc (l : List AirM) (z : AirM) (s : ByteArray) : airN (l ++ [z]) s = if z.code = s then some z else airN l s := by
  unfold airN
  rw [List.reverse_append]
  by_cases h : z.code = s <;> simp [h]
def ZMapOf (w0 : World) (M : List (Value × Value)) (zs : List ZoneM) : Prop := ∀ s, (zoneN zs s = none → mget M (.string s) = none) ∧ ∀ z, zoneN zs s = some z → ∃ v, mget M (.string s) = some v ∧ ZVal w0 v z
theorem ZMapOf.nil (w0 : World) : ZMapOf w0 [] [] := fun s => ⟨fun _ => rfl, fun z h => by simp [zoneN] at h⟩
theorem ZMapOf.put {w0 : World} {M : List (Value × Value)} {zs : List ZoneM} (h : ZMapOf w0 M zs) (z : ZoneM) {v : Value} (hv : ZVal w0 v z) : ZMapOf w0 (mput M (.string z.name) v) (zs ++ [z]) := by
  intro s
  rw [zoneN_snoc, mget_mput_string]
  by_cases e : z.name = s
  · rw [if_pos e, if_pos e]
    exact ⟨(fun h => by cases h), fun y hy => ⟨v, rfl, by cases hy; exact hv⟩⟩
  · rw [if_neg e, if_neg e]; exact h s
def AMapOf (w0 : World) (M : List (Value × Value)) (zs : List ZoneM) (l : List AirM) : Prop := ∀ s, (airN l s = none → mget M (.string s) = none) ∧ ∀ a, airN l s = some a → ∃ v, mget M (.string s) = some v ∧ ZVal w0 v ((zoneN zs a.zone).getD zone0)
theorem AMapOf.nil (w0 : World) (zs : List ZoneM) : AMapOf w0 [] zs [] := fun s => ⟨fun _ => rfl, fun z h => by simp [airN] at h⟩
theorem AMapOf.put {w0 : World} {M : List (Value × Value)} {zs : List ZoneM} {l : List AirM} (h : AMapOf w0 M zs l) (a : AirM) {v : Value} (hv : ZVal w0 v ((zoneN zs a.zone).getD zone0)) : AMapOf w0 (mput M (.string a.code) v) zs (l ++ [a]) := by
  intro s
  rw [airN_snoc, mget_mput_string]
  by_cases e : a.code = s
  · rw [if_pos e, if_pos e]
    exact ⟨(fun h => by cases h), fun y hy => ⟨v, rfl, by cases hy; exact hv⟩⟩
  · rw [if_neg e, if_neg e]; exact h s
theorem ZVal.zero (w : World) : ZVal w (.agg #[.string ByteArray.empty, .int .i64 0, .slice none 0 0]) zone0 := ⟨none, 0, rfl, .inl rfl, by simp [zone0], by simp [zone0]⟩
theorem look_name {w0 w : World} {b : Nat} {M : List (Value × Value)} {zs : List ZoneM} (hM : MapOf Try.prog w b .string M) (h : ZMapOf w0 M zs) (s : ByteArray) : ∃ v, ((Instr.lookup 80 (.map (some b)) (.string s) false).run Try.prog w = .ok v w) ∧ ZVal w0 v ((zoneN zs s).getD zone0) := by
  have e2 := run_lookup Try.underlying80 Try.underlying9 hM (key := .string s) trivial (airZone _)
  cases hh : zoneN zs s with
  | none =>
    rw [(h s).1 hh] at e2
    exact ⟨_, e2, ZVal.zero _⟩
  | some z =>
    obtain ⟨v, h1, h2⟩ := (h s).2 z hh
    rw [h1] at e2
    exact ⟨v, e2, h2⟩
theorem put_zone {w : World} {b : Nat} {M : List (Value × Value)} (hM : MapOf Try.prog w b .string M) (s : ByteArray) (v : Value) : ∃ w', (Instr.mapUpdate 80 (.map (some b)) (.string s) v).run Try.prog w = .ok () w' ∧ MapOf Try.prog w' b .string (mput M (.string s) v) ∧ w.grownBy w' (some b) :=
  run_update Try.underlying80 Try.underlying9 hM (key := .string s) v trivial
theorem AMapOf.zones {w0 w : World} {b : Nat} {M : List (Value × Value)} {t : TTM} (hM : MapOf Try.prog w b .string M) (h : AMapOf w0 M t.zones t.airs) (hb : Below w0.heap.size w0 w) : ZonesAt w b t := by
  refine ⟨M, hM, fun s => ⟨(h s).1, fun hs => ?_⟩⟩
  cases hh : airN t.airs s with
  | none => exact absurd hh hs
  | some a =>
    obtain ⟨v, h1, h2⟩ := (h s).2 a hh
    refine ⟨v, h1, ?_⟩
    have e : zoneT t s = (zoneN t.zones a.zone).getD zone0 := by simp [zoneT, hh]
    rw [e]
    exact h2.below hb
theorem mkMapZ (w : World) : (Instr.makeMap 80 none).run Try.prog w = .ok (.map (some w.heap.size)) (w.alloc (.map #[] 0)) := by kernel_rfl
theorem take_z (l : List ZoneM) (k : Nat) (h : k < l.length) : l.take (k + 1) = l.take k ++ [zAt l k] := by
  rw [List.take_succ_eq_append_getElem h, zAt, List.getD_eq_getElem?_getD, List.getElem?_eq_getElem h]; rfl
theorem take_a (l : List AirM) (k : Nat) (h : k < l.length) : l.take (k + 1) = l.take k ++ [aAt l k] := by
  rw [List.take_succ_eq_append_getElem h, aAt, List.getD_eq_getElem?_getD, List.getElem?_eq_getElem h]; rfl
/-- the nights are wanted -/
def usesR (l : List (ByteArray × FormM)) : Bool := l.any fun r => usesB 1 r.2
def usesK (l : List FormM) : Bool := l.any fun f => usesB 1 f
def nightsB (c : ConM) : Bool := usesR (rulesOf c 2) || usesK (costsOf c 2)
inductive NewRes (w : World) (t : TTM) (c : ConM) (e : Ending) (w' : World) : Prop
  | badT (h : valTT t ≠ 0) (he : e = .returned (.tuple #[.pointer none, .int .i64 (valTT t)]))
  | badC (h : valTT t = 0) (hc : valT c ≠ 0) (he : e = .returned (.tuple #[.pointer none, .int .i64 (valT c)]))
  | ok (sb : Nat) (P : SetP) (he : e = .returned (.tuple #[.pointer (some ⟨sb, 0, none⟩), .int .i64 0])) (hs : SetAt w' sb t c P) (hl : w.heap.size ≤ sb) (hn : P.nights = nightsB c)
def NewPost (w : World) (t : TTM) (c : ConM) (e : Ending) (w' : World) : Prop := NewRes w t c e w' ∧ Below w.heap.size w w'
/-- a timetable and a contract in memory -/
structure TCAt (w : World) (t : TTM) (c : ConM) (za aa fa : Option Addr) (p : ConP) : Prop where
  z : SlAt zoneRT w za t.zones
  a : SlAt airRT w aa t.airs
  f : SlAt flightRT w fa t.fls
  c : ConAt w.heap.size w c p
theorem TCAt.below {w w' : World} {t : TTM} {c : ConM} {za aa fa : Option Addr} {p : ConP} (h : TCAt w t c za aa fa p) (hb : Below w.heap.size w w') : TCAt w' t c za aa fa p where
  z := h.z.below hb
  a := h.a.below hb
  f := h.f.below hb
  c := (h.c.keep hb).more hb.size
def NewS (t : TTM) (c : ConM) (za : Option Addr) (zc : Nat) (aa : Option Addr) (ac : Nat) (fa : Option Addr) (fc : Nat) (p : ConP) : Prop := ∀ w : World, TCAt w t c za aa fa p → Calls Try.prog 15 #[.agg #[.slice za t.zones.length zc, .slice aa t.airs.length ac, .slice fa t.fls.length fc], .agg #[.int .i64 c.report, .int .i64 c.release, .int .i64 c.connect, .int .i64 c.sit, .int .i64 c.layover, .int .i64 c.nf, .int .i64 c.nt, .slice p.ca c.consts.length p.cc, .slice p.ra c.rules.length p.rc, .slice p.ka c.costs.length p.kc, .slice p.xa c.credit.length p.xc, .slice p.la c.lims.length p.lc, .slice p.oa c.offs.length p.oc, .int .i64 c.guar]] w (NewPost w t c)
end Go.Proofs.Ytenlhfmnkojnpaa
/- plain facts on valid duties and zones -/
namespace Go.Proofs.Ytenlhfmnkojnpaa
open Go.RowKit Go.Sort
set_option linter.unusedVariables false
set_option linter.unusedSimpArgs false
def fOf (t : TTM) (d : Duty) (k : Nat) : FlightM := fAt t.fls (tAt d k).1.toNat
theorem gap_bd {t : TTM} {c : ConM} {d : Duty} (hc : valT c = 0) (hd : dutyE t c d = 0) {k : Nat} (hk : k < d.length) (h0 : 0 < k) : 0 ≤ (fOf t d k).dep - (fOf t d (k - 1)).arr ∧ (fOf t d k).dep - (fOf t d (k - 1)).arr ≤ 1440 := by
  have hj := (dutyE_ok hd).2.2.2 k (by omega) hk
  have hr := con_range hc
  unfold joinB at hj
  simp only [Bool.and_eq_true, decide_eq_true_eq] at hj
  unfold fOf
  omega
theorem leg_bd {t : TTM} {c : ConM} {d : Duty} (ht : valTT t = 0) (hd : dutyE t c d = 0) {k : Nat} (hk : k < d.length) : 0 < (fOf t d k).arr - (fOf t d k).dep ∧ (fOf t d k).arr - (fOf t d k).dep ≤ 1440 ∧ 2880 ≤ (fOf t d k).dep ∧ (fOf t d k).arr ≤ 52593120 := by
  obtain ⟨h1, h2, h3, _⟩ := dutyE_ok hd
  obtain ⟨m, hm, hml⟩ := flOk_nat (h3 k hk)
  unfold fOf
  rw [hm]
  have := flight_times ht hml
  simp only [Int.toNat_natCast]
  omega
theorem arr_late {t : TTM} {c : ConM} {d : Duty} (ht : valTT t = 0) (hc : valT c = 0) (hd : dutyE t c d = 0) : ∀ k, k < d.length → (fOf t d 0).dep < (fOf t d k).arr
  | 0, h => by have := leg_bd ht hd h; omega
  | k + 1, h => by
    have h1 := arr_late ht hc hd k (by omega)
    have h2 := gap_bd hc hd h (by omega)
    have h3 := leg_bd ht hd h
    rw [Nat.add_sub_cancel] at h2
    omega
theorem span_late {t : TTM} {c : ConM} {d : Duty} (ht : valTT t = 0) (hc : valT c = 0) (hd : dutyE t c d = 0) : 0 < (fAt t.fls (lstN d)).arr + c.release - ((fAt t.fls (fstN d)).dep - c.report) := by
  have h := arr_late ht hc hd (d.length - 1) (by have := (dutyE_ok hd).1; omega)
  have hr := con_range hc
  show 0 < (fOf t d (d.length - 1)).arr + c.release - ((fOf t d 0).dep - c.report)
  omega
theorem valZ_all : ∀ {l : List ZoneM} {acc : List ByteArray}, (valZ acc l).1 = 0 → ∀ z ∈ l, zval z = 0
  | [], _, _, z, hz => by simp at hz
  | x :: l, acc, h, z, hz => by
    rw [valZ] at h
    by_cases h1 : zval x ≠ 0
    · rw [if_pos h1] at h; exact absurd h h1
    rw [if_neg h1] at h
    by_cases h2 : hasB acc x.name = true
    · rw [if_pos h2] at h; simp at h
    rw [if_neg h2] at h
    rcases List.mem_cons.1 hz with rfl | hz
    · exact Classical.not_not.1 h1
    · exact valZ_all h z hz
theorem valTT_zones {t : TTM} (h : valTT t = 0) : (valZ [] t.zones).1 = 0 ∧ (valA (valZ [] t.zones).2 [] t.airs).1 = 0 := by
  unfold valTT at h
  by_cases h1 : 16 < t.zones.length ∨ 64 < t.airs.length ∨ 200 < t.fls.length
  · rw [if_pos h1] at h; omega
  rw [if_neg h1] at h
  by_cases h2 : (valZ [] t.zones).1 ≠ 0
  · rw [if_pos h2] at h; exact absurd h h2
  rw [if_neg h2] at h
  by_cases h3 : (valA (valZ [] t.zones).2 [] t.airs).1 ≠ 0
  · rw [if_pos h3] at h; exact absurd h h3
  exact ⟨Classical.not_not.1 h2, Classical.not_not.1 h3⟩
theorem zoneT_ok {t : TTM} (h : valTT t = 0) (s : ByteArray) : zval (zoneT t s) = 0 ∨ zoneT t s = zone0 := by
  cases ha : airN t.airs s with
  | none => exact .inr (by simp [zoneT, ha])
  | some a =>
    cases hz : zoneN t.zones a.zone with
    | none => exact .inr (by simp [zoneT, ha, hz])
    | some z =>
      have e : zoneT t s = z := by simp [zoneT, ha, hz]
      rw [e]
      refine .inl (valZ_all (valTT_zones h).1 z ?_)
      have := List.mem_of_find?_eq_some hz
      simpa using this
theorem zone_sh {t : TTM} (h : valTT t = 0) (s : ByteArray) : (zoneT t s).sh.length ≤ 16 := by
  rcases zoneT_ok h s with h1 | h1
  · exact (valZone_zero h1).2.2.1
  · rw [h1]; simp [zone0]
end Go.Proofs.Ytenlhfmnkojnpaa
