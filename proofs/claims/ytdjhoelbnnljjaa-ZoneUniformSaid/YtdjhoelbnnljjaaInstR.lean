/- contract of the reference's Instants; same -/
import Derived.Test.YtdjhoelbnnljjaaInst
import Derived.Test.YtdjhoelbnnljjaaInst1
namespace Go.Proofs.Ytdjhoelbnnljjaa
open Go.RowKit Go.Sort
set_option linter.unusedSimpArgs false
set_option linter.unusedVariables false

theorem instsR_step {o : Int} {l : List (Int × Int)} {loc t : Int} {n : Nat} (h : 0 < n) : instsR o l loc n t = (if insB t = true ∧ t + offR o l t = loc then [t] else []) ++ instsR o l loc (n - 1) (t + 1) := by
  obtain ⟨m, rfl⟩ : ∃ m, n = m + 1 := ⟨n - 1, by omega⟩
  rfl
theorem instsR_no {o : Int} {l : List (Int × Int)} {loc t : Int} {n : Nat} (h : 0 < n) (h' : ¬ (insB t = true ∧ t + offR o l t = loc)) : instsR o l loc n t = instsR o l loc (n - 1) (t + 1) := by
  rw [instsR_step h, if_neg h']; rfl
theorem instsR_yes {o : Int} {l : List (Int × Int)} {loc t : Int} {n : Nat} (h : 0 < n) (h' : insB t = true ∧ t + offR o l t = loc) : instsR o l loc n t = [t] ++ instsR o l loc (n - 1) (t + 1) := by
  rw [instsR_step h, if_pos h']

/-- a row of the call's own, behind a call that leaves all as it was -/
theorem own_below {w1 wr w2 : World} {e : TypeId} {size : Nat} {v : Value} {n : Nat} {xs : List Value} (h : wr.ownsRow w1.heap.size e size v n xs) (_hb : Below w1.heap.size w1 wr) (hb2 : Below wr.heap.size wr w2) : w2.ownsRow w1.heap.size e size v n xs := by
  refine ⟨h.1, ?_⟩
  rcases h.2 with h' | ⟨g, cap, cur, hv, hg, hh, r⟩
  · exact .inl h'
  · have hlt : g < wr.heap.size := (h.lt g (by rw [hv]; rfl)).2
    exact .inr ⟨g, cap, cur, hv, hg, (hb2.block g hlt).trans hh, r⟩
set_option maxHeartbeats 800000 in
theorem InstantsR_any (s : ByteArray) (o day clock : Int) (l : List (Int × Int)) (a : Option Addr) (cap : Nat) (w : World) (hs : s.size ≤ maxLen) (hl : l.length ≤ 1000000) (ha : ShAt w a l) :
    Calls Try.prog 24 #[.agg #[.string s, .int .i64 o, .slice a l.length cap], .int .i64 day, .int .i64 clock] w fun e w' =>
      ∃ v, e = .returned (.tuple #[v, .int .i64 (instZ s.data.toList o l day clock).2]) ∧ w'.ownsRow w.heap.size 3 1 v (instZ s.data.toList o l day clock).1.length ((instZ s.data.toList o l day clock).1.map (Value.int .i64)) ∧ Below w.heap.size w w' := by
  have hA := Lib.hid (fun W (h : Below w.heap.size w W) => ha.below h)
  clear ha
  obtain ⟨i0, hi, hz0, hz1, hz2⟩ := info_parts info3
  go_enter Try.func24, Try.ntmps24
  go_wp2_with fail
  have zb := ZBox.new w s o a l.length cap
  have hbW := below_new w (Obj.cells #[Value.string s, Value.int IntKind.i64 o, Value.slice a l.length cap] 24)
  generalize (w.alloc (Obj.cells #[Value.string s, Value.int IntKind.i64 o, Value.slice a l.length cap] 24)) = W at *
  refine (validateR_any s o l a cap _ hs hl (hA.out _ hbW)).mono ?_
  rintro e w1 ⟨rfl, hb1⟩
  have hB1 := Below.then hbW hb1
  replace zb := zb.below hb1
  clear hb1 hbW
  clear W
  by_cases hv : valZone s.data.toList o l = 0
  · have hv0 := Lib.hid hv
    have hn : (valZone s.data.toList o l != 0) = false := by simpa using hv
    cases hc : clkB clock
    · have hz := Lib.hid (show instZ s.data.toList o l day clock = ([], 5) from by simp [instZ, hv, hc])
      have hc' : ¬ (0 ≤ clock ∧ clock < 1440) := by simpa [clkB] using hc
      clear hv hc
      by_cases hc1 : clock < 0
      all_goals
        go_wp2_with fail
        go_ret2
        exact ⟨_, by rw [hz.out]; rfl, by rw [hz.out]; exact ⟨rfl, .inl ⟨rfl, rfl⟩⟩, hB1⟩
    obtain ⟨hk1, hk2⟩ := clkB_iff hc
    cases hd : dayB day
    · obtain ⟨N, hN1, hN2, hz⟩ : ∃ N : Nat, N ≤ 1681 ∧ 1681 ≤ N ∧ Hid (instZ s.data.toList o l day clock = (instsR o l (day * 1440 + clock) N (day * 1440 + clock - 840), 0)) :=
        ⟨1681, Nat.le_refl _, Nat.le_refl _, Lib.hid (by rw [← insts_eq hv]; simp [instZ, hv, hc, hd])⟩
      have hd' : ¬ (day < -2 ∨ 36527 < day) := by simpa [dayB] using hd
      have hd1 : -2 ≤ day := by omega
      have hd2 : day ≤ 36527 := by omega
      have hob := Lib.hid (fun t => offP_eq_offR l none o t (valZone_zero hv).2.2.2 ▸ off_bd hv t)
      clear hv hd hd' hc
      go_wp2_with fail
      rw [show (1440 * day + clock - 840 : Int) = day * 1440 + clock - 840 from by omega, show (1440 * day + clock : Int) = day * 1440 + clock from by omega]
      generalize hloc : day * 1440 + clock = loc at *
      have hl1 : -2880 ≤ loc := by omega
      have hl2 : loc ≤ 60000000 := by omega
      clear hloc
      go_loopw [9, 11] (fun out i wr => ∃ (k : Nat) (v : Value) (M : List Int), k ≤ N ∧ M.length ≤ k ∧ i = .int .i64 (loc - 840 + k) ∧ out = v ∧
          wr.ownsRow w1.heap.size 3 1 v M.length (M.map (Value.int .i64)) ∧ Hid (instsR o l loc N (loc - 840) = M ++ instsR o l loc (N - k) (loc - 840 + k)) ∧ Below w1.heap.size w1 wr) (fun _ i _ => (loc + 841 - intOf i).toNat)
      case atStart => exact ⟨0, _, [], Nat.zero_le _, Nat.le_refl _, by simp, rfl, ⟨rfl, .inl ⟨rfl, rfl⟩⟩, Lib.hid (by simp), Below.refl _ _⟩
      case round =>
        obtain ⟨k, v, M, hk, hM, rfl, rfl, hown, hdef, hbel⟩ := hrel
        obtain ⟨z0, z1, z2, z3⟩ := Lib.hid (zb.below hbel) |>.out
        by_cases hlt : k < N
        · have e1 := Lib.hid (show N - k - 1 = N - (k + 1) ∧ (loc - 840 + (k : Int) + 1) = loc - 840 + ((k + 1 : Nat) : Int) from by omega)
          cases hi1 : insB (loc - 840 + k)
          · have hd3 := Lib.hid (hdef.out.trans (congrArg (M ++ ·) (instsR_no (by omega) (fun h => by rw [hi1] at h; exact absurd h.1 (by decide)))))
            go_wp2_with (first | (go_at_call 36; refine (instantR_any _ _).mono ?_; rintro e w' ⟨rfl, rfl⟩) | (go_at_call 38; refine (offsetRef_any s o _ l a cap _ hl (hA.out _ (Below.then hB1 hbel))).mono ?_; rintro e w2 ⟨rfl, hb2⟩))
            go_roundw
            case rel => exact ⟨k + 1, _, M, by omega, by omega, by go_num, rfl, hown, Lib.hid (by rw [hd3.out, e1.out.1, e1.out.2]), hbel⟩
            case measure => simp [intOf]; omega
          · have hib := insB_iff hi1
            have hob1 := hob.out (loc - 840 + k)
            by_cases heq : loc - 840 + k + offR o l (loc - 840 + k) = loc
            · have hd3 := Lib.hid (hdef.out.trans (congrArg (M ++ ·) (instsR_yes (by omega) ⟨hi1, heq⟩)))
              have heq' : (loc - 840 + k + offR o l (loc - 840 + k) == loc) = true := by simpa using heq
              clear heq
              go_wp2_with (first | (first | (go_at_call 36; refine (instantR_any _ _).mono ?_; rintro e w' ⟨rfl, rfl⟩) | (go_at_call 38; refine (offsetRef_any s o _ l a cap _ hl (hA.out _ (Below.then hB1 hbel))).mono ?_; rintro e w2 ⟨rfl, hb2⟩)) | (at_builtin; refine wpList_append_own _ rfl _ _ 38 rfl w1.heap.size 3 i0 (.int .i64 0) 1 8 Try.underlying38 hi hz0 hz1 hz2 rfl (by decide) _ _ _ rfl ((own_below hown hbel hb2).alloc _) ⟨w2.heap.size, 0, none⟩ 1 1 [.int .i64 (loc - 840 + k)] rfl rfl ?c1 ?c2 ?c3 ?c4 ?c5 ?_))
              case c1 => exact fresh_cells w2 [.int .i64 (loc - 840 + k)] 3
              case c2 => intro u hu; simp at hu; rcases hu with rfl; rfl
              case c3 => unfold maxLen; omega
              case c4 => omega
              case c5 => have := hbel.size; have := hb2.size; simp; omega
              intro v' w3 hown' hgrow _
              have hbel3 := below_append (e' := 3) (hbel.trans (hb2.mono hbel.size)) rfl (own_below hown hbel hb2) hgrow
              go_wp2_with fail
              go_roundw
              case rel => exact ⟨k + 1, _, M ++ [loc - 840 + k], by omega, by rw [List.length_append, List.length_singleton]; omega, by go_num, rfl, by simpa using hown', Lib.hid (by rw [hd3.out, e1.out.1, e1.out.2]; simp), hbel3⟩
              case measure => simp [intOf]; omega
            · have hd3 := Lib.hid (hdef.out.trans (congrArg (M ++ ·) (instsR_no (by omega) (fun h => heq h.2))))
              have heq' : (loc - 840 + k + offR o l (loc - 840 + k) == loc) = false := by simpa using heq
              clear heq
              go_wp2_with (first | (go_at_call 36; refine (instantR_any _ _).mono ?_; rintro e w' ⟨rfl, rfl⟩) | (go_at_call 38; refine (offsetRef_any s o _ l a cap _ hl (hA.out _ (Below.then hB1 hbel))).mono ?_; rintro e w2 ⟨rfl, hb2⟩))
              go_roundw
              case rel => exact ⟨k + 1, _, M, by omega, by omega, by go_num, rfl, own_below hown hbel hb2, Lib.hid (by rw [hd3.out, e1.out.1, e1.out.2]), hbel.trans (hb2.mono hbel.size)⟩
              case measure => simp [intOf]; omega
        · obtain rfl : k = N := by omega
          have hf := Lib.hid (hdef.out.trans (by rw [Nat.sub_self, instsR, List.append_nil]))
          go_wp2
          go_ret2
          refine ⟨_, by rw [hz.out]; rfl, ?_, Below.then hB1 hbel⟩
          rw [hz.out, hf.out]
          exact own_mono hown hB1.size
    · have hz := Lib.hid (show instZ s.data.toList o l day clock = ([], 0) from by simp [instZ, hv, hc, hd])
      have hd' : day < -2 ∨ 36527 < day := by simpa [dayB] using hd
      clear hv hd hc
      rcases hd' with hd' | hd'
      all_goals
        go_wp2_with fail
        go_ret2
        exact ⟨_, by rw [hz.out]; rfl, by rw [hz.out]; exact ⟨rfl, .inl ⟨rfl, rfl⟩⟩, hB1⟩
  · have hz := Lib.hid (show instZ s.data.toList o l day clock = ([], valZone s.data.toList o l) from by simp [instZ, hv])
    have hn : (valZone s.data.toList o l != 0) = true := by simpa using hv
    clear hv
    go_wp2_with fail
    go_ret2
    exact ⟨_, by rw [hz.out]; rfl, by rw [hz.out]; exact ⟨rfl, .inl ⟨rfl, rfl⟩⟩, hB1⟩
end Go.Proofs.Ytdjhoelbnnljjaa
