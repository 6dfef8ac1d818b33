/- the walk of ZoneBack -/
import Derived.Test.YtdjhoelbnnljjaaBack0
namespace Go.Proofs.Ytdjhoelbnnljjaa
open Go.RowKit Go.Sort
set_option linter.unusedSimpArgs false
set_option linter.unusedVariables false

set_option maxRecDepth 100000 in
set_option maxHeartbeats 1600000 in
theorem zoneBack_walk (s : ByteArray) (o : Int) (l : List (Int × Int)) (a : Option Addr) (cap : Nat) (t : Int) (w : World) (hs : s.size ≤ maxLen) (hl : l.length ≤ maxLen) (ho : (Lit.int .i64 o).wf = true) (ha : ShAt w a l) (ht : (Lit.int .i64 t).wf = true) :
    Calls Try.prog 7 #[.agg #[.string s, .int .i64 o, .slice a l.length cap], .int .i64 t] w fun e w' => e = .returned (.bool true) ∧ Below w.heap.size w w' := by
  clear ho ht
  unfold maxLen at hl
  have hA := Lib.hid (fun W (h : Below w.heap.size w W) => ha.below h)
  clear ha
  by_cases h : 40 < l.length
  · go_enter Try.func7, Try.ntmps7
    go_wp2_with (go_at_call 11; refine (awake_any _).mono ?_; rintro e w7 ⟨rfl, hb7⟩)
    go_ret
    exact ⟨rfl, Below.then (below_new _ _) hb7⟩
  have hl' : l.length ≤ 1000000 := by omega
  by_cases hv : valZone s.data.toList o l = 0
  · by_cases ht : 0 ≤ t ∧ t < 52596000
    · obtain ⟨d, c, M, k1, k2, hsrt, hmem, hall⟩ := back_facts hv ht
      have hn : (valZone s.data.toList o l != 0) = false := by simpa using hv
      have hM := instZ_len s.data.toList o l d c
      rw [k2] at hM
      have hM0 : 0 < M.length := List.length_pos_of_mem hmem
      have K1 := Lib.hid k1
      have K2 := Lib.hid k2
      have Hs := Lib.hid hsrt
      have Hm := Lib.hid hmem
      have Ha := Lib.hid hall
      clear k1 k2 hsrt hmem hall hv
      obtain ⟨ht1, ht2⟩ := ht
      go_enter Try.func7, Try.ntmps7
      go_wp2_with fail
      have zb := ZBox.new w s o a l.length cap
      have hbW := below_new w (Obj.cells #[Value.string s, Value.int IntKind.i64 o, Value.slice a l.length cap] 24)
      generalize (w.alloc (Obj.cells #[Value.string s, Value.int IntKind.i64 o, Value.slice a l.length cap] 24)) = W at *
      refine (validateR_any s o l a cap _ hs hl' (hA.out _ hbW)).mono ?_
      rintro e w1 ⟨rfl, hb1⟩
      have hB1 := Below.then hbW hb1
      replace zb := zb.below hb1
      clear hb1 hbW
      clear W
      obtain ⟨z0, z1, z2, z3⟩ := Lib.hid zb |>.out
      go_wp2_with fail
      refine (LocalTime_any s o t l a cap _ hs hl' (hA.out _ hB1)).mono ?_
      rintro e w2 ⟨rfl, hb2⟩
      rw [K1.out]
      have hB2 := Below.then hB1 hb2
      replace zb := zb.below hb2
      clear hb2 hB1 z0 z1 z2 z3
      clear w1
      obtain ⟨z0, z1, z2, z3⟩ := Lib.hid zb |>.out
      go_wp2_with fail
      refine (Instants_any s o d c l a cap _ hs hl' (hA.out _ hB2)).mono ?_
      rintro e w3 ⟨v, rfl, hown, hb3⟩
      rw [K2.out] at hown ⊢
      have hrow := intRow_of_own hown
      have hB3 := Below.then hB2 hb3
      replace zb := zb.below hb3
      clear hb3 hB2 z0 z1 z2 z3 hown
      clear w2
      rcases hrow with ⟨a', cap', _, rfl⟩ | ⟨b, off, cap', rfl, hb, hc⟩
      · exact absurd hM0 (by simp)
      have Hc := Lib.hid hc
      clear hc
      obtain ⟨z0, z1, z2, z3⟩ := Lib.hid zb |>.out
      go_wp2_with fail
      go_loopw [10, 11] (fun f i wr => ∃ k : Nat, k ≤ M.length ∧ i = .int .i64 k ∧ f = .bool (foundB M t k) ∧ Below w3.heap.size w3 wr) (fun _ i _ => M.length - (intOf i).toNat)
      case atStart => exact ⟨0, Nat.zero_le _, rfl, by rw [foundB_zero], Below.refl _ _⟩
      case round =>
        obtain ⟨k, hk, rfl, rfl, hbel⟩ := hrel
        by_cases hlt : k < M.length
        · by_cases h0 : k = 0
          · have c1 := (hbel.cell (p := ⟨b, off + (k), none⟩) hb).trans (Hc.out (k) hlt)
            obtain ⟨z0, z1, z2, z3⟩ := Lib.hid (zb.below hbel) |>.out
            have hbr : b < wr.heap.size := Nat.lt_of_lt_of_le hb hbel.size
            have Hu := Lib.hid (Ha.out _ (intAt_mem hlt))
            have hfs := Lib.hid (foundB_succ M t (k))
            have hd0 : decide (0 < k) = false := by simp; omega
            clear h0
            go_wp2_with fail
            have r1 := fun d os => cell_regrown z1 d os
            have r2 := fun d os => cell_regrown z2 d os
            have r3 := fun d os => cell_regrown z3 d os
            have r4 := fun d os => cell_regrown c1 d os
            have q1 := Lib.hid (fun d' os => Calls.regrown_of (LocalTime_any s o (intAt M (k)) l a cap (grow (redrawn wr d') os) hs hl' ((hA.out _ (Below.then hB3 hbel)).below (below_regrown wr d' os))))
            rw [Hu.out] at q1
            simp only at q1
            refine wp_region_quiet_below (by kernel_rfl) (by kernel_rfl) ?_
            repeat (first | go_big_quiet_step (first | exact q1.out _ _) | quiet_step (first | exact q1.out _ _))
            refine wpQuiet_nil ?_
            intro _ hw'
            obtain ⟨⟨dq, osq⟩, hw''⟩ := hw'
            subst hw''
            have hb5 := below_regrown wr dq osq
            clear r1 r2 r3 r4 q1
            generalize grow (redrawn wr dq) osq = w5 at *
            have hbel5 := hbel.trans (hb5.mono hbel.size)
            have d1 := (hbel5.cell (p := ⟨b, off + (k), none⟩) hb).trans (Hc.out (k) hlt)
            clear c1 z0 z1 z2 z3 hb5
            go_wp2_with fail
            go_quiet (fail)
            cases hfb : foundB M t (k)
            · rw [hfb] at hfs
              go_wp2_with fail
              go_roundw
              case rel => exact ⟨k + 1, by omega, by go_num, by rw [hfs.out]; simp, below_drewN hbel5 _⟩
              case measure => simp [intOf]; omega
            · rw [hfb] at hfs
              go_wp2_with fail
              go_roundw
              case rel => exact ⟨k + 1, by omega, by go_num, by rw [hfs.out]; simp, below_drewN hbel5 _⟩
              case measure => simp [intOf]; omega
          · obtain ⟨m, rfl⟩ : ∃ m, k = m + 1 := ⟨k - 1, by omega⟩
            have c1 := (hbel.cell (p := ⟨b, off + (m + 1), none⟩) hb).trans (Hc.out (m + 1) hlt)
            have c0 := (hbel.cell (p := ⟨b, off + m, none⟩) hb).trans (Hc.out m (by omega))
            have hord : ¬ intAt M (m + 1) ≤ intAt M m := by have := intAt_lt hlt Hs.out; omega
            obtain ⟨z0, z1, z2, z3⟩ := Lib.hid (zb.below hbel) |>.out
            have hbr : b < wr.heap.size := Nat.lt_of_lt_of_le hb hbel.size
            have Hu := Lib.hid (Ha.out _ (intAt_mem hlt))
            have hfs := Lib.hid (foundB_succ M t (m + 1))
            go_wp2_with fail
            have r1 := fun d os => cell_regrown z1 d os
            have r2 := fun d os => cell_regrown z2 d os
            have r3 := fun d os => cell_regrown z3 d os
            have r4 := fun d os => cell_regrown c1 d os
            have q1 := Lib.hid (fun d' os => Calls.regrown_of (LocalTime_any s o (intAt M (m + 1)) l a cap (grow (redrawn wr d') os) hs hl' ((hA.out _ (Below.then hB3 hbel)).below (below_regrown wr d' os))))
            rw [Hu.out] at q1
            simp only at q1
            refine wp_region_quiet_below (by kernel_rfl) (by kernel_rfl) ?_
            repeat (first | go_big_quiet_step (first | exact q1.out _ _) | quiet_step (first | exact q1.out _ _))
            refine wpQuiet_nil ?_
            intro _ hw'
            obtain ⟨⟨dq, osq⟩, hw''⟩ := hw'
            subst hw''
            have hb5 := below_regrown wr dq osq
            clear r1 r2 r3 r4 q1
            generalize grow (redrawn wr dq) osq = w5 at *
            have hbel5 := hbel.trans (hb5.mono hbel.size)
            have d1 := (hbel5.cell (p := ⟨b, off + (m + 1), none⟩) hb).trans (Hc.out (m + 1) hlt)
            have d0 := (hbel5.cell (p := ⟨b, off + m, none⟩) hb).trans (Hc.out m (by omega))
            clear c1 c0 z0 z1 z2 z3 hb5
            go_wp2_with fail
            go_quiet (fail)
            cases hfb : foundB M t (m + 1)
            · rw [hfb] at hfs
              go_wp2_with fail
              go_roundw
              case rel => exact ⟨m + 1 + 1, by omega, by go_num, by rw [hfs.out]; simp, below_drewN hbel5 _⟩
              case measure => simp [intOf]; omega
            · rw [hfb] at hfs
              go_wp2_with fail
              go_roundw
              case rel => exact ⟨m + 1 + 1, by omega, by go_num, by rw [hfs.out]; simp, below_drewN hbel5 _⟩
              case measure => simp [intOf]; omega
        · obtain rfl : k = M.length := by omega
          have hf : foundB M t M.length = true := foundB_all Hm.out
          go_wp2_with (go_at_call 11; refine (awake_any _).mono ?_; rintro e w7 ⟨rfl, hb7⟩)
          go_ret
          exact ⟨rfl, Below.then (Below.then hB3 hbel) hb7⟩
    · by_cases ht1 : t < 0
      all_goals
        have hn : (valZone s.data.toList o l != 0) = false := by simpa using hv
        clear hv
        go_enter Try.func7, Try.ntmps7
        go_wp2_with fail
        refine (validateR_any s o l a cap _ hs hl' (hA.out _ (below_new _ _))).mono ?_
        rintro e w1 ⟨rfl, hb1⟩
        go_wp2_with (go_at_call 11; refine (awake_any _).mono ?_; rintro e w7 ⟨rfl, hb7⟩)
        go_ret
        exact ⟨rfl, Below.then (Below.then (below_new _ _) hb1) hb7⟩
  · have hn : (valZone s.data.toList o l != 0) = true := by simpa using hv
    clear hv
    go_enter Try.func7, Try.ntmps7
    go_wp2_with fail
    refine (validateR_any s o l a cap _ hs hl' (hA.out _ (below_new _ _))).mono ?_
    rintro e w1 ⟨rfl, hb1⟩
    go_wp2_with (go_at_call 11; refine (awake_any _).mono ?_; rintro e w7 ⟨rfl, hb7⟩)
    go_ret
    exact ⟨rfl, Below.then (Below.then (below_new _ _) hb1) hb7⟩
end Go.Proofs.Ytdjhoelbnnljjaa
