/- contracts of OffsetAt, LocalMinute, LocalTime -/
import Derived.Test.YtdjhoelbnnljjaaOff
import Derived.Test.YtdjhoelbnnljjaaZone2
namespace Go.Proofs.Ytdjhoelbnnljjaa
open Go.RowKit
set_option linter.unusedSimpArgs false
set_option linter.unusedVariables false

theorem bcell {W w1 : World} (hb : Below W.heap.size W w1) : (∀ b o, b < W.heap.size → w1.cell? ⟨b, o, none⟩ = W.cell? ⟨b, o, none⟩) ∧ (∀ b o, b < W.heap.size → w1.frozen? ⟨b, o, none⟩ = W.frozen? ⟨b, o, none⟩) :=
  ⟨fun b o h => hb.cell (p := ⟨b, o, none⟩) h, fun b o h => hb.frozen (p := ⟨b, o, none⟩) h⟩
theorem Below.then {w W w1 : World} (h : Below w.heap.size w W) (h1 : Below W.heap.size W w1) : Below w.heap.size w w1 := h.trans (h1.mono h.size)
theorem ret_int3 {k1 k2 k3 : IntKind} {a b c d e f : Int} (h : a = b) (h' : c = d) (h'' : e = f) : Ending.returned (.tuple #[.int k1 a, .int k2 c, .int k3 e]) = .returned (.tuple #[.int k1 b, .int k2 d, .int k3 f]) := by rw [h, h', h'']

set_option maxHeartbeats 400000 in
theorem OffsetAt_any (s : ByteArray) (o t : Int) (l : List (Int × Int)) (a : Option Addr) (cap : Nat) (w : World) (hs : s.size ≤ maxLen) (hl : l.length ≤ 1000000) (ha : ShAt w a l) :
    Calls Try.prog 14 #[.agg #[.string s, .int .i64 o, .slice a l.length cap], .int .i64 t] w fun e w' => e = .returned (.tuple #[.int .i64 (offAtZ s.data.toList o l t).1, .int .i64 (offAtZ s.data.toList o l t).2]) ∧ Below w.heap.size w w' := by
  have hA := Lib.hid (fun W (h : Below w.heap.size w W) => ha.below h)
  clear ha
  go_enter Try.func14, Try.ntmps14
  go_wp2_with fail
  refine (validate_any s o l a cap _ hs hl (hA.out _ ((Below.refl _ _).alloc (Nat.le_refl _) _))).mono ?_
  rintro e w1 ⟨rfl, hb1⟩
  have hb2 := Below.then ((Below.refl _ _).alloc (Nat.le_refl _) _) hb1
  have hz1 : w.heap.size < w1.heap.size := by have := hb1.size; simp at this; omega
  obtain ⟨hc, hf⟩ := bcell hb1
  by_cases hv : valZone s.data.toList o l = 0
  · have hv0 := Lib.hid hv
    have hn : (valZone s.data.toList o l != 0) = false := by simpa using hv
    cases hi : insB t
    · have hz := Lib.hid (show offAtZ s.data.toList o l t = (0, 5) from by simp [offAtZ, hv, hi])
      clear hv
      go_wp2_with (go_at_call 33; refine (instant_any _ _).mono ?_; rintro e w' ⟨rfl, rfl⟩)
      go_ret2
      exact ⟨ret_int2 (by rw [hz.out]) (by rw [hz.out]), hb2⟩
    · have hz := Lib.hid (show offAtZ s.data.toList o l t = (offP o l t, 0) from by simp [offAtZ, hv, hi])
      clear hv
      go_wp2_with (first | (go_at_call 33; refine (instant_any _ _).mono ?_; rintro e w' ⟨rfl, rfl⟩) | (go_at_call 37; refine (offsetAt_any s o t l a cap _ hl (hA.out _ hb2)).mono ?_; rintro e w2 ⟨rfl, hb3⟩))
      go_ret2
      exact ⟨ret_int2 (by rw [hz.out]) (by rw [hz.out]), Below.then hb2 hb3⟩
  · have hz := Lib.hid (show offAtZ s.data.toList o l t = (0, valZone s.data.toList o l) from by simp [offAtZ, hv])
    have hn : (valZone s.data.toList o l != 0) = true := by simpa using hv
    clear hv
    go_wp2_with fail
    go_ret2
    exact ⟨ret_int2 (by rw [hz.out]) (by rw [hz.out]), hb2⟩

set_option maxHeartbeats 400000 in
theorem OffsetAtR_any (s : ByteArray) (o t : Int) (l : List (Int × Int)) (a : Option Addr) (cap : Nat) (w : World) (hs : s.size ≤ maxLen) (hl : l.length ≤ 1000000) (ha : ShAt w a l) :
    Calls Try.prog 15 #[.agg #[.string s, .int .i64 o, .slice a l.length cap], .int .i64 t] w fun e w' => e = .returned (.tuple #[.int .i64 (offAtZ s.data.toList o l t).1, .int .i64 (offAtZ s.data.toList o l t).2]) ∧ Below w.heap.size w w' := by
  have hA := Lib.hid (fun W (h : Below w.heap.size w W) => ha.below h)
  clear ha
  go_enter Try.func15, Try.ntmps15
  go_wp2_with fail
  refine (validateR_any s o l a cap _ hs hl (hA.out _ ((Below.refl _ _).alloc (Nat.le_refl _) _))).mono ?_
  rintro e w1 ⟨rfl, hb1⟩
  have hb2 := Below.then ((Below.refl _ _).alloc (Nat.le_refl _) _) hb1
  have hz1 : w.heap.size < w1.heap.size := by have := hb1.size; simp at this; omega
  obtain ⟨hc, hf⟩ := bcell hb1
  by_cases hv : valZone s.data.toList o l = 0
  · have hv0 := Lib.hid hv
    have hn : (valZone s.data.toList o l != 0) = false := by simpa using hv
    cases hi : insB t
    · have hz := Lib.hid (show offAtZ s.data.toList o l t = (0, 5) from by simp [offAtZ, hv, hi])
      clear hv
      go_wp2_with (go_at_call 36; refine (instantR_any _ _).mono ?_; rintro e w' ⟨rfl, rfl⟩)
      go_ret2
      exact ⟨ret_int2 (by rw [hz.out]) (by rw [hz.out]), hb2⟩
    · have hz := Lib.hid (show offAtZ s.data.toList o l t = (offP o l t, 0) from by simp [offAtZ, hv, hi])
      clear hv
      go_wp2_with (first | (go_at_call 36; refine (instantR_any _ _).mono ?_; rintro e w' ⟨rfl, rfl⟩) | (go_at_call 38; refine (offsetRef_any s o t l a cap _ hl (hA.out _ hb2)).mono ?_; rintro e w2 ⟨rfl, hb3⟩))
      go_ret2
      exact ⟨ret_int2 (by rw [hz.out]; exact (offP_eq_offR l none o t (valZone_zero hv0.out).2.2.2).symm) (by rw [hz.out]), Below.then hb2 hb3⟩
  · have hz := Lib.hid (show offAtZ s.data.toList o l t = (0, valZone s.data.toList o l) from by simp [offAtZ, hv])
    have hn : (valZone s.data.toList o l != 0) = true := by simpa using hv
    clear hv
    go_wp2_with fail
    go_ret2
    exact ⟨ret_int2 (by rw [hz.out]) (by rw [hz.out]), hb2⟩

set_option maxHeartbeats 400000 in
theorem LocalMinute_any (s : ByteArray) (o t : Int) (l : List (Int × Int)) (a : Option Addr) (cap : Nat) (w : World) (hs : s.size ≤ maxLen) (hl : l.length ≤ 1000000) (ha : ShAt w a l) :
    Calls Try.prog 16 #[.agg #[.string s, .int .i64 o, .slice a l.length cap], .int .i64 t] w fun e w' => e = .returned (.tuple #[.int .i64 (locMinZ s.data.toList o l t).1, .int .i64 (locMinZ s.data.toList o l t).2]) ∧ Below w.heap.size w w' := by
  have hA := Lib.hid (fun W (h : Below w.heap.size w W) => ha.below h)
  clear ha
  have hbd := Lib.hid (offAtZ_bd (nm := s.data.toList) (o := o) (l := l) (t := t))
  have hdef := Lib.hid (locMinZ_eq s.data.toList o l t)
  go_enter Try.func16, Try.ntmps16
  go_wp2_with fail
  refine (OffsetAt_any s o t l a cap _ hs hl (hA.out _ ((Below.refl _ _).alloc (Nat.le_refl _) _))).mono ?_
  rintro e w1 ⟨rfl, hb1⟩
  have hb2 := Below.then ((Below.refl _ _).alloc (Nat.le_refl _) _) hb1
  obtain ⟨hc, hf⟩ := bcell hb1
  generalize offAtZ s.data.toList o l t = p at *
  obtain ⟨r, e⟩ := p
  simp only at *
  by_cases hv : e = 0
  · subst hv
    have hbd := hbd.out rfl
    go_wp2_with fail
    go_ret2
    exact ⟨ret_int2 (by rw [hdef.out]; simp) (by rw [hdef.out]; simp), hb2⟩
  · have hn : (e != 0) = true := by simpa using hv
    go_wp2_with fail
    go_ret2
    exact ⟨ret_int2 (by rw [hdef.out]; simp [hv]) (by rw [hdef.out]; simp [hv]), hb2⟩

set_option maxHeartbeats 400000 in
theorem LocalMinuteR_any (s : ByteArray) (o t : Int) (l : List (Int × Int)) (a : Option Addr) (cap : Nat) (w : World) (hs : s.size ≤ maxLen) (hl : l.length ≤ 1000000) (ha : ShAt w a l) :
    Calls Try.prog 17 #[.agg #[.string s, .int .i64 o, .slice a l.length cap], .int .i64 t] w fun e w' => e = .returned (.tuple #[.int .i64 (locMinZ s.data.toList o l t).1, .int .i64 (locMinZ s.data.toList o l t).2]) ∧ Below w.heap.size w w' := by
  have hA := Lib.hid (fun W (h : Below w.heap.size w W) => ha.below h)
  clear ha
  have hbd := Lib.hid (offAtZ_bd (nm := s.data.toList) (o := o) (l := l) (t := t))
  have hdef := Lib.hid (locMinZ_eq s.data.toList o l t)
  go_enter Try.func17, Try.ntmps17
  go_wp2_with fail
  refine (OffsetAtR_any s o t l a cap _ hs hl (hA.out _ ((Below.refl _ _).alloc (Nat.le_refl _) _))).mono ?_
  rintro e w1 ⟨rfl, hb1⟩
  have hb2 := Below.then ((Below.refl _ _).alloc (Nat.le_refl _) _) hb1
  obtain ⟨hc, hf⟩ := bcell hb1
  generalize offAtZ s.data.toList o l t = p at *
  obtain ⟨r, e⟩ := p
  simp only at *
  by_cases hv : e = 0
  · subst hv
    have hbd := hbd.out rfl
    go_wp2_with fail
    go_ret2
    exact ⟨ret_int2 (by rw [hdef.out]; simp) (by rw [hdef.out]; simp), hb2⟩
  · have hn : (e != 0) = true := by simpa using hv
    go_wp2_with fail
    go_ret2
    exact ⟨ret_int2 (by rw [hdef.out]; simp [hv]) (by rw [hdef.out]; simp [hv]), hb2⟩

set_option maxHeartbeats 400000 in
theorem LocalTime_any (s : ByteArray) (o t : Int) (l : List (Int × Int)) (a : Option Addr) (cap : Nat) (w : World) (hs : s.size ≤ maxLen) (hl : l.length ≤ 1000000) (ha : ShAt w a l) :
    Calls Try.prog 18 #[.agg #[.string s, .int .i64 o, .slice a l.length cap], .int .i64 t] w fun e w' => e = .returned (.tuple #[.int .i64 (locTimeZ s.data.toList o l t).1, .int .i64 (locTimeZ s.data.toList o l t).2.1, .int .i64 (locTimeZ s.data.toList o l t).2.2]) ∧ Below w.heap.size w w' := by
  have hA := Lib.hid (fun W (h : Below w.heap.size w W) => ha.below h)
  clear ha
  have hbd := (locMinZ_bd (nm := s.data.toList) (o := o) (l := l) (t := t))
  have hdef := Lib.hid (locTimeZ_eq s.data.toList o l t)
  go_enter Try.func18, Try.ntmps18
  go_wp2_with fail
  refine (LocalMinute_any s o t l a cap _ hs hl (hA.out _ ((Below.refl _ _).alloc (Nat.le_refl _) _))).mono ?_
  rintro e w1 ⟨rfl, hb1⟩
  have hb2 := Below.then ((Below.refl _ _).alloc (Nat.le_refl _) _) hb1
  obtain ⟨hc, hf⟩ := bcell hb1
  generalize locMinZ s.data.toList o l t = p at *
  obtain ⟨r, e⟩ := p
  simp only at *
  by_cases hv : e = 0
  · subst hv
    go_wp2_with (go_at_call 30; refine (split_any _ _ (by omega) (by omega)).mono ?_; rintro e w' ⟨rfl, rfl⟩)
    go_ret3
    exact ⟨ret_int3 (by rw [hdef.out]; simp) (by rw [hdef.out]; simp) (by rw [hdef.out]; simp), hb2⟩
  · have hn : (e != 0) = true := by simpa using hv
    go_wp2_with fail
    go_ret3
    exact ⟨ret_int3 (by rw [hdef.out]; simp [hv]) (by rw [hdef.out]; simp [hv]) (by rw [hdef.out]; simp [hv]), hb2⟩

set_option maxHeartbeats 400000 in
theorem LocalTimeR_any (s : ByteArray) (o t : Int) (l : List (Int × Int)) (a : Option Addr) (cap : Nat) (w : World) (hs : s.size ≤ maxLen) (hl : l.length ≤ 1000000) (ha : ShAt w a l) :
    Calls Try.prog 19 #[.agg #[.string s, .int .i64 o, .slice a l.length cap], .int .i64 t] w fun e w' => e = .returned (.tuple #[.int .i64 (locTimeZ s.data.toList o l t).1, .int .i64 (locTimeZ s.data.toList o l t).2.1, .int .i64 (locTimeZ s.data.toList o l t).2.2]) ∧ Below w.heap.size w w' := by
  have hA := Lib.hid (fun W (h : Below w.heap.size w W) => ha.below h)
  clear ha
  have hbd := (locMinZ_bd (nm := s.data.toList) (o := o) (l := l) (t := t))
  have hdef := Lib.hid (locTimeZ_eq s.data.toList o l t)
  go_enter Try.func19, Try.ntmps19
  go_wp2_with fail
  refine (LocalMinuteR_any s o t l a cap _ hs hl (hA.out _ ((Below.refl _ _).alloc (Nat.le_refl _) _))).mono ?_
  rintro e w1 ⟨rfl, hb1⟩
  have hb2 := Below.then ((Below.refl _ _).alloc (Nat.le_refl _) _) hb1
  obtain ⟨hc, hf⟩ := bcell hb1
  generalize locMinZ s.data.toList o l t = p at *
  obtain ⟨r, e⟩ := p
  simp only at *
  by_cases hv : e = 0
  · subst hv
    go_wp2_with (go_at_call 39; refine (splitR_any _ _ (by omega) (by omega)).mono ?_; rintro e w' ⟨rfl, rfl⟩)
    go_ret3
    exact ⟨ret_int3 (by rw [hdef.out]; simp) (by rw [hdef.out]; simp) (by rw [hdef.out]; simp), hb2⟩
  · have hn : (e != 0) = true := by simpa using hv
    go_wp2_with fail
    go_ret3
    exact ⟨ret_int3 (by rw [hdef.out]; simp [hv]) (by rw [hdef.out]; simp [hv]) (by rw [hdef.out]; simp [hv]), hb2⟩
end Go.Proofs.Ytdjhoelbnnljjaa
