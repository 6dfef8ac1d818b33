/- contracts of the reference's BandMinutes and Nights -/
import Derived.Test.YtdjhoelbnnljjaaBand2
namespace Go.Proofs.Ytdjhoelbnnljjaa
open Go.RowKit Go.Sort
set_option linter.unusedSimpArgs false
set_option linter.unusedVariables false
theorem inB_ref {nm : List UInt8} {o : Int} {l : List (Int × Int)} (h : valZone nm o l = 0) (fr to t : Int) : bandB ((t + offR o l t) % 1440) fr to = inB o l fr to t := by
  rw [← offP_eq_offR l none o t (valZone_zero h).2.2.2]; rfl
/-- where the reference's loop over the minutes stands -/
def NightAt (S : Int → Bool) (x ln : Int) (N k : Nat) (p : Int × Int) : Prop := (k ≤ N ∧ p = nightTo S x ln k) ∨ (k = N + 1 ∧ p.1 = nightEnd S x ln N)
theorem NightAt.yes {S : Int → Bool} {x ln : Int} {N k : Nat} {p : Int × Int} (h : NightAt S x ln N k p) (hk : k < N) (hb : S (x + k) = true) : NightAt S x ln N (k + 1) (p.1, p.2 + 1) := by
  rcases h with ⟨_, rfl⟩ | ⟨h, _⟩
  · exact .inl ⟨by omega, by rw [nightTo, if_pos hb]⟩
  · omega
theorem NightAt.no {S : Int → Bool} {x ln : Int} {N k : Nat} {p : Int × Int} (h : NightAt S x ln N k p) (hk : k < N) (hb : S (x + k) = false) : NightAt S x ln N (k + 1) (p.1 + (if ln ≤ p.2 ∧ 0 < p.2 then 1 else 0), 0) := by
  rcases h with ⟨_, rfl⟩ | ⟨h, _⟩
  · exact .inl ⟨by omega, by rw [nightTo]; exact (if_neg (by rw [hb]; decide)).symm⟩
  · omega
theorem NightAt.close {S : Int → Bool} {x ln : Int} {N : Nat} {p : Int × Int} (h : NightAt S x ln N N p) : NightAt S x ln N (N + 1) (p.1 + (if ln ≤ p.2 ∧ 0 < p.2 then 1 else 0), 0) := by
  rcases h with ⟨_, rfl⟩ | ⟨h, _⟩
  · exact .inr ⟨rfl, rfl⟩
  · omega
theorem NightAt.fin {S : Int → Bool} {x ln : Int} {N k : Nat} {p : Int × Int} (h : NightAt S x ln N k p) (hk : N < k) : p.1 = nightEnd S x ln N := by
  rcases h with ⟨_, _⟩ | ⟨_, h⟩
  · omega
  · exact h
theorem offR_bd {nm : List UInt8} {o : Int} {l : List (Int × Int)} (h : valZone nm o l = 0) (t : Int) : -840 ≤ offR o l t ∧ offR o l t ≤ 840 := by
  rw [← offP_eq_offR l none o t (valZone_zero h).2.2.2]; exact off_bd h t

set_option maxHeartbeats 1600000 in
theorem BandMinutesR_any (s : ByteArray) (o x y fr to : Int) (l : List (Int × Int)) (a : Option Addr) (cap : Nat) (w : World) (hs : s.size ≤ maxLen) (hl : l.length ≤ 1000000) (ha : ShAt w a l) :
    Calls Try.prog 27 #[.agg #[.string s, .int .i64 o, .slice a l.length cap], .agg #[.int .i64 x, .int .i64 y], .int .i64 fr, .int .i64 to] w fun e w' => e = .returned (.tuple #[.int .i64 (bandMinZ s.data.toList o l x y fr to).1, .int .i64 (bandMinZ s.data.toList o l x y fr to).2]) ∧ Below w.heap.size w w' := by
  have hA := Lib.hid (fun W (h : Below w.heap.size w W) => ha.below h)
  clear ha
  go_enter Try.func27, Try.ntmps27
  go_wp2_with fail
  obtain ⟨zb, sb, hbW⟩ := boxes w s o a l.length cap x y
  generalize ((w.alloc (Obj.cells #[Value.string s, Value.int IntKind.i64 o, Value.slice a l.length cap] 24)).alloc (Obj.cells #[Value.int IntKind.i64 x, Value.int IntKind.i64 y] 35)) = W at *
  refine (bandRef_any s o x y fr to l a cap _ hs hl (hA.out _ hbW)).mono ?_
  rintro e w1 ⟨rfl, hb1⟩
  have hB1 := Below.then hbW hb1
  replace sb := sb.below hb1
  replace zb := zb.below hb1
  obtain ⟨t0, t1, t2⟩ := Lib.hid sb |>.out
  obtain ⟨z0, z1, z2, z3⟩ := Lib.hid zb |>.out
  clear hb1 hbW
  clear W
  by_cases hv : bandErr s.data.toList o l x y fr to = 0
  · have hn : (bandErr s.data.toList o l x y fr to != 0) = false := by simpa using hv
    obtain ⟨hvz, ⟨h1, h2, h3⟩, ⟨hf1, hf2⟩, ⟨ht1, ht2⟩⟩ := bandErr_ok hv
    have hzz := Lib.hid (bandMinZ_ok hv)
    have hin := Lib.hid (inB_ref hvz fr to)
    have hob := Lib.hid (offR_bd hvz)
    clear hv hvz
    obtain ⟨N, hN⟩ : ∃ N : Nat, (y - x).toNat = N := ⟨_, rfl⟩
    rw [hN] at hzz
    have hN1 : y - x ≤ N := by omega
    have hN2 : (N : Int) ≤ y - x := by omega
    clear hN
    go_wp2_with fail
    go_loopw [11, 12] (fun m i wr => ∃ k : Nat, k ≤ N ∧ i = .int .i64 (x + k) ∧ m = .int .i64 (cntTo (inB o l fr to) x k) ∧ Below w1.heap.size w1 wr) (fun _ i _ => (y - intOf i).toNat)
    case atStart => exact ⟨0, Nat.zero_le _, by simp, rfl, Below.refl _ _⟩
    case round =>
      obtain ⟨k, hk, rfl, rfl, hbel⟩ := hrel
      obtain ⟨t0, t1, t2⟩ := Lib.hid (sb.below hbel) |>.out
      obtain ⟨z0, z1, z2, z3⟩ := Lib.hid (zb.below hbel) |>.out
      have b1 := cntTo_bd (inB o l fr to) x k
      by_cases hlt : k < N
      · have b2 := hob.out (x + k)
        have hi := Lib.hid (hin.out (x + k))
        have E1 := Lib.hid (show x + (k : Int) + 1 = x + ((k + 1 : Nat) : Int) from by omega)
        cases hb : inB o l fr to (x + k)
        · have hst := Lib.hid (show cntTo (inB o l fr to) x (k + 1) = cntTo (inB o l fr to) x k from by rw [cntTo, if_neg (by rw [hb]; decide)]; omega)
          have hbb : bandB ((x + (k : Int) + offR o l (x + k)) % 1440) fr to = false := hi.out.trans hb
          clear hb
          go_wp2_with (first | (go_at_call 38; refine (offsetRef_any s o _ l a cap _ hl (hA.out _ (Below.then hB1 hbel))).mono ?_; rintro e w2 ⟨rfl, hb2⟩) | (go_at_call 39; refine (splitR_any _ _ (by omega) (by omega)).mono ?_; rintro e w' ⟨rfl, rfl⟩) | (go_at_call 47; refine (band_any _ _ _ _).mono ?_; rintro e w' ⟨rfl, rfl⟩))
          go_roundw
          case rel => exact ⟨k + 1, by omega, by go_num, by rw [hst.out], hbel.trans (hb2.mono hbel.size)⟩
          case measure => simp [intOf]; omega
        · have hst := Lib.hid (show cntTo (inB o l fr to) x (k + 1) = cntTo (inB o l fr to) x k + 1 from by rw [cntTo, if_pos hb])
          have hbb : bandB ((x + (k : Int) + offR o l (x + k)) % 1440) fr to = true := hi.out.trans hb
          clear hb
          go_wp2_with (first | (go_at_call 38; refine (offsetRef_any s o _ l a cap _ hl (hA.out _ (Below.then hB1 hbel))).mono ?_; rintro e w2 ⟨rfl, hb2⟩) | (go_at_call 39; refine (splitR_any _ _ (by omega) (by omega)).mono ?_; rintro e w' ⟨rfl, rfl⟩) | (go_at_call 47; refine (band_any _ _ _ _).mono ?_; rintro e w' ⟨rfl, rfl⟩))
          go_roundw
          case rel => exact ⟨k + 1, by omega, by go_num, by rw [hst.out], hbel.trans (hb2.mono hbel.size)⟩
          case measure => simp [intOf]; omega
      · obtain rfl : k = N := by omega
        go_wp2_with fail
        go_ret2
        exact ⟨ret_int2 (by rw [hzz.out]) (by rw [hzz.out]), Below.then hB1 hbel⟩
  · have hz := Lib.hid (show bandMinZ s.data.toList o l x y fr to = (0, bandErr s.data.toList o l x y fr to) from by simp [bandMinZ, hv])
    have hn : (bandErr s.data.toList o l x y fr to != 0) = true := by simpa using hv
    clear hv
    go_wp2_with fail
    go_ret2
    exact ⟨ret_int2 (by rw [hz.out]) (by rw [hz.out]), hB1⟩

set_option maxHeartbeats 1600000 in
theorem NightsR_any (s : ByteArray) (o x y fr to : Int) (l : List (Int × Int)) (a : Option Addr) (cap : Nat) (w : World) (hs : s.size ≤ maxLen) (hl : l.length ≤ 1000000) (ha : ShAt w a l) :
    Calls Try.prog 29 #[.agg #[.string s, .int .i64 o, .slice a l.length cap], .agg #[.int .i64 x, .int .i64 y], .int .i64 fr, .int .i64 to] w fun e w' => e = .returned (.tuple #[.int .i64 (nightsZ s.data.toList o l x y fr to).1, .int .i64 (nightsZ s.data.toList o l x y fr to).2]) ∧ Below w.heap.size w w' := by
  have hA := Lib.hid (fun W (h : Below w.heap.size w W) => ha.below h)
  clear ha
  go_enter Try.func29, Try.ntmps29
  go_wp2_with fail
  obtain ⟨zb, sb, hbW⟩ := boxes w s o a l.length cap x y
  generalize ((w.alloc (Obj.cells #[Value.string s, Value.int IntKind.i64 o, Value.slice a l.length cap] 24)).alloc (Obj.cells #[Value.int IntKind.i64 x, Value.int IntKind.i64 y] 35)) = W at *
  refine (bandRef_any s o x y fr to l a cap _ hs hl (hA.out _ hbW)).mono ?_
  rintro e w1 ⟨rfl, hb1⟩
  have hB1 := Below.then hbW hb1
  replace sb := sb.below hb1
  replace zb := zb.below hb1
  obtain ⟨t0, t1, t2⟩ := Lib.hid sb |>.out
  obtain ⟨z0, z1, z2, z3⟩ := Lib.hid zb |>.out
  clear hb1 hbW
  clear W
  by_cases hv : bandErr s.data.toList o l x y fr to = 0
  · have hn : (bandErr s.data.toList o l x y fr to != 0) = false := by simpa using hv
    obtain ⟨hvz, ⟨h1, h2, h3⟩, ⟨hf1, hf2⟩, ⟨ht1, ht2⟩⟩ := bandErr_ok hv
    have hzz := Lib.hid (nightsZ_ok hv)
    have hin := Lib.hid (inB_ref hvz fr to)
    have hob := Lib.hid (offR_bd hvz)
    clear hv hvz
    obtain ⟨N, hN⟩ : ∃ N : Nat, (y - x).toNat = N := ⟨_, rfl⟩
    rw [hN] at hzz
    have hN1 : y - x ≤ N := by omega
    have hN2 : (N : Int) ≤ y - x := by omega
    clear hN
    obtain ⟨ln, hln⟩ : ∃ ln : Int, bandLen fr to = ln := ⟨_, rfl⟩
    have Hln := Lib.hid hln
    have hlb : 0 ≤ ln ∧ ln < 1440 := by rw [← hln]; unfold bandLen; omega
    obtain ⟨hl1, hl2⟩ := hlb
    rw [hln] at hzz
    clear hln
    go_wp2_with fail
    rw [show (to - fr + 1440) % 1440 = ln from Hln.out]
    have hS := Lib.hid (fun k => nightTo_bd (inB o l fr to) x ln k)
    go_loopw [12, 13, 14] (fun m r i wr => ∃ (k : Nat) (p : Int × Int), k ≤ N + 1 ∧ i = .int .i64 (x + k) ∧ m = .int .i64 p.1 ∧ r = .int .i64 p.2 ∧ Hid (NightAt (inB o l fr to) x ln N k p) ∧ (0 ≤ p.1 ∧ p.1 ≤ 60000000 + k ∧ 0 ≤ p.2 ∧ p.2 ≤ k) ∧ Below w1.heap.size w1 wr) (fun _ _ i _ => (y + 1 - intOf i).toNat)
    case atStart => exact ⟨0, (0, 0), Nat.zero_le _, by simp, rfl, rfl, Lib.hid (.inl ⟨Nat.zero_le _, rfl⟩), by simp, Below.refl _ _⟩
    case round =>
      obtain ⟨k, p, hk, rfl, rfl, rfl, hnat, hbd, hbel⟩ := hrel
      obtain ⟨bd1, bd2, bd3, bd4⟩ := hbd
      obtain ⟨t0, t1, t2⟩ := Lib.hid (sb.below hbel) |>.out
      obtain ⟨z0, z1, z2, z3⟩ := Lib.hid (zb.below hbel) |>.out
      by_cases hlt : k < N
      · have b2 := hob.out (x + k)
        have hi := Lib.hid (hin.out (x + k))
        cases hb : inB o l fr to (x + k)
        · have hnn := Lib.hid (hnat.out.no hlt hb)
          have hbb : bandB ((x + (k : Int) + offR o l (x + k)) % 1440) fr to = false := hi.out.trans hb
          clear hb
          by_cases q1 : ln ≤ p.2
          · by_cases q2 : 0 < p.2
            · have hn3 : (p.1 + (if ln ≤ p.2 ∧ 0 < p.2 then 1 else 0), (0 : Int)) = (p.1 + 1, 0) := by rw [if_pos ⟨q1, q2⟩]
              have hn3 := Lib.hid hn3
              go_wp2_with (first | (go_at_call 38; refine (offsetRef_any s o _ l a cap _ hl (hA.out _ (Below.then hB1 hbel))).mono ?_; rintro e w2 ⟨rfl, hb2⟩) | (go_at_call 39; refine (splitR_any _ _ (by omega) (by omega)).mono ?_; rintro e w' ⟨rfl, rfl⟩) | (go_at_call 47; refine (band_any _ _ _ _).mono ?_; rintro e w' ⟨rfl, rfl⟩))
              go_roundw
              case rel => exact ⟨k + 1, (p.1 + 1, 0), by omega, by go_num, by go_num, rfl, Lib.hid (hn3.out ▸ hnn.out), by simp only; omega, hbel.trans (hb2.mono hbel.size)⟩
              case measure => simp [intOf]; omega
            · have hn3 := Lib.hid (show (p.1 + (if ln ≤ p.2 ∧ 0 < p.2 then 1 else 0), (0 : Int)) = (p.1, 0) from by rw [if_neg (fun h => q2 h.2), Int.add_zero])
              go_wp2_with (first | (go_at_call 38; refine (offsetRef_any s o _ l a cap _ hl (hA.out _ (Below.then hB1 hbel))).mono ?_; rintro e w2 ⟨rfl, hb2⟩) | (go_at_call 39; refine (splitR_any _ _ (by omega) (by omega)).mono ?_; rintro e w' ⟨rfl, rfl⟩) | (go_at_call 47; refine (band_any _ _ _ _).mono ?_; rintro e w' ⟨rfl, rfl⟩))
              go_roundw
              case rel => exact ⟨k + 1, (p.1, 0), by omega, by go_num, rfl, rfl, Lib.hid (hn3.out ▸ hnn.out), by simp only; omega, hbel.trans (hb2.mono hbel.size)⟩
              case measure => simp [intOf]; omega
          · have hn3 := Lib.hid (show (p.1 + (if ln ≤ p.2 ∧ 0 < p.2 then 1 else 0), (0 : Int)) = (p.1, 0) from by rw [if_neg (fun h => q1 h.1), Int.add_zero])
            go_wp2_with (first | (go_at_call 38; refine (offsetRef_any s o _ l a cap _ hl (hA.out _ (Below.then hB1 hbel))).mono ?_; rintro e w2 ⟨rfl, hb2⟩) | (go_at_call 39; refine (splitR_any _ _ (by omega) (by omega)).mono ?_; rintro e w' ⟨rfl, rfl⟩) | (go_at_call 47; refine (band_any _ _ _ _).mono ?_; rintro e w' ⟨rfl, rfl⟩))
            go_roundw
            case rel => exact ⟨k + 1, (p.1, 0), by omega, by go_num, rfl, rfl, Lib.hid (hn3.out ▸ hnn.out), by simp only; omega, hbel.trans (hb2.mono hbel.size)⟩
            case measure => simp [intOf]; omega
        · have hnn := Lib.hid (hnat.out.yes hlt hb)
          have hbb : bandB ((x + (k : Int) + offR o l (x + k)) % 1440) fr to = true := hi.out.trans hb
          clear hb
          go_wp2_with (first | (go_at_call 38; refine (offsetRef_any s o _ l a cap _ hl (hA.out _ (Below.then hB1 hbel))).mono ?_; rintro e w2 ⟨rfl, hb2⟩) | (go_at_call 39; refine (splitR_any _ _ (by omega) (by omega)).mono ?_; rintro e w' ⟨rfl, rfl⟩) | (go_at_call 47; refine (band_any _ _ _ _).mono ?_; rintro e w' ⟨rfl, rfl⟩))
          go_roundw
          case rel => exact ⟨k + 1, (p.1, p.2 + 1), by omega, by go_num, rfl, rfl, hnn, by simp only; omega, hbel.trans (hb2.mono hbel.size)⟩
          case measure => simp [intOf]; omega
      · by_cases hkN : k ≤ N
        · obtain rfl : k = N := by omega
          have hnn := Lib.hid (hnat.out.close)
          by_cases q1 : ln ≤ p.2
          · by_cases q2 : 0 < p.2
            · have hn3 : (p.1 + (if ln ≤ p.2 ∧ 0 < p.2 then 1 else 0), (0 : Int)) = (p.1 + 1, 0) := by rw [if_pos ⟨q1, q2⟩]
              have hn3 := Lib.hid hn3
              go_wp2_with (first | (go_at_call 38; refine (offsetRef_any s o _ l a cap _ hl (hA.out _ (Below.then hB1 hbel))).mono ?_; rintro e w2 ⟨rfl, hb2⟩) | (go_at_call 39; refine (splitR_any _ _ (by omega) (by omega)).mono ?_; rintro e w' ⟨rfl, rfl⟩) | (go_at_call 47; refine (band_any _ _ _ _).mono ?_; rintro e w' ⟨rfl, rfl⟩))
              go_roundw
              case rel => exact ⟨k + 1, (p.1 + 1, 0), by omega, by go_num, by go_num, rfl, Lib.hid (hn3.out ▸ hnn.out), by simp only; omega, hbel⟩
              case measure => simp [intOf]; omega
            · have hn3 := Lib.hid (show (p.1 + (if ln ≤ p.2 ∧ 0 < p.2 then 1 else 0), (0 : Int)) = (p.1, 0) from by rw [if_neg (fun h => q2 h.2), Int.add_zero])
              go_wp2_with (first | (go_at_call 38; refine (offsetRef_any s o _ l a cap _ hl (hA.out _ (Below.then hB1 hbel))).mono ?_; rintro e w2 ⟨rfl, hb2⟩) | (go_at_call 39; refine (splitR_any _ _ (by omega) (by omega)).mono ?_; rintro e w' ⟨rfl, rfl⟩) | (go_at_call 47; refine (band_any _ _ _ _).mono ?_; rintro e w' ⟨rfl, rfl⟩))
              go_roundw
              case rel => exact ⟨k + 1, (p.1, 0), by omega, by go_num, rfl, rfl, Lib.hid (hn3.out ▸ hnn.out), by simp only; omega, hbel⟩
              case measure => simp [intOf]; omega
          · have hn3 := Lib.hid (show (p.1 + (if ln ≤ p.2 ∧ 0 < p.2 then 1 else 0), (0 : Int)) = (p.1, 0) from by rw [if_neg (fun h => q1 h.1), Int.add_zero])
            go_wp2_with (first | (go_at_call 38; refine (offsetRef_any s o _ l a cap _ hl (hA.out _ (Below.then hB1 hbel))).mono ?_; rintro e w2 ⟨rfl, hb2⟩) | (go_at_call 39; refine (splitR_any _ _ (by omega) (by omega)).mono ?_; rintro e w' ⟨rfl, rfl⟩) | (go_at_call 47; refine (band_any _ _ _ _).mono ?_; rintro e w' ⟨rfl, rfl⟩))
            go_roundw
            case rel => exact ⟨k + 1, (p.1, 0), by omega, by go_num, rfl, rfl, Lib.hid (hn3.out ▸ hnn.out), by simp only; omega, hbel⟩
            case measure => simp [intOf]; omega
        · have hfin := Lib.hid (hnat.out.fin (by omega))
          by_cases h0 : ln = 0
          · have h0' : (ln == 0) = true := by simpa using h0
            have hz0 := Lib.hid h0
            clear h0
            go_wp2_with fail
            go_ret2
            exact ⟨ret_int2 (by rw [hzz.out, hz0.out]; rfl) (by rw [hzz.out]), Below.then hB1 hbel⟩
          · have h0' : (ln == 0) = false := by simpa using h0
            have hz0 := Lib.hid h0
            clear h0
            go_wp2_with fail
            go_ret2
            exact ⟨ret_int2 (by rw [hzz.out, hfin.out, if_neg hz0.out]) (by rw [hzz.out]), Below.then hB1 hbel⟩
  · have hz := Lib.hid (show nightsZ s.data.toList o l x y fr to = (0, bandErr s.data.toList o l x y fr to) from by simp [nightsZ, hv])
    have hn : (bandErr s.data.toList o l x y fr to != 0) = true := by simpa using hv
    clear hv
    go_wp2_with fail
    go_ret2
    exact ⟨ret_int2 (by rw [hz.out]) (by rw [hz.out]), hB1⟩
end Go.Proofs.Ytdjhoelbnnljjaa
