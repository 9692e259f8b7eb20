/- FrameBack: its walk. -/
import Derived.Test.YtocpepknlnghkaaTurned
import Derived.Test.YtocpepknlnghkaaTells
namespace Go.Proofs.Ytocpepknlnghkaa
open Go.RowKit Go.Hop
theorem and7 (z : Int) : ∃ s : Nat, s < 8 ∧ bits .and .i64 z 7 = (s : Int) := by
  have h7 : (BitVec.ofInt 64 7).toNat = 7 := by decide
  have hle : (BitVec.ofInt 64 z &&& BitVec.ofInt 64 7).toNat < 8 := by
    rw [BitVec.toNat_and, h7]
    have := Nat.and_le_right (n := (BitVec.ofInt 64 z).toNat) (m := 7)
    omega
  refine ⟨_, hle, ?_⟩
  show IntKind.i64.wrap ((BitVec.ofInt 64 z &&& BitVec.ofInt 64 7).toNat : Int) = _
  rw [IntKind.wrap_i64]
  omega
theorem one_bit (y : Int) : ∃ d : UInt8, d ≠ 0 ∧ (2 : Int) ^ min (IntKind.u64.wrap (bits .and .i64 y 7)).toNat 8 % 256 = (d.toNat : Int) := by
  obtain ⟨s, hs8, hs⟩ := and7 y
  rw [hs, show (IntKind.u64.wrap (s : Int)).toNat = s by rw [wrap_u64]; omega]
  rcases (show s = 0 ∨ s = 1 ∨ s = 2 ∨ s = 3 ∨ s = 4 ∨ s = 5 ∨ s = 6 ∨ s = 7 by omega) with rfl | rfl | rfl | rfl | rfl | rfl | rfl | rfl
  · exact ⟨1, by decide, by decide⟩
  · exact ⟨2, by decide, by decide⟩
  · exact ⟨4, by decide, by decide⟩
  · exact ⟨8, by decide, by decide⟩
  · exact ⟨16, by decide, by decide⟩
  · exact ⟨32, by decide, by decide⟩
  · exact ⟨64, by decide, by decide⟩
  · exact ⟨128, by decide, by decide⟩
set_option maxRecDepth 100000 in
set_option maxHeartbeats 800000 in
theorem back_any (w : World) (A0 : Option Addr) (n0 c0 : Nat) (l0 : List UInt8) (hb0 : Bytes w w.heap.size A0 n0 l0) (hnc0 : n0 ≤ c0) (hm0 : c0 ≤ maxLen)
    (A1 : Option Addr) (n1 c1 : Nat) (l1 : List UInt8) (hb1 : Bytes w w.heap.size A1 n1 l1) (hnc1 : n1 ≤ c1) (hm1 : c1 ≤ maxLen) (hn1 : n1 ≤ 1048576)
    (z : Int) (hz : -9223372036854775808 ≤ z ∧ z ≤ 9223372036854775807) (y : Int) (hy : -9223372036854775808 ≤ y ∧ y ≤ 9223372036854775807) :
    Calls Try.prog 5 #[.slice A0 n0 c0, .slice A1 n1 c1, .int .i64 z, .int .i64 y] w fun e w' => e = .returned (.bool true) ∧ Grow w w' := by
  by_cases h1 : 100 < n0
  · have h1' : decide ((100 : Int) < (n0 : Int)) = true := decide_eq_true (by omega)
    have hbr : Bytes w w.heap.size A0 100 (l0.take 100) := by
      have := Reads.take hb0 (k := 100) (by omega)
      unfold Bytes; rw [u8s_take]; exact this
    have hi1 : (100 : Int) ≤ (c0 : Int) := by omega
    go_enter Try.func5, Try.ntmps5
    have hfl : (frame (l0.take 100)).length = 100 + 5 := by rw [frame_len, hbr.len, enc_small (by omega)]; show 1 + 4 + 100 = 100 + 5; omega
    go_wp2_with fail
    go_at_call 10
    refine (Bytes_any w A0 100 _ (l0.take 100) hbr (by omega)).mono ?_
    rintro e wa ⟨vf, rfl, hOf, hga⟩
    rw [hfl] at hOf
    obtain ⟨g, cf, rfl, hVg, _⟩ := own_at hOf (by omega)
    obtain ⟨Af, cf', hAe, hRf, hnf, hmf⟩ := hOf.reads
    injection hAe with e1 _ e3
    subst e1 e3
    have hb1a : Bytes wa wa.heap.size A1 n1 l1 := Reads.more (Reads.below hb1 hga) hga.size
    go_wp2_with (at_builtin; refine stay ?_)
    refine stay_out ?_
    refine wpList_own (V := fun x => x = wa.heap.size) u8E _ rfl (.tmp 31) (.tmp 32) rfl (.slice (some ⟨wa.heap.size, 0, none⟩) 0 0) 0 [] rfl (made_own wa) wa.heap.size (some ⟨g, 0, none⟩) (100 + 5) cf (u8s (frame (l0.take 100))) rfl (Reads.alloc hRf (Nat.le_refl _) _) u8s_one (by omega) ?_
    intro v2 wb hO2 hj2
    simp only [Nat.zero_add, List.nil_append] at hO2
    obtain ⟨hO2, hgb⟩ := own_new hO2 hj2
    clear hj2
    have hb1b : Bytes wb wb.heap.size A1 n1 l1 := Reads.more (Reads.below hb1a hgb) hgb.size
    go_wp2_with (at_builtin; refine stay ?_)
    refine stay_out ?_
    refine wpList_own (V := New wa wb) u8E _ rfl (.tmp 33) (.tmp 34) rfl v2 (100 + 5) (u8s (frame (l0.take 100))) rfl hO2 wb.heap.size A1 n1 c1 (u8s l1) rfl hb1b u8s_one (by omega) ?_
    intro v3 wc hO3 hj3
    obtain ⟨hO3, hgc⟩ := own_more hgb hO3 hj3
    clear hj3 hO2
    rw [← u8s_append] at hO3
    obtain ⟨A3, c3, rfl, hR3, hn3, hm3⟩ := hO3.reads
    go_wp2_with fail
    go_at_call 14
    refine (Read_any wc A3 _ c3 (frame (l0.take 100) ++ l1) hR3 hn3 hm3).mono ?_
    rintro e wd ⟨x, k, ok, v4, hRd, rfl, hO4, hgd⟩
    obtain ⟨hx1, rfl, rfl⟩ := hRd.one (frame_read (l0.take 100) l1 (by rw [hbr.len]; omega))
    obtain rfl : (l0.take 100) = x := hx1.symm
    have cv1 := conv_is wd hO4.isBytes
    have hgwd := (hga.trans hgc).trans hgd
    have cv2 := conv_bytes wd (c := c0) (Reads.below hbr hgwd)
    clear hRd hO4 hO3 hR3
    have hOd := (Own.grow hOf (fun b hb => hb.2) (hgc.trans hgd))
    have hRfd : Bytes wd wd.heap.size (some ⟨g, 0, none⟩) (100 + 5) (frame (l0.take 100)) := Reads.more (Reads.below hRf (hgc.trans hgd)) (hgc.trans hgd).size
    go_wp2_with fail
    go_at_call 13
    refine (within_any _ z 0 _ hz (by omega) (by omega) (by omega)).mono ?_
    rintro e w4 ⟨j', hj0, hj1, rfl, rfl⟩
    obtain ⟨j, rfl⟩ := Int.eq_ofNat_of_zero_le hj0
    have hjf : j < 100 + 5 := by omega
    have hjc : (j : Int) ≤ (cf : Int) := by omega
    have hRj : Bytes wd wd.heap.size (some ⟨g, 0, none⟩) j ((frame (l0.take 100)).take j) := by
      have := Reads.take hRfd (k := j) (by omega)
      unfold Bytes; rw [u8s_take]; exact this
    clear cv1 cv2
    go_wp2_with fail
    go_at_call 14
    refine (Read_any wd _ j cf ((frame (l0.take 100)).take j) hRj (by omega) hmf).mono ?_
    rintro e we ⟨x, k, ok, v5, hRd, rfl, _, hge⟩
    obtain ⟨rfl, rfl, rfl⟩ := hRd.one (ReadIs.none (no_short (by rw [hfl]; exact hjf)))
    have hOe := hOd.grow (fun b hb => by have := hb.2; have := hgc.size; have := hgd.size; omega) hge
    go_wp2_with fail
    go_at_call 13
    refine (within_any _ z 0 _ hz (by omega) (by omega) (by omega)).mono ?_
    rintro e w4 ⟨i', hi0, hi1, rfl, rfl⟩
    obtain ⟨i, rfl⟩ := Int.eq_ofNat_of_zero_le hi0
    have hif : i + 1 < 100 + 5 := by omega
    obtain ⟨g', cf', hAe, _, hat⟩ := own_at hOe (by omega)
    injection hAe with e1 _ e3
    injection e1 with e1
    injection e1 with e1 _ _
    subst e1 e3
    obtain ⟨u, hu, hcell, hfz, hput⟩ := hat (i + 1) hif
    obtain ⟨hil, hu'⟩ := u8s_get hu
    subst hu'
    have hwi : IntKind.i64.wrap (1 + (i : Int)) = 1 + (i : Int) := by rw [IntKind.wrap_i64]; omega
    have hni : (1 + (i : Int)).toNat = i + 1 := by omega
    obtain ⟨d, hd0, hd⟩ := one_bit y
    have hil' := hil
    have hnone := turned_none (b := (l0.take 100)) (p := i + 1) (d := d) (by rw [hbr.len]; omega) (by omega) hil' hd0
    have hx8 := xor8 (frame (l0.take 100))[i + 1] d
    rw [← hd] at hx8
    have hput := hput (.int .u8 (((frame (l0.take 100))[i + 1] ^^^ d).toNat : Int))
    rw [u8s_set] at hput
    have hsl : ((frame (l0.take 100)).set (i + 1) ((frame (l0.take 100))[i + 1] ^^^ d)).length = 100 + 5 := by rw [List.length_set]; exact hfl
    clear hi1 hRd hd
    generalize (frame (l0.take 100))[i + 1] = fi at hcell hnone hx8 hput hsl
    generalize fi ^^^ d = yv at hnone hx8 hput hsl
    obtain ⟨Af, cf2, hAe, hR6, hn6, hm6⟩ := hput.reads
    injection hAe with e1 _ e3
    subst e1 e3
    go_wp2_with fail
    go_at_call 14
    refine (Read_any _ _ (100 + 5) _ ((frame (l0.take 100)).set (i + 1) yv) hR6 hn6 hm6).mono ?_
    rintro e wg ⟨x, k, ok, v6, hRd, rfl, _, hgg⟩
    obtain ⟨rfl, rfl, rfl⟩ := hRd.one (ReadIs.none hnone)
    have hg3 := (grow_set (hgwd.trans hge) (g := g) hVg.1 (i + 1) (.int .u8 (yv.toNat : Int))).trans hgg
    clear hput hcell hfz hR6 hRd hx8 hnone
    go_wp2_with (go_at_call 12; refine (known_any _).mono ?_; rintro e w7 ⟨rfl, hg7⟩)
    go_ret
    exact ⟨rfl, hg3.trans hg7⟩
  · have h1' : decide ((100 : Int) < (n0 : Int)) = false := decide_eq_false (by omega)
    have hbr := hb0
    go_enter Try.func5, Try.ntmps5
    have hfl : (frame l0).length = n0 + 5 := by rw [frame_len, hbr.len, enc_small (by omega)]; show 1 + 4 + n0 = n0 + 5; omega
    go_wp2_with fail
    go_at_call 10
    refine (Bytes_any w A0 n0 _ l0 hbr (by omega)).mono ?_
    rintro e wa ⟨vf, rfl, hOf, hga⟩
    rw [hfl] at hOf
    obtain ⟨g, cf, rfl, hVg, _⟩ := own_at hOf (by omega)
    obtain ⟨Af, cf', hAe, hRf, hnf, hmf⟩ := hOf.reads
    injection hAe with e1 _ e3
    subst e1 e3
    have hb1a : Bytes wa wa.heap.size A1 n1 l1 := Reads.more (Reads.below hb1 hga) hga.size
    go_wp2_with (at_builtin; refine stay ?_)
    refine stay_out ?_
    refine wpList_own (V := fun x => x = wa.heap.size) u8E _ rfl (.tmp 31) (.tmp 32) rfl (.slice (some ⟨wa.heap.size, 0, none⟩) 0 0) 0 [] rfl (made_own wa) wa.heap.size (some ⟨g, 0, none⟩) (n0 + 5) cf (u8s (frame l0)) rfl (Reads.alloc hRf (Nat.le_refl _) _) u8s_one (by omega) ?_
    intro v2 wb hO2 hj2
    simp only [Nat.zero_add, List.nil_append] at hO2
    obtain ⟨hO2, hgb⟩ := own_new hO2 hj2
    clear hj2
    have hb1b : Bytes wb wb.heap.size A1 n1 l1 := Reads.more (Reads.below hb1a hgb) hgb.size
    go_wp2_with (at_builtin; refine stay ?_)
    refine stay_out ?_
    refine wpList_own (V := New wa wb) u8E _ rfl (.tmp 33) (.tmp 34) rfl v2 (n0 + 5) (u8s (frame l0)) rfl hO2 wb.heap.size A1 n1 c1 (u8s l1) rfl hb1b u8s_one (by omega) ?_
    intro v3 wc hO3 hj3
    obtain ⟨hO3, hgc⟩ := own_more hgb hO3 hj3
    clear hj3 hO2
    rw [← u8s_append] at hO3
    obtain ⟨A3, c3, rfl, hR3, hn3, hm3⟩ := hO3.reads
    go_wp2_with fail
    go_at_call 14
    refine (Read_any wc A3 _ c3 (frame l0 ++ l1) hR3 hn3 hm3).mono ?_
    rintro e wd ⟨x, k, ok, v4, hRd, rfl, hO4, hgd⟩
    obtain ⟨hx1, rfl, rfl⟩ := hRd.one (frame_read l0 l1 (by rw [hbr.len]; omega))
    obtain rfl : l0 = x := hx1.symm
    have cv1 := conv_is wd hO4.isBytes
    have hgwd := (hga.trans hgc).trans hgd
    have cv2 := conv_bytes wd (c := c0) (Reads.below hbr hgwd)
    clear hRd hO4 hO3 hR3
    have hOd := (Own.grow hOf (fun b hb => hb.2) (hgc.trans hgd))
    have hRfd : Bytes wd wd.heap.size (some ⟨g, 0, none⟩) (n0 + 5) (frame l0) := Reads.more (Reads.below hRf (hgc.trans hgd)) (hgc.trans hgd).size
    go_wp2_with fail
    go_at_call 13
    refine (within_any _ z 0 _ hz (by omega) (by omega) (by omega)).mono ?_
    rintro e w4 ⟨j', hj0, hj1, rfl, rfl⟩
    obtain ⟨j, rfl⟩ := Int.eq_ofNat_of_zero_le hj0
    have hjf : j < n0 + 5 := by omega
    have hjc : (j : Int) ≤ (cf : Int) := by omega
    have hRj : Bytes wd wd.heap.size (some ⟨g, 0, none⟩) j ((frame l0).take j) := by
      have := Reads.take hRfd (k := j) (by omega)
      unfold Bytes; rw [u8s_take]; exact this
    clear cv1 cv2
    go_wp2_with fail
    go_at_call 14
    refine (Read_any wd _ j cf ((frame l0).take j) hRj (by omega) hmf).mono ?_
    rintro e we ⟨x, k, ok, v5, hRd, rfl, _, hge⟩
    obtain ⟨rfl, rfl, rfl⟩ := hRd.one (ReadIs.none (no_short (by rw [hfl]; exact hjf)))
    have hOe := hOd.grow (fun b hb => by have := hb.2; have := hgc.size; have := hgd.size; omega) hge
    go_wp2_with fail
    go_at_call 13
    refine (within_any _ z 0 _ hz (by omega) (by omega) (by omega)).mono ?_
    rintro e w4 ⟨i', hi0, hi1, rfl, rfl⟩
    obtain ⟨i, rfl⟩ := Int.eq_ofNat_of_zero_le hi0
    have hif : i + 1 < n0 + 5 := by omega
    obtain ⟨g', cf', hAe, _, hat⟩ := own_at hOe (by omega)
    injection hAe with e1 _ e3
    injection e1 with e1
    injection e1 with e1 _ _
    subst e1 e3
    obtain ⟨u, hu, hcell, hfz, hput⟩ := hat (i + 1) hif
    obtain ⟨hil, hu'⟩ := u8s_get hu
    subst hu'
    have hwi : IntKind.i64.wrap (1 + (i : Int)) = 1 + (i : Int) := by rw [IntKind.wrap_i64]; omega
    have hni : (1 + (i : Int)).toNat = i + 1 := by omega
    obtain ⟨d, hd0, hd⟩ := one_bit y
    have hil' := hil
    have hnone := turned_none (b := l0) (p := i + 1) (d := d) (by rw [hbr.len]; omega) (by omega) hil' hd0
    have hx8 := xor8 (frame l0)[i + 1] d
    rw [← hd] at hx8
    have hput := hput (.int .u8 (((frame l0)[i + 1] ^^^ d).toNat : Int))
    rw [u8s_set] at hput
    have hsl : ((frame l0).set (i + 1) ((frame l0)[i + 1] ^^^ d)).length = n0 + 5 := by rw [List.length_set]; exact hfl
    clear hi1 hRd hd
    generalize (frame l0)[i + 1] = fi at hcell hnone hx8 hput hsl
    generalize fi ^^^ d = yv at hnone hx8 hput hsl
    obtain ⟨Af, cf2, hAe, hR6, hn6, hm6⟩ := hput.reads
    injection hAe with e1 _ e3
    subst e1 e3
    go_wp2_with fail
    go_at_call 14
    refine (Read_any _ _ (n0 + 5) _ ((frame l0).set (i + 1) yv) hR6 hn6 hm6).mono ?_
    rintro e wg ⟨x, k, ok, v6, hRd, rfl, _, hgg⟩
    obtain ⟨rfl, rfl, rfl⟩ := hRd.one (ReadIs.none hnone)
    have hg3 := (grow_set (hgwd.trans hge) (g := g) hVg.1 (i + 1) (.int .u8 (yv.toNat : Int))).trans hgg
    clear hput hcell hfz hR6 hRd hx8 hnone
    go_wp2_with (go_at_call 12; refine (known_any _).mono ?_; rintro e w7 ⟨rfl, hg7⟩)
    go_ret
    exact ⟨rfl, hg3.trans hg7⟩
end Go.Proofs.Ytocpepknlnghkaa
