/- VarintZigs: its walk. -/
import Derived.Test.YtoeffekghmmmjaaBack
namespace Go.Proofs.Ytoeffekghmmmjaa
open Go.RowKit Go.Hop
theorem canon_bytes : ∀ (p : List UInt8), Canon p → ∀ (i : Nat) (hi : i < p.length), 128 ≤ p[i].toNat ↔ i + 1 < p.length
  | [], h, _, _ => h.elim
  | [c], h, i, hi => by
    have h : c.toNat < 128 := h
    have hi0 : i = 0 := by simp at hi; omega
    subst hi0
    simp; exact h
  | c :: d :: l, h, 0, _ => by
    have := h.1
    simp; omega
  | c :: d :: l, h, i + 1, hi => by
    have := canon_bytes (d :: l) h.2.2 i (by simpa using hi)
    simp at this ⊢
    omega
set_option maxRecDepth 100000 in
set_option maxHeartbeats 4000000 in
theorem zigs_any (w : World) (z : Int) (hz : -9223372036854775808 ≤ z ∧ z ≤ 9223372036854775807) (n : Nat) (hn : n < 18446744073709551616) :
    Calls Try.prog 4 #[.int .i64 z, .int .u64 (n : Int)] w fun e w' => e = .returned (.bool true) ∧ Grow w w' := by
  have hr1 := Int.tmod_lt_of_pos z (show (0 : Int) < 64 by omega)
  have hr2 := Int.lt_tmod_of_pos z (show (0 : Int) < 64 by omega)
  obtain ⟨r, HR⟩ : ∃ r : Int, Hid (r = z.tmod 64) := ⟨_, rfl⟩
  have hrr : -64 < r ∧ r < 64 := by rw [HR.out]; omega
  have hzr : zig r < 128 := by unfold zig; split <;> omega
  clear hr1 hr2
  obtain ⟨L, HL⟩ : ∃ L, Hid (L = (enc n).length) := ⟨_, rfl⟩
  have hL : 1 ≤ L ∧ L ≤ 10 := by rw [HL.out]; exact ⟨enc_pos n, enc_ten hn⟩
  have hcb := canon_bytes _ (enc_canon n)
  have HCB := Lib.hid hcb
  clear hcb
  go_enter Try.func4, Try.ntmps4
  go_wp2_with fail
  rw [← HR.out]
  go_at_call 11
  refine (Zig_any w r (by omega)).mono ?_
  rintro e w1 ⟨rfl, rfl⟩
  obtain ⟨zr, HZR⟩ : ∃ q, Hid (q = zig r) := ⟨_, rfl⟩
  rw [← HZR.out] at hzr ⊢
  go_wp2_with fail
  go_at_call 8
  refine (Put_any w none 0 0 [] Reads.nil (by omega) zr (by omega)).mono ?_
  rintro e w1 ⟨v1, rfl, hO1, hg1⟩
  have hO1 := nil_own hO1
  rw [enc_small hzr] at hO1
  obtain ⟨A1, c1, rfl, hR1, hn1, hm1⟩ := hO1.reads
  have e1 : ([UInt8.ofNat zr] : List UInt8).length = 1 := rfl
  rw [e1] at hO1 hR1 hn1 ⊢
  go_wp2_with fail
  go_at_call 8
  refine (Put_any w1 none 0 0 [] Reads.nil (by omega) n hn).mono ?_
  rintro e w2 ⟨v2, rfl, hO2, hg2⟩
  have hO2 := nil_own hO2
  rw [← HL.out] at hO2
  obtain ⟨A2, c2, rfl, hR2, hn2, hm2⟩ := hO2.reads
  have hB2 : Bytes w2 w2.heap.size A2 L (enc n) := hR2
  have hg12 := hg1.trans hg2
  clear hO1 hO2 hR1 hR2 e1
  go_wp2_with fail
  go_loopw [16] (fun iv wr => ∃ i : Nat, i ≤ L ∧ iv = .int .i64 i ∧ wr = w2) (fun iv _ => L - (intOf iv).toNat)
  case atStart => exact ⟨0, by omega, rfl, rfl⟩
  case round =>
    obtain ⟨i, hiL, rfl, rfl⟩ := hrel
    by_cases hi : i < L
    · obtain ⟨ad, hil, rfl, hcell⟩ := hB2.at_ hi
      have hx := HCB.out i hil
      rw [← HL.out] at hx
      obtain ⟨x, HX⟩ : ∃ x : Nat, Hid (x = (enc n)[i].toNat) := ⟨(enc n)[i].toNat, rfl⟩
      rw [← HX.out] at hcell hx
      by_cases hl : i + 1 < L
      · have hx1 : 128 ≤ x := hx.2 hl
        have hd1 : decide (128 ≤ (x : Int)) = true := decide_eq_true (by omega)
        have hd2 : decide ((i : Int) < (L : Int) - 1) = true := decide_eq_true (by omega)
        clear hx
        go_wp2_with fail
        go_roundw
        case rel => exact ⟨i + 1, by omega, by go_num, trivial⟩
        case measure => simp [intOf]; omega
      · have hx1 : x < 128 := by omega
        have hd1 : decide (128 ≤ (x : Int)) = false := decide_eq_false (by omega)
        have hd2 : decide ((i : Int) < (L : Int) - 1) = false := decide_eq_false (by omega)
        clear hx
        go_wp2_with fail
        go_roundw
        case rel => exact ⟨i + 1, by omega, by go_num, trivial⟩
        case measure => simp [intOf]; omega
    · obtain rfl : i = L := by omega
      obtain ⟨zz, HZZ⟩ : ∃ q, Hid (q = zig z) := ⟨_, rfl⟩
      have hzl : zz < 18446744073709551616 := by rw [HZZ.out]; exact zig_lt hz
      have ea := and1 zz hzl
      by_cases h0 : z < 0
      · have hm : zz % 2 = 1 := by rw [HZZ.out]; unfold zig; rw [if_neg (by omega)]; omega
        have hd : (zz : Int) / 2 = -(z + 1) := by rw [HZZ.out]; unfold zig; rw [if_neg (by omega)]; omega
        rw [hm] at ea
        have hw1 : wrap64 (z + 1) = z + 1 := by unfold wrap64; omega
        have hw2 : wrap64 (-(z + 1)) = -(z + 1) := by unfold wrap64; omega
        have hw3 : IntKind.u64.wrap (-(z + 1)) = -(z + 1) := by rw [wrap_u64]; omega
        have hmx : ¬ (-(z + 1) < z) := by omega
        go_wp2_with fail
        skip
        go_at_call 11
        refine (Zig_any _ z hz).mono ?_
        rintro e w6 ⟨rfl, rfl⟩
        rw [← HZZ.out]
        go_wp2_with fail
        go_at_call 11
        refine (Zig_any _ z hz).mono ?_
        rintro e w6 ⟨rfl, rfl⟩
        rw [← HZZ.out]
        go_wp2_with (go_at_call 12; refine (known_any _).mono ?_; rintro e w7 ⟨rfl, hg7⟩)
        go_ret
        exact ⟨rfl, hg12.trans hg7⟩
      · have hm : zz % 2 = 0 := by rw [HZZ.out]; unfold zig; rw [if_pos (by omega)]; omega
        have hd : (zz : Int) / 2 = z := by rw [HZZ.out]; unfold zig; rw [if_pos (by omega)]; omega
        rw [hm] at ea
        obtain ⟨y, hy, hyz⟩ : ∃ y : Int, wrap64 (-wrap64 (z + 1)) = y ∧ y < z + 1 := ⟨_, rfl, by unfold wrap64; omega⟩
        have hw3 : IntKind.u64.wrap z = z := by rw [wrap_u64]; omega
        have hdz : decide (z < 0) = false := decide_eq_false h0
        go_wp2_with fail
        skip
        go_at_call 11
        refine (Zig_any _ z hz).mono ?_
        rintro e w6 ⟨rfl, rfl⟩
        rw [← HZZ.out]
        go_wp2_with fail
        go_at_call 11
        refine (Zig_any _ z hz).mono ?_
        rintro e w6 ⟨rfl, rfl⟩
        rw [← HZZ.out]
        go_wp2_with (go_at_call 12; refine (known_any _).mono ?_; rintro e w7 ⟨rfl, hg7⟩)
        go_ret
        exact ⟨rfl, hg12.trans hg7⟩
end Go.Proofs.Ytoeffekghmmmjaa
