/- VarintTells: its walk. -/
import Derived.Test.YtoeffekghmmmjaaWithin
namespace Go.Proofs.Ytoeffekghmmmjaa
open Go.RowKit Go.Hop
theorem bulk_string {H : Type} {d : DataW H} {s : ByteArray} (h : d = .lit (.string s.data.toList)) : s.size ≤ Rows.uptoBulk d := by
  rw [h, bulks.string_eq]
  have : s.data.toList.length = s.size := by rw [Array.length_toList]; rfl
  omega
theorem div_in {z : Int} (hz : -9223372036854775808 ≤ z ∧ z ≤ 9223372036854775807) (j : Nat) : -9223372036854775808 ≤ z / 2 ^ j ∧ z / 2 ^ j ≤ 9223372036854775807 := by
  have hp : (0 : Int) < 2 ^ j := Int.pow_pos (by omega)
  constructor
  · refine (Int.le_ediv_iff_mul_le hp).2 ?_
    have h1 : (1 : Int) ≤ 2 ^ j := by omega
    have := Int.mul_le_mul_of_nonneg_left h1 (show (0 : Int) ≤ 9223372036854775808 by omega)
    omega
  · have h1 : (1 : Int) ≤ 2 ^ j := by omega
    have h2 := Int.mul_le_mul_of_nonneg_left h1 (show (0 : Int) ≤ 9223372036854775808 by omega)
    have := (Int.ediv_lt_iff_lt_mul hp (a := z) (b := 9223372036854775808)).2 (by omega)
    omega
theorem and63u (m : Nat) (hm : m < 18446744073709551616) : bits .and .u64 (m : Int) 63 = ((m % 64 : Nat) : Int) := by
  show IntKind.u64.wrap ((BitVec.ofInt 64 (m : Int) &&& BitVec.ofInt 64 63).toNat : Nat) = _
  have h1 : (BitVec.ofInt 64 63).toNat = 2 ^ 6 - 1 := by decide
  rw [BitVec.toNat_and, BitVec.toNat_ofInt, h1, Nat.and_two_pow_sub_one_eq_mod, wrap_u64]
  omega
set_option maxRecDepth 100000 in
set_option maxHeartbeats 4000000 in
theorem tells_s (w : World) (A : Option Addr) (n c : Nat) (l : List UInt8) (hb : Bytes w w.heap.size A n l) (hnc : n ≤ c) (hcm : c ≤ maxLen) (hn : n ≤ 1048576) (m : Nat) (hm : m < 18446744073709551616) (s : ByteArray) (hs0 : s.size ≤ 1048576) (z : Int) (hz : -9223372036854775808 ≤ z ∧ z ≤ 9223372036854775807) (x : Int) (hx : -9223372036854775808 ≤ x ∧ x ≤ 9223372036854775807) (hcase : s.size ≤ 200) :
    Calls Try.prog 6 #[.slice A n c, .int .u64 (m : Int), .string s, .int .i64 z, .int .i64 x] w fun e w' => e = .returned (.bool true) ∧ Grow w w' := by
  go_enter Try.func6, Try.ntmps6
  go_wp2_with fail
  obtain ⟨S, rfl⟩ : ∃ S : ByteArray, S = s := ⟨_, rfl⟩
  have hs : S.size ≤ 1048576 := hs0
  go_at_call 13
  refine (rPut_any w none 0 0 [] Reads.nil (by omega) m hm).mono ?_
  rintro e w1 ⟨v1, rfl, hO1, hg1⟩
  have hO1 := nil_own hO1
  have hL1 : (enc m).length ≤ 10 := enc_ten hm
  obtain ⟨L1, HL1⟩ : ∃ L, Hid (L = (enc m).length) := ⟨_, rfl⟩
  rw [← HL1.out] at hO1 hL1
  obtain ⟨A1, c1, rfl, hR1, hn1, hm1⟩ := hO1.reads
  go_wp2_with fail
  go_at_call 16
  refine (rText_any w1 A1 L1 c1 (enc m) hR1 (by omega) S (by omega)).mono ?_
  rintro e w2 ⟨v2, rfl, hO2, hg2⟩
  have hL2 : (enc S.size).length ≤ 10 := enc_ten (by omega)
  obtain ⟨N2, HN2⟩ : ∃ L, Hid (L = L1 + (enc S.size).length + S.size) := ⟨_, rfl⟩
  have hN2 : N2 ≤ 1048596 := by rw [HN2.out]; omega
  obtain ⟨Y, HY⟩ : ∃ Y : List UInt8, Hid (Y = enc m ++ enc S.size ++ S.data.toList) := ⟨_, rfl⟩
  rw [← HN2.out, ← HY.out] at hO2
  clear hL2 hO1 hR1
  obtain ⟨A2, c2, rfl, hR2, hn2, hm2⟩ := hO2.reads
  have hg12 := hg1.trans hg2
  have hb2 : Bytes w2 w2.heap.size A n l := Reads.more (Reads.below hb hg12) hg12.size
  go_wp2_with (at_builtin; refine stay ?_)
  refine stay_out ?_
  refine wpList_own (V := New w1 w2) u8E _ rfl (.tmp 21) (.tmp 22) rfl (.slice A2 N2 c2) N2 (u8s Y) rfl hO2 w2.heap.size A n c (u8s l) rfl hb2 u8s_one (by omega) ?_
  intro v3 w3 hO3 hj3
  rw [← u8s_append] at hO3
  obtain ⟨hO3, hg3⟩ := own_more hg2 hO3 hj3
  clear hj3 hO2 hR2 hb2
  obtain ⟨N3, HN3⟩ : ∃ L, Hid (L = N2 + n) := ⟨_, rfl⟩
  have hN3 : N3 ≤ 2097172 := by rw [HN3.out]; omega
  obtain ⟨X, HX⟩ : ∃ X : List UInt8, Hid (X = Y ++ l) := ⟨_, rfl⟩
  rw [← HN3.out, ← HX.out] at hO3
  obtain ⟨A3, c3, rfl, hR3, hn3, hm3⟩ := hO3.reads
  have hg03 := hg1.trans hg3
  have hl : ∀ w', Grow w3 w' → Bytes w' w'.heap.size A n l := fun w' hg => Reads.more (Reads.below hb (hg03.trans hg)) (hg03.trans hg).size
  have hX : ∀ w', Grow w3 w' → Bytes w' w'.heap.size A3 N3 X := fun w' hg => Reads.more (Reads.below hR3 hg) hg.size
  clear hO3 hg12 hg1 hg2 hg3
  go_wp2_with (go_at_call 17; refine (within_nat _ x 0 (N3 : Int) hx (by omega) (by omega) (by omega)).mono ?_; rintro e w4 ⟨k, hk0, hk1, rfl, rfl⟩)
  go_at_call 14
  refine (puts_any w3 A n c l (hl w3 (Grow.refl _)) (by omega) m hm S (by omega) z hz).mono ?_
  rintro e w4 ⟨rfl, hg4⟩
  have hkn : k ≤ N3 := by omega
  clear hk0 hk1
  have hmd : ∃ q : Nat, q < 18446744073709551616 ∧ (m : Int) / 2 ^ (m % 64) = (q : Int) := ⟨m / 2 ^ (m % 64), Nat.lt_of_le_of_lt (Nat.div_le_self _ _) hm, by push_cast; rfl⟩
  obtain ⟨q, hq, hqe⟩ := hmd
  have hzd : ∃ y : Int, (-9223372036854775808 ≤ y ∧ y ≤ 9223372036854775807) ∧ z / 2 ^ (m % 64) = y := ⟨_, div_in hz _, rfl⟩
  obtain ⟨y, hy, hye⟩ := hzd
  have ea := and63u m hm
  go_wp2_with fail
  go_at_call 14
  refine (puts_any w4 A n c l (hl w4 hg4) (by omega) q hq S (by omega) y hy).mono ?_
  rintro e w5 ⟨rfl, hg5⟩
  have hg5 := hg4.trans hg5
  go_wp2_with fail
  go_at_call 15
  refine (reads_any w5 A n c l (hl w5 hg5) hnc hcm).mono ?_
  rintro e w6 ⟨rfl, hg6⟩
  have hg6 := hg5.trans hg6
  go_wp2_with fail
  go_at_call 15
  refine (reads_any w6 A3 N3 c3 X (hX w6 hg6) hn3 hm3).mono ?_
  rintro e w7 ⟨rfl, hg7⟩
  have hg7 := hg6.trans hg7
  have hXk : Bytes w7 w7.heap.size A3 k (X.take k) := by
    have := Reads.take (hX w7 hg7) (k := k) hkn
    unfold Bytes
    rw [u8s_take]; exact this
  have hck : ¬ (c3 : Int) < (k : Int) := by omega
  have hck2 : ¬ c3 < k := by omega
  go_wp2_with fail
  go_at_call 15
  refine (reads_any w7 A3 k c3 (X.take k) hXk (by omega) hm3).mono ?_
  rintro e w8 ⟨rfl, hg8⟩
  have hg8 := hg7.trans hg8
  clear hXk
  have hXd : Bytes w8 w8.heap.size (if c3 = k then A3 else A3.map (·.add k)) (N3 - k) (X.drop k) := by
    have hXd := Reads.cut (hX w8 hg8) (k := k) hkn hn3
    unfold Bytes; rw [u8s_drop]
    rwa [Nat.mul_one] at hXd ⊢
  have hfin : ∀ w', Grow w8 w' → Grow w w' := fun w' h => hg03.trans (hg8.trans h)
  by_cases hcs : c3 = k
  · rw [if_pos hcs] at hXd
    obtain rfl : k = c3 := hcs.symm
    obtain rfl : k = N3 := by omega
    rw [Nat.sub_self] at hXd
    go_wp2_with fail
    go_at_call 15
    refine (reads_any w8 A3 0 0 _ hXd (by omega) (by unfold maxLen; omega)).mono ?_
    rintro e w9 ⟨rfl, hg9⟩
    go_wp2_with (go_at_call 12; refine (known_any _).mono ?_; rintro e wk ⟨rfl, hgk⟩)
    go_ret
    exact ⟨rfl, hfin _ (hg9.trans hgk)⟩
  · rw [if_neg hcs] at hXd
    go_wp2_with fail
    go_at_call 15
    refine (reads_any w8 _ (N3 - k) (c3 - k) _ hXd (by omega) (by omega)).mono ?_
    rintro e w9 ⟨rfl, hg9⟩
    go_wp2_with (go_at_call 12; refine (known_any _).mono ?_; rintro e wk ⟨rfl, hgk⟩)
    go_ret
    exact ⟨rfl, hfin _ (hg9.trans hgk)⟩
set_option maxRecDepth 100000 in
set_option maxHeartbeats 4000000 in
theorem tells_g (w : World) (A : Option Addr) (n c : Nat) (l : List UInt8) (hb : Bytes w w.heap.size A n l) (hnc : n ≤ c) (hcm : c ≤ maxLen) (hn : n ≤ 1048576) (m : Nat) (hm : m < 18446744073709551616) (s : ByteArray) (hs0 : s.size ≤ 1048576) (z : Int) (hz : -9223372036854775808 ≤ z ∧ z ≤ 9223372036854775807) (x : Int) (hx : -9223372036854775808 ≤ x ∧ x ≤ 9223372036854775807) (hcase : 200 < s.size) :
    Calls Try.prog 6 #[.slice A n c, .int .u64 (m : Int), .string s, .int .i64 z, .int .i64 x] w fun e w' => e = .returned (.bool true) ∧ Grow w w' := by
  go_enter Try.func6, Try.ntmps6
  go_wp2_with fail
  obtain ⟨S, HS⟩ : ∃ S : ByteArray, Hid (S = s.extract 0 200) := ⟨_, rfl⟩
  rw [← HS.out]
  have hs : S.size ≤ 1048576 := by rw [HS.out, ByteArray.size_extract]; omega
  go_at_call 13
  refine (rPut_any w none 0 0 [] Reads.nil (by omega) m hm).mono ?_
  rintro e w1 ⟨v1, rfl, hO1, hg1⟩
  have hO1 := nil_own hO1
  have hL1 : (enc m).length ≤ 10 := enc_ten hm
  obtain ⟨L1, HL1⟩ : ∃ L, Hid (L = (enc m).length) := ⟨_, rfl⟩
  rw [← HL1.out] at hO1 hL1
  obtain ⟨A1, c1, rfl, hR1, hn1, hm1⟩ := hO1.reads
  go_wp2_with fail
  go_at_call 16
  refine (rText_any w1 A1 L1 c1 (enc m) hR1 (by omega) S (by omega)).mono ?_
  rintro e w2 ⟨v2, rfl, hO2, hg2⟩
  have hL2 : (enc S.size).length ≤ 10 := enc_ten (by omega)
  obtain ⟨N2, HN2⟩ : ∃ L, Hid (L = L1 + (enc S.size).length + S.size) := ⟨_, rfl⟩
  have hN2 : N2 ≤ 1048596 := by rw [HN2.out]; omega
  obtain ⟨Y, HY⟩ : ∃ Y : List UInt8, Hid (Y = enc m ++ enc S.size ++ S.data.toList) := ⟨_, rfl⟩
  rw [← HN2.out, ← HY.out] at hO2
  clear hL2 hO1 hR1
  obtain ⟨A2, c2, rfl, hR2, hn2, hm2⟩ := hO2.reads
  have hg12 := hg1.trans hg2
  have hb2 : Bytes w2 w2.heap.size A n l := Reads.more (Reads.below hb hg12) hg12.size
  go_wp2_with (at_builtin; refine stay ?_)
  refine stay_out ?_
  refine wpList_own (V := New w1 w2) u8E _ rfl (.tmp 21) (.tmp 22) rfl (.slice A2 N2 c2) N2 (u8s Y) rfl hO2 w2.heap.size A n c (u8s l) rfl hb2 u8s_one (by omega) ?_
  intro v3 w3 hO3 hj3
  rw [← u8s_append] at hO3
  obtain ⟨hO3, hg3⟩ := own_more hg2 hO3 hj3
  clear hj3 hO2 hR2 hb2
  obtain ⟨N3, HN3⟩ : ∃ L, Hid (L = N2 + n) := ⟨_, rfl⟩
  have hN3 : N3 ≤ 2097172 := by rw [HN3.out]; omega
  obtain ⟨X, HX⟩ : ∃ X : List UInt8, Hid (X = Y ++ l) := ⟨_, rfl⟩
  rw [← HN3.out, ← HX.out] at hO3
  obtain ⟨A3, c3, rfl, hR3, hn3, hm3⟩ := hO3.reads
  have hg03 := hg1.trans hg3
  have hl : ∀ w', Grow w3 w' → Bytes w' w'.heap.size A n l := fun w' hg => Reads.more (Reads.below hb (hg03.trans hg)) (hg03.trans hg).size
  have hX : ∀ w', Grow w3 w' → Bytes w' w'.heap.size A3 N3 X := fun w' hg => Reads.more (Reads.below hR3 hg) hg.size
  clear hO3 hg12 hg1 hg2 hg3
  go_wp2_with (go_at_call 17; refine (within_nat _ x 0 (N3 : Int) hx (by omega) (by omega) (by omega)).mono ?_; rintro e w4 ⟨k, hk0, hk1, rfl, rfl⟩)
  go_at_call 14
  refine (puts_any w3 A n c l (hl w3 (Grow.refl _)) (by omega) m hm S (by omega) z hz).mono ?_
  rintro e w4 ⟨rfl, hg4⟩
  have hkn : k ≤ N3 := by omega
  clear hk0 hk1
  have hmd : ∃ q : Nat, q < 18446744073709551616 ∧ (m : Int) / 2 ^ (m % 64) = (q : Int) := ⟨m / 2 ^ (m % 64), Nat.lt_of_le_of_lt (Nat.div_le_self _ _) hm, by push_cast; rfl⟩
  obtain ⟨q, hq, hqe⟩ := hmd
  have hzd : ∃ y : Int, (-9223372036854775808 ≤ y ∧ y ≤ 9223372036854775807) ∧ z / 2 ^ (m % 64) = y := ⟨_, div_in hz _, rfl⟩
  obtain ⟨y, hy, hye⟩ := hzd
  have ea := and63u m hm
  go_wp2_with fail
  go_at_call 14
  refine (puts_any w4 A n c l (hl w4 hg4) (by omega) q hq S (by omega) y hy).mono ?_
  rintro e w5 ⟨rfl, hg5⟩
  have hg5 := hg4.trans hg5
  go_wp2_with fail
  go_at_call 15
  refine (reads_any w5 A n c l (hl w5 hg5) hnc hcm).mono ?_
  rintro e w6 ⟨rfl, hg6⟩
  have hg6 := hg5.trans hg6
  go_wp2_with fail
  go_at_call 15
  refine (reads_any w6 A3 N3 c3 X (hX w6 hg6) hn3 hm3).mono ?_
  rintro e w7 ⟨rfl, hg7⟩
  have hg7 := hg6.trans hg7
  have hXk : Bytes w7 w7.heap.size A3 k (X.take k) := by
    have := Reads.take (hX w7 hg7) (k := k) hkn
    unfold Bytes
    rw [u8s_take]; exact this
  have hck : ¬ (c3 : Int) < (k : Int) := by omega
  have hck2 : ¬ c3 < k := by omega
  go_wp2_with fail
  go_at_call 15
  refine (reads_any w7 A3 k c3 (X.take k) hXk (by omega) hm3).mono ?_
  rintro e w8 ⟨rfl, hg8⟩
  have hg8 := hg7.trans hg8
  clear hXk
  have hXd : Bytes w8 w8.heap.size (if c3 = k then A3 else A3.map (·.add k)) (N3 - k) (X.drop k) := by
    have hXd := Reads.cut (hX w8 hg8) (k := k) hkn hn3
    unfold Bytes; rw [u8s_drop]
    rwa [Nat.mul_one] at hXd ⊢
  have hfin : ∀ w', Grow w8 w' → Grow w w' := fun w' h => hg03.trans (hg8.trans h)
  by_cases hcs : c3 = k
  · rw [if_pos hcs] at hXd
    obtain rfl : k = c3 := hcs.symm
    obtain rfl : k = N3 := by omega
    rw [Nat.sub_self] at hXd
    go_wp2_with fail
    go_at_call 15
    refine (reads_any w8 A3 0 0 _ hXd (by omega) (by unfold maxLen; omega)).mono ?_
    rintro e w9 ⟨rfl, hg9⟩
    go_wp2_with (go_at_call 12; refine (known_any _).mono ?_; rintro e wk ⟨rfl, hgk⟩)
    go_ret
    exact ⟨rfl, hfin _ (hg9.trans hgk)⟩
  · rw [if_neg hcs] at hXd
    go_wp2_with fail
    go_at_call 15
    refine (reads_any w8 _ (N3 - k) (c3 - k) _ hXd (by omega) (by omega)).mono ?_
    rintro e w9 ⟨rfl, hg9⟩
    go_wp2_with (go_at_call 12; refine (known_any _).mono ?_; rintro e wk ⟨rfl, hgk⟩)
    go_ret
    exact ⟨rfl, hfin _ (hg9.trans hgk)⟩
theorem tells_any (w : World) (A : Option Addr) (n c : Nat) (l : List UInt8) (hb : Bytes w w.heap.size A n l) (hnc : n ≤ c) (hcm : c ≤ maxLen) (hn : n ≤ 1048576) (m : Nat) (hm : m < 18446744073709551616) (s : ByteArray) (hs0 : s.size ≤ 1048576) (z : Int) (hz : -9223372036854775808 ≤ z ∧ z ≤ 9223372036854775807) (x : Int) (hx : -9223372036854775808 ≤ x ∧ x ≤ 9223372036854775807) :
    Calls Try.prog 6 #[.slice A n c, .int .u64 (m : Int), .string s, .int .i64 z, .int .i64 x] w fun e w' => e = .returned (.bool true) ∧ Grow w w' := by
  by_cases h : s.size ≤ 200
  · exact tells_s w A n c l hb hnc hcm hn m hm s hs0 z hz x hx h
  · exact tells_g w A n c l hb hnc hcm hn m hm s hs0 z hz x hx (by omega)
end Go.Proofs.Ytoeffekghmmmjaa
