/- VarintBack: its walk. -/
import Derived.Test.YtoeffekghmmmjaaVbook
namespace Go.Proofs.Ytoeffekghmmmjaa
open Go.RowKit Go.Hop
theorem nil_own {w w1 : World} {v : Value} {n : Nat} {l : List UInt8} (h : Own w1 (New w w1) 5 1 v (0 + n) (u8s ([] ++ l))) : Own w1 (New w w1) 5 1 v n (u8s l) := by rw [Nat.zero_add, List.nil_append] at h; exact h
set_option maxRecDepth 100000 in
set_option maxHeartbeats 4000000 in
theorem back_any (w : World) (n m : Nat) (hn : n < 18446744073709551616) (hm : m < 18446744073709551616) (z : Int) (hz : -9223372036854775808 ≤ z ∧ z ≤ 9223372036854775807) (A : Option Addr) (nb c : Nat) (l : List UInt8) (hb : Bytes w w.heap.size A nb l) (hnb : nb ≤ 1048576) :
    Calls Try.prog 3 #[.int .u64 (n : Int), .int .u64 (m : Int), .int .i64 z, .slice A nb c] w fun e w' => e = .returned (.bool true) ∧ Grow w w' := by
  obtain ⟨L1, HL1⟩ : ∃ L, Hid (L = (enc n).length) := ⟨_, rfl⟩
  obtain ⟨L2, HL2⟩ : ∃ L, Hid (L = (enc m).length) := ⟨_, rfl⟩
  have h1 : 1 ≤ L1 ∧ L1 ≤ 10 := by rw [HL1.out]; exact ⟨enc_pos n, enc_ten hn⟩
  have h2 : L2 ≤ 10 := by rw [HL2.out]; exact enc_ten hm
  have h12 : n ≤ m → L1 ≤ L2 := fun h => by rw [HL1.out, HL2.out]; exact enc_grows m n h
  have H12 := Lib.hid h12
  clear h12
  obtain ⟨X, HX⟩ : ∃ X, Hid (X = enc n) := ⟨_, rfl⟩
  go_enter Try.func3, Try.ntmps3
  go_wp2_with fail
  go_at_call 8
  refine (Put_any w none 0 0 [] Reads.nil (by omega) n hn).mono ?_
  rintro e w1 ⟨v1, rfl, hO1, hg1⟩
  have hO1 := nil_own hO1
  rw [← HL1.out, ← HX.out] at hO1
  obtain ⟨A1, c1, rfl, hR1, hn1, hm1⟩ := hO1.reads
  go_wp2_with fail
  go_at_call 8
  refine (Put_any w1 none 0 0 [] Reads.nil (by omega) m hm).mono ?_
  rintro e w2 ⟨v2, rfl, hO2, hg2⟩
  have hO2 := nil_own hO2
  rw [← HL2.out] at hO2
  obtain ⟨A2, c2, rfl, hR2, hn2, hm2⟩ := hO2.reads
  have hg12 := hg1.trans hg2
  have hX2 : Bytes w2 w2.heap.size A1 L1 X := Reads.more (Reads.below hR1 hg2) hg2.size
  go_wp2_with (at_builtin; refine stay ?_)
  refine stay_out ?_
  refine wpList_own (V := fun b => b = w2.heap.size) u8E _ rfl (.tmp 20) (.tmp 21) rfl (.slice (some ⟨w2.heap.size, 0, none⟩) 0 0) 0 [] rfl (made_own w2) w2.heap.size A1 L1 c1 (u8s X) rfl (Reads.alloc hX2 (Nat.le_refl _) _) u8s_one (by omega) ?_
  intro v3 w3 hO3 hj3
  simp only [Nat.zero_add, List.nil_append] at hO3
  obtain ⟨hO3, hg3⟩ := own_new hO3 hj3
  clear hj3
  obtain ⟨A3, c3, rfl, hR3, hn3, hm3⟩ := hO3.reads
  have hb3 : Bytes w3 w3.heap.size A nb l := Reads.more (Reads.below hb (hg12.trans hg3)) (hg12.trans hg3).size
  go_wp2_with (at_builtin; refine stay ?_)
  refine stay_out ?_
  refine wpList_own (V := New w2 w3) u8E _ rfl (.tmp 22) (.tmp 23) rfl (.slice A3 L1 c3) L1 (u8s X) rfl hO3 w3.heap.size A nb c (u8s l) rfl hb3 u8s_one (by omega) ?_
  intro v4 w4 hO4 hj4
  rw [← u8s_append] at hO4
  obtain ⟨hO4, hg4⟩ := own_more hg3 hO4 hj4
  clear hj4 hO3 hR3 hb3
  obtain ⟨A4, c4, rfl, hR4, hn4, hm4⟩ := hO4.reads
  go_wp2_with fail
  go_at_call 9
  refine (Get_any w4 _ A4 (L1 + nb) c4 (X ++ l) hR4 (by unfold maxLen; omega)).mono ?_
  rintro e w5 ⟨v, k, hG, rfl, rfl⟩
  obtain ⟨hv, hk⟩ := hG.one (n' := n) (k' := (enc n).length) (.inl ⟨hn, by rw [HX.out]; exact List.prefix_append _ _, rfl⟩)
  rw [← HL1.out] at hk
  obtain rfl : n = v := hv.symm
  obtain rfl : k = L1 := hk
  clear hG
  have hX4 : Bytes w4 w4.heap.size A1 k X := Reads.more (Reads.below hX2 hg4) hg4.size
  have hXd : Bytes w4 w4.heap.size A1 (k - 1) (X.take (k - 1)) := by
    have := Reads.take hX4 (k := k - 1) (by omega)
    unfold Bytes
    rw [u8s_take]; exact this
  have hgo : Grow w w4 := hg12.trans hg4
  have hnone : ∀ v' k' : Nat, GetIs (X.take (k - 1)) v' k' → k' = 0 := fun v' k' h => (h.one (GetIs.none fun q hq hp => by
    rw [HX.out, HL1.out, ← List.dropLast_eq_take] at hp
    exact enc_canon_drop hp)).2
  clear hO1 hO2 hO4 hR1 hR2 hR4 hX2 hX4 hg1 hg2 hg12 hg3 hg4
  have hsub : wrap64 ((k : Int) - 1) = ((k - 1 : Nat) : Int) := by unfold wrap64; omega
  have h1a : decide ((k : Int) < 1) = false := decide_eq_false (by omega)
  have h1b : decide (10 < (k : Int)) = false := decide_eq_false (by omega)
  have hcs : (decide (n ≤ m) = true ∧ decide (L2 < k) = false) ∨ decide (n ≤ m) = false := by
    by_cases hle : n ≤ m
    · have := H12.out hle; exact .inl ⟨decide_eq_true (by omega), decide_eq_false (by omega)⟩
    · exact .inr (decide_eq_false (by omega))
  rcases hcs with ⟨hle, hll⟩ | hle
  all_goals
    go_wp2_with fail
    go_at_call 9
    refine (Get_any w4 _ A1 (k - 1) c1 (X.take (k - 1)) hXd (by unfold maxLen; omega)).mono ?_
    rintro e w5 ⟨v', k', hG, rfl, rfl⟩
    obtain rfl := hnone _ _ hG
    go_wp2_with fail
    go_at_call 11
    refine (Zig_any _ z hz).mono ?_
    rintro e w6 ⟨rfl, rfl⟩
    go_wp2_with fail
    go_at_call 10
    refine (Zag_any _ (zig z) (zig_lt hz)).mono ?_
    rintro e w6 ⟨rfl, rfl⟩
    rw [zag_zig]
    go_wp2_with fail
    go_at_call 10
    refine (Zag_any _ n hn).mono ?_
    rintro e w6 ⟨rfl, rfl⟩
    go_wp2_with fail
    go_at_call 11
    refine (Zig_any _ (zag n) (zag_in hn)).mono ?_
    rintro e w6 ⟨rfl, rfl⟩
    rw [zig_zag]
    go_wp2_with (go_at_call 12; refine (known_any _).mono ?_; rintro e w7 ⟨rfl, hg7⟩)
    go_ret
    exact ⟨rfl, hgo.trans hg7⟩
end Go.Proofs.Ytoeffekghmmmjaa
