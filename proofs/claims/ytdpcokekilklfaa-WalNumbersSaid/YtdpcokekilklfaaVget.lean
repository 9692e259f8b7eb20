/- Get: what it tells. -/
import Derived.Test.YtdpcokekilklfaaVput
namespace Go.Proofs.Ytdpcokekilklfaa
open Go.RowKit Go.Hop
theorem andNot128 : ∀ x : Nat, x < 256 → bits .andNot .u64 (x : Int) 128 = ((x % 128 : Nat) : Int) := by decide +kernel
theorem pow7 (i : Nat) : (2 : Int) ^ (i * 7) = ((128 ^ i : Nat) : Int) := by
  rw [Nat.mul_comm, Int.pow_mul]; push_cast; rfl
theorem shl_in (p i : Nat) (h : p * 128 ^ i < 18446744073709551616) : IntKind.u64.wrap ((p : Int) * 2 ^ (i * 7)) = ((p * 128 ^ i : Nat) : Int) := by
  rw [pow7, ← Int.natCast_mul, wrap_u64]; omega
theorem shr_in (p i : Nat) : ((p * 128 ^ i : Nat) : Int) / 2 ^ (i * 7) = (p : Int) := by
  rw [pow7, ← Int.natCast_ediv, Nat.mul_div_cancel _ (Nat.pow_pos (by omega))]
theorem shl_out (p i : Nat) (h : ¬ p * 128 ^ i < 18446744073709551616) (hi : i ≤ 9) (hp : p < 128) : ∃ q d : Nat, IntKind.u64.wrap ((p : Int) * 2 ^ (i * 7)) = (q : Int) ∧ (q : Int) / 2 ^ (i * 7) = (d : Int) ∧ d ≠ p := by
  have h9 : i = 9 := by
    rcases Nat.lt_or_ge i 9 with h1 | h1
    · exfalso
      have : 128 ^ i ≤ 128 ^ 8 := Nat.pow_le_pow_right (by omega) (by omega)
      have h2 : p * 128 ^ i ≤ 127 * 128 ^ 8 := Nat.mul_le_mul (by omega) this
      omega
    · omega
  subst h9
  refine ⟨p * 128 ^ 9 % 18446744073709551616, p % 2, ?_, ?_, by omega⟩
  · rw [pow7, ← Int.natCast_mul, wrap_u64]; omega
  · rw [pow7]; omega
theorem or_nat (a b : Nat) (ha : a < 18446744073709551616) (hb : b < 18446744073709551616) : bits .or .u64 (a : Int) (b : Int) = ((a ||| b : Nat) : Int) := by
  show IntKind.u64.wrap ((BitVec.ofInt 64 (a : Int) ||| BitVec.ofInt 64 (b : Int)).toNat : Nat) = _
  rw [BitVec.toNat_or, BitVec.toNat_ofInt, BitVec.toNat_ofInt, wrap_u64]
  rw [show ((a : Int) % ((2 ^ 64 : Nat) : Int)).toNat = a by omega, show ((b : Int) % ((2 ^ 64 : Nat) : Int)).toNat = b by omega]
  have := Nat.or_lt_two_pow (n := 64) ha hb
  omega
theorem or_lt (a p i : Nat) (ha : a < 128 ^ i) (h : p * 128 ^ i < 18446744073709551616) (hi : i ≤ 9) : a + p * 128 ^ i < 18446744073709551616 := by
  have h64 : (18446744073709551616 : Nat) = 2 ^ (64 - 7 * i) * 128 ^ i := by
    rw [show (128 : Nat) = 2 ^ 7 by rfl, ← Nat.pow_mul, ← Nat.pow_add, show 64 - 7 * i + 7 * i = 64 by omega]
  rw [h64] at h ⊢
  have hp : p < 2 ^ (64 - 7 * i) := Nat.lt_of_mul_lt_mul_right h
  calc a + p * 128 ^ i < 128 ^ i + p * 128 ^ i := by omega
    _ = (p + 1) * 128 ^ i := by rw [Nat.add_mul]; omega
    _ ≤ 2 ^ (64 - 7 * i) * 128 ^ i := Nat.mul_le_mul_right _ hp
theorem or_in (a p i : Nat) (ha : a < 128 ^ i) (h : p * 128 ^ i < 18446744073709551616) (hi : i ≤ 9) (_hp : p < 128) : bits .or .u64 (a : Int) ((p * 128 ^ i : Nat) : Int) = ((a + p * 128 ^ i : Nat) : Int) := by
  have h1 := or_lt a p i ha h hi
  rw [or_nat a _ (by omega) h]
  have hpow : (128 : Nat) ^ i = 2 ^ (7 * i) := by rw [Nat.pow_mul]
  rw [hpow] at ha ⊢
  have := Nat.two_pow_add_eq_or_of_lt ha p
  rw [Nat.mul_comm p, Nat.or_comm, ← this, Nat.add_comm]
set_option maxRecDepth 100000 in
set_option maxHeartbeats 1000000 in
theorem Get_short (w : World) (B : Nat) (A : Option Addr) (n c : Nat) (l : List UInt8) (hb : Bytes w B A n l) (hnm : n ≤ maxLen) (hn : n < 10) :
    Calls Try.prog 47 #[.slice A n c] w fun e w' => ∃ v k : Nat, GetIs l v k ∧ e = .returned (.tuple #[.int .u64 (v : Int), .int .i64 (k : Int)]) ∧ w = w' := by
  have hlen := hb.len
  unfold maxLen at hnm
  go_enter Try.func47, Try.ntmps47
  go_wp2_with fail
  go_loopw [4, 11] (fun av iv wr => ∃ i : Nat, i ≤ n ∧ iv = .int .i64 i ∧ av = .int .u64 (val (l.take i) : Int) ∧ Hi l i ∧ wr = w) (fun _ iv _ => n - (intOf iv).toNat)
  case atStart => exact ⟨0, by omega, rfl, rfl, fun j hj h => by omega, rfl⟩
  case round =>
    obtain ⟨i, hin, rfl, rfl, hhi, rfl⟩ := hrel
    by_cases hi : i < n
    · obtain ⟨ad, hil, rfl, hcell⟩ := hb.at_ (show i < n by omega)
      have hc := l[i].toNat_lt
      obtain ⟨x, HX⟩ : ∃ x : Nat, Hid (x = l[i].toNat) := ⟨l[i].toNat, rfl⟩
      rw [← HX.out] at hcell hc
      have ean := andNot128 x (by omega)
      obtain ⟨p, HPX⟩ : ∃ p : Nat, Hid (p = x % 128) := ⟨_, rfl⟩
      have hp : p < 128 := by have := HPX.out; omega
      rw [← HPX.out] at ean
      have hv := val_take_succ l i hil
      rw [← HX.out, ← HPX.out] at hv
      have hvl := val_take_lt l i
      obtain ⟨a, HA⟩ : ∃ a : Nat, Hid (a = val (l.take i)) := ⟨_, rfl⟩
      obtain ⟨b, HB⟩ : ∃ b : Nat, Hid (b = val (l.take (i + 1))) := ⟨_, rfl⟩
      rw [← HA.out] at hv hvl
      rw [← HB.out] at hv
      rw [← HA.out]
      have HHI := Lib.hid hhi
      clear hhi
      by_cases hov : p * 128 ^ i < 18446744073709551616
      · have ew := shl_in p i hov
        obtain ⟨q, HQ⟩ : ∃ q : Nat, Hid (q = p * 128 ^ i) := ⟨_, rfl⟩
        have ed := shr_in p i
        rw [← HQ.out] at ew ed hv hov
        have eo : bits .or .u64 (a : Int) (q : Int) = (b : Int) := by
          rw [hv, HQ.out]
          exact or_in a p i hvl (by rw [← HQ.out]; exact hov) (show i ≤ 9 by omega) hp
        have hbl : b < 18446744073709551616 := by
          have := or_lt a p i hvl (by rw [← HQ.out]; exact hov) (show i ≤ 9 by omega)
          rw [← HQ.out] at this
          omega
        clear hv hvl
        by_cases hx : 128 ≤ x
        · go_wp2_with fail
          go_roundw
          case rel => exact ⟨i + 1, by omega, by go_num, by rw [HB.out], hi_succ hil HHI.out (by rw [← HX.out]; exact hx), trivial⟩
          case measure => simp [intOf]; omega
        · by_cases hz : x ≤ 0 ∧ 0 < i
          · obtain ⟨hz, h0⟩ := hz
            have hz' : l[i] = 0 := by
              have := HX.out
              apply UInt8.toNat_inj.1
              rw [← this, show x = 0 by omega]; rfl
            go_wp2_with fail
            go_ret2
            exact ⟨0, 0, GetIs.none (none_nought hil HHI.out hz' h0), rfl, rfl⟩
          · have hG : GetIs l b (i + 1) := by
              rw [HB.out]
              refine some_here hil HHI.out (by rw [← HX.out]; omega) ?_ (by rw [← HB.out]; exact hbl)
              by_cases h0 : i = 0
              · exact .inr h0
              · refine .inl fun e => hz ⟨?_, by omega⟩
                have : x = 0 := by rw [HX.out, e]; rfl
                omega
            by_cases hx0 : x ≤ 0
            · have hi0 : i ≤ 0 := by omega
              clear hz
              go_wp2_with fail
              go_ret2
              exact ⟨b, i + 1, hG, by push_cast; rfl, rfl⟩
            · clear hz
              go_wp2_with fail
              go_ret2
              exact ⟨b, i + 1, hG, by push_cast; rfl, rfl⟩
      · obtain ⟨q, d, ew, ed, hd⟩ := shl_out p i (by omega) (by omega) hp
        go_wp2_with fail
        go_ret2
        refine ⟨0, 0, GetIs.none (none_great hil HHI.out ?_), rfl, rfl⟩
        rw [← HX.out, ← HPX.out]; omega
    · have hi' : i = n := by omega
      have HHI := Lib.hid hhi
      clear hhi
      obtain ⟨a, HA⟩ : ∃ a : Nat, Hid (a = val (l.take i)) := ⟨_, rfl⟩
      rw [← HA.out]
      subst hi'
      go_wp2_with fail
      go_ret2
      exact ⟨0, 0, GetIs.none (none_long HHI.out (by omega)), rfl, rfl⟩
set_option maxRecDepth 100000 in
set_option maxHeartbeats 1000000 in
theorem Get_long (w : World) (B : Nat) (A : Option Addr) (n c : Nat) (l : List UInt8) (hb : Bytes w B A n l) (hnm : n ≤ maxLen) (hn : 10 < n) :
    Calls Try.prog 47 #[.slice A n c] w fun e w' => ∃ v k : Nat, GetIs l v k ∧ e = .returned (.tuple #[.int .u64 (v : Int), .int .i64 (k : Int)]) ∧ w = w' := by
  have hlen := hb.len
  unfold maxLen at hnm
  go_enter Try.func47, Try.ntmps47
  go_wp2_with fail
  go_loopw [4, 11] (fun av iv wr => ∃ i : Nat, i ≤ 10 ∧ iv = .int .i64 i ∧ av = .int .u64 (val (l.take i) : Int) ∧ Hi l i ∧ wr = w) (fun _ iv _ => 10 - (intOf iv).toNat)
  case atStart => exact ⟨0, by omega, rfl, rfl, fun j hj h => by omega, rfl⟩
  case round =>
    obtain ⟨i, hin, rfl, rfl, hhi, rfl⟩ := hrel
    by_cases hi : i < 10
    · obtain ⟨ad, hil, rfl, hcell⟩ := hb.at_ (show i < n by omega)
      have hc := l[i].toNat_lt
      obtain ⟨x, HX⟩ : ∃ x : Nat, Hid (x = l[i].toNat) := ⟨l[i].toNat, rfl⟩
      rw [← HX.out] at hcell hc
      have ean := andNot128 x (by omega)
      obtain ⟨p, HPX⟩ : ∃ p : Nat, Hid (p = x % 128) := ⟨_, rfl⟩
      have hp : p < 128 := by have := HPX.out; omega
      rw [← HPX.out] at ean
      have hv := val_take_succ l i hil
      rw [← HX.out, ← HPX.out] at hv
      have hvl := val_take_lt l i
      obtain ⟨a, HA⟩ : ∃ a : Nat, Hid (a = val (l.take i)) := ⟨_, rfl⟩
      obtain ⟨b, HB⟩ : ∃ b : Nat, Hid (b = val (l.take (i + 1))) := ⟨_, rfl⟩
      rw [← HA.out] at hv hvl
      rw [← HB.out] at hv
      rw [← HA.out]
      have HHI := Lib.hid hhi
      clear hhi
      by_cases hov : p * 128 ^ i < 18446744073709551616
      · have ew := shl_in p i hov
        obtain ⟨q, HQ⟩ : ∃ q : Nat, Hid (q = p * 128 ^ i) := ⟨_, rfl⟩
        have ed := shr_in p i
        rw [← HQ.out] at ew ed hv hov
        have eo : bits .or .u64 (a : Int) (q : Int) = (b : Int) := by
          rw [hv, HQ.out]
          exact or_in a p i hvl (by rw [← HQ.out]; exact hov) (show i ≤ 9 by omega) hp
        have hbl : b < 18446744073709551616 := by
          have := or_lt a p i hvl (by rw [← HQ.out]; exact hov) (show i ≤ 9 by omega)
          rw [← HQ.out] at this
          omega
        clear hv hvl
        by_cases hx : 128 ≤ x
        · go_wp2_with fail
          go_roundw
          case rel => exact ⟨i + 1, by omega, by go_num, by rw [HB.out], hi_succ hil HHI.out (by rw [← HX.out]; exact hx), trivial⟩
          case measure => simp [intOf]; omega
        · by_cases hz : x ≤ 0 ∧ 0 < i
          · obtain ⟨hz, h0⟩ := hz
            have hz' : l[i] = 0 := by
              have := HX.out
              apply UInt8.toNat_inj.1
              rw [← this, show x = 0 by omega]; rfl
            go_wp2_with fail
            go_ret2
            exact ⟨0, 0, GetIs.none (none_nought hil HHI.out hz' h0), rfl, rfl⟩
          · have hG : GetIs l b (i + 1) := by
              rw [HB.out]
              refine some_here hil HHI.out (by rw [← HX.out]; omega) ?_ (by rw [← HB.out]; exact hbl)
              by_cases h0 : i = 0
              · exact .inr h0
              · refine .inl fun e => hz ⟨?_, by omega⟩
                have : x = 0 := by rw [HX.out, e]; rfl
                omega
            by_cases hx0 : x ≤ 0
            · have hi0 : i ≤ 0 := by omega
              clear hz
              go_wp2_with fail
              go_ret2
              exact ⟨b, i + 1, hG, by push_cast; rfl, rfl⟩
            · clear hz
              go_wp2_with fail
              go_ret2
              exact ⟨b, i + 1, hG, by push_cast; rfl, rfl⟩
      · obtain ⟨q, d, ew, ed, hd⟩ := shl_out p i (by omega) (by omega) hp
        go_wp2_with fail
        go_ret2
        refine ⟨0, 0, GetIs.none (none_great hil HHI.out ?_), rfl, rfl⟩
        rw [← HX.out, ← HPX.out]; omega
    · have hi' : i = 10 := by omega
      have HHI := Lib.hid hhi
      clear hhi
      obtain ⟨a, HA⟩ : ∃ a : Nat, Hid (a = val (l.take i)) := ⟨_, rfl⟩
      rw [← HA.out]
      subst hi'
      go_wp2_with fail
      go_ret2
      exact ⟨0, 0, GetIs.none (none_long HHI.out (by omega)), rfl, rfl⟩
set_option maxRecDepth 100000 in
set_option maxHeartbeats 1000000 in
theorem Get_ten (w : World) (B : Nat) (A : Option Addr) (n c : Nat) (l : List UInt8) (hb : Bytes w B A n l) (hnm : n ≤ maxLen) (hn : n = 10) :
    Calls Try.prog 47 #[.slice A n c] w fun e w' => ∃ v k : Nat, GetIs l v k ∧ e = .returned (.tuple #[.int .u64 (v : Int), .int .i64 (k : Int)]) ∧ w = w' := by
  have hlen := hb.len
  subst hn
  clear hnm
  go_enter Try.func47, Try.ntmps47
  go_wp2_with fail
  go_loopw [4, 11] (fun av iv wr => ∃ i : Nat, i ≤ 10 ∧ iv = .int .i64 i ∧ av = .int .u64 (val (l.take i) : Int) ∧ Hi l i ∧ wr = w) (fun _ iv _ => 10 - (intOf iv).toNat)
  case atStart => exact ⟨0, by omega, rfl, rfl, fun j hj h => by omega, rfl⟩
  case round =>
    obtain ⟨i, hin, rfl, rfl, hhi, rfl⟩ := hrel
    by_cases hi : i < 10
    · obtain ⟨ad, hil, rfl, hcell⟩ := hb.at_ (show i < 10 by omega)
      have hc := l[i].toNat_lt
      obtain ⟨x, HX⟩ : ∃ x : Nat, Hid (x = l[i].toNat) := ⟨l[i].toNat, rfl⟩
      rw [← HX.out] at hcell hc
      have ean := andNot128 x (by omega)
      obtain ⟨p, HPX⟩ : ∃ p : Nat, Hid (p = x % 128) := ⟨_, rfl⟩
      have hp : p < 128 := by have := HPX.out; omega
      rw [← HPX.out] at ean
      have hv := val_take_succ l i hil
      rw [← HX.out, ← HPX.out] at hv
      have hvl := val_take_lt l i
      obtain ⟨a, HA⟩ : ∃ a : Nat, Hid (a = val (l.take i)) := ⟨_, rfl⟩
      obtain ⟨b, HB⟩ : ∃ b : Nat, Hid (b = val (l.take (i + 1))) := ⟨_, rfl⟩
      rw [← HA.out] at hv hvl
      rw [← HB.out] at hv
      rw [← HA.out]
      have HHI := Lib.hid hhi
      clear hhi
      by_cases hov : p * 128 ^ i < 18446744073709551616
      · have ew := shl_in p i hov
        obtain ⟨q, HQ⟩ : ∃ q : Nat, Hid (q = p * 128 ^ i) := ⟨_, rfl⟩
        have ed := shr_in p i
        rw [← HQ.out] at ew ed hv hov
        have eo : bits .or .u64 (a : Int) (q : Int) = (b : Int) := by
          rw [hv, HQ.out]
          exact or_in a p i hvl (by rw [← HQ.out]; exact hov) (show i ≤ 9 by omega) hp
        have hbl : b < 18446744073709551616 := by
          have := or_lt a p i hvl (by rw [← HQ.out]; exact hov) (show i ≤ 9 by omega)
          rw [← HQ.out] at this
          omega
        clear hv hvl
        by_cases hx : 128 ≤ x
        · go_wp2_with fail
          go_roundw
          case rel => exact ⟨i + 1, by omega, by go_num, by rw [HB.out], hi_succ hil HHI.out (by rw [← HX.out]; exact hx), trivial⟩
          case measure => simp [intOf]; omega
        · by_cases hz : x ≤ 0 ∧ 0 < i
          · obtain ⟨hz, h0⟩ := hz
            have hz' : l[i] = 0 := by
              have := HX.out
              apply UInt8.toNat_inj.1
              rw [← this, show x = 0 by omega]; rfl
            go_wp2_with fail
            go_ret2
            exact ⟨0, 0, GetIs.none (none_nought hil HHI.out hz' h0), rfl, rfl⟩
          · have hG : GetIs l b (i + 1) := by
              rw [HB.out]
              refine some_here hil HHI.out (by rw [← HX.out]; omega) ?_ (by rw [← HB.out]; exact hbl)
              by_cases h0 : i = 0
              · exact .inr h0
              · refine .inl fun e => hz ⟨?_, by omega⟩
                have : x = 0 := by rw [HX.out, e]; rfl
                omega
            by_cases hx0 : x ≤ 0
            · have hi0 : i ≤ 0 := by omega
              clear hz
              go_wp2_with fail
              go_ret2
              exact ⟨b, i + 1, hG, by push_cast; rfl, rfl⟩
            · clear hz
              go_wp2_with fail
              go_ret2
              exact ⟨b, i + 1, hG, by push_cast; rfl, rfl⟩
      · obtain ⟨q, d, ew, ed, hd⟩ := shl_out p i (by omega) (by omega) hp
        go_wp2_with fail
        go_ret2
        refine ⟨0, 0, GetIs.none (none_great hil HHI.out ?_), rfl, rfl⟩
        rw [← HX.out, ← HPX.out]; omega
    · have hi' : i = 10 := by omega
      have HHI := Lib.hid hhi
      clear hhi
      obtain ⟨a, HA⟩ : ∃ a : Nat, Hid (a = val (l.take i)) := ⟨_, rfl⟩
      rw [← HA.out]
      subst hi'
      go_wp2_with fail
      go_ret2
      exact ⟨0, 0, GetIs.none (none_long HHI.out (by omega)), rfl, rfl⟩
theorem Get_any (w : World) (B : Nat) (A : Option Addr) (n c : Nat) (l : List UInt8) (hb : Bytes w B A n l) (hnm : n ≤ maxLen) :
    Calls Try.prog 47 #[.slice A n c] w fun e w' => ∃ v k : Nat, GetIs l v k ∧ e = .returned (.tuple #[.int .u64 (v : Int), .int .i64 (k : Int)]) ∧ w = w' := by
  by_cases h : n < 10
  · exact Get_short w B A n c l hb hnm h
  · by_cases h' : 10 < n
    · exact Get_long w B A n c l hb hnm h'
    · exact Get_ten w B A n c l hb hnm (by omega)
end Go.Proofs.Ytdpcokekilklfaa
