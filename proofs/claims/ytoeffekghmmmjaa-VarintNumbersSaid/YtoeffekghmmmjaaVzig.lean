/- Zig and Zag, of both. -/
import Derived.Test.YtoeffekghmmmjaaVcut
namespace Go.Proofs.Ytoeffekghmmmjaa
open Go.RowKit Go.Hop
/-- a number without its sign; with it again -/
def zig (n : Int) : Nat := if 0 ≤ n then (2 * n).toNat else (-2 * n - 1).toNat
def zag (m : Nat) : Int := if m % 2 = 0 then ((m / 2 : Nat) : Int) else -((m / 2 : Nat) : Int) - 1
theorem zig_lt {n : Int} (hn : -9223372036854775808 ≤ n ∧ n ≤ 9223372036854775807) : zig n < 18446744073709551616 := by
  unfold zig; split <;> omega
theorem zag_in {m : Nat} (hm : m < 18446744073709551616) : -9223372036854775808 ≤ zag m ∧ zag m ≤ 9223372036854775807 := by
  unfold zag; split <;> omega
theorem zag_zig (n : Int) : zag (zig n) = n := by
  unfold zig zag
  split
  · rw [if_pos (by omega)]; omega
  · rw [if_neg (by omega)]; omega
theorem zig_zag (m : Nat) : zig (zag m) = m := by
  unfold zag zig
  split
  · rw [if_pos (by omega)]; omega
  · rw [if_neg (by omega)]; omega
theorem xor_nat (a b : Nat) (ha : a < 18446744073709551616) (hb : b < 18446744073709551616) : bits .xor .u64 (a : Int) (b : Int) = ((a ^^^ b : Nat) : Int) := by
  show IntKind.u64.wrap ((BitVec.ofInt 64 (a : Int) ^^^ BitVec.ofInt 64 (b : Int)).toNat : Nat) = _
  rw [BitVec.toNat_xor, BitVec.toNat_ofInt, BitVec.toNat_ofInt, wrap_u64]
  rw [show ((a : Int) % ((2 ^ 64 : Nat) : Int)).toNat = a by omega, show ((b : Int) % ((2 ^ 64 : Nat) : Int)).toNat = b by omega]
  have := Nat.xor_lt_two_pow (n := 64) ha hb
  omega
theorem xor_ones (a : Nat) (ha : a < 18446744073709551616) : a ^^^ 18446744073709551615 = 18446744073709551615 - a := by
  have h := congrArg BitVec.toNat (BitVec.xor_allOnes (x := BitVec.ofNat 64 a))
  rw [BitVec.toNat_xor, BitVec.toNat_not, BitVec.toNat_ofNat, BitVec.toNat_allOnes, Nat.mod_eq_of_lt ha] at h
  exact h
theorem zig_bits {n : Int} (hn : -9223372036854775808 ≤ n ∧ n ≤ 9223372036854775807) : bits .xor .u64 (IntKind.u64.wrap (IntKind.u64.wrap n * 2)) (IntKind.u64.wrap (n / 9223372036854775808)) = (zig n : Int) := by
  rw [wrap_u64, wrap_u64, wrap_u64]
  unfold zig
  by_cases h : 0 ≤ n
  · rw [if_pos h, show n / 9223372036854775808 % 18446744073709551616 = ((0 : Nat) : Int) by omega, show n % 18446744073709551616 * 2 % 18446744073709551616 = (((2 * n).toNat : Nat) : Int) by omega, xor_nat _ _ (by omega) (by omega), Nat.xor_zero]
  · rw [if_neg h, show n / 9223372036854775808 % 18446744073709551616 = ((18446744073709551615 : Nat) : Int) by omega, show n % 18446744073709551616 * 2 % 18446744073709551616 = (((2 * n + 18446744073709551616).toNat : Nat) : Int) by omega, xor_nat _ _ (by omega) (by omega), xor_ones _ (by omega)]
    omega
theorem zig_bits' {n : Int} (hn : -9223372036854775808 ≤ n ∧ n ≤ 9223372036854775807) : bits .xor .u64 (IntKind.u64.wrap (wrap64 (n * 2))) (IntKind.u64.wrap (n / 9223372036854775808)) = (zig n : Int) := by
  rw [← zig_bits hn]
  rw [show IntKind.u64.wrap (wrap64 (n * 2)) = IntKind.u64.wrap (IntKind.u64.wrap n * 2) by rw [wrap_u64, wrap_u64, wrap_u64]; unfold wrap64; omega]
theorem and1 (m : Nat) (hm : m < 18446744073709551616) : bits .and .u64 (m : Int) 1 = ((m % 2 : Nat) : Int) := by
  show IntKind.u64.wrap ((BitVec.ofInt 64 (m : Int) &&& BitVec.ofInt 64 1).toNat : Nat) = _
  have h1 : (BitVec.ofInt 64 1).toNat = 2 ^ 1 - 1 := by decide
  rw [BitVec.toNat_and, BitVec.toNat_ofInt, h1, Nat.and_two_pow_sub_one_eq_mod, wrap_u64]
  omega
theorem zag_bits {m : Nat} (hm : m < 18446744073709551616) : bits .xor .i64 ((m : Int) / 2) (wrap64 (-wrap64 (bits .and .u64 (m : Int) 1))) = zag m := by
  rw [and1 m hm]
  have h1 : (BitVec.ofInt 64 (-1)).toNat = 18446744073709551615 := by decide
  have h0 : (BitVec.ofInt 64 0).toNat = 0 := by decide
  have hd : ((m : Int) / 2 % ((2 ^ 64 : Nat) : Int)).toNat = m / 2 := by omega
  unfold zag
  by_cases h : m % 2 = 0
  · rw [if_pos h, h, show wrap64 (-wrap64 ((0 : Nat) : Int)) = 0 by unfold wrap64; omega]
    show IntKind.i64.wrap ((BitVec.ofInt 64 ((m : Int) / 2) ^^^ BitVec.ofInt 64 0).toNat : Nat) = _
    rw [BitVec.toNat_xor, BitVec.toNat_ofInt, h0, Nat.xor_zero, IntKind.wrap_i64, hd]
    omega
  · rw [if_neg h, show m % 2 = 1 by omega, show wrap64 (-wrap64 ((1 : Nat) : Int)) = -1 by unfold wrap64; omega]
    show IntKind.i64.wrap ((BitVec.ofInt 64 ((m : Int) / 2) ^^^ BitVec.ofInt 64 (-1)).toNat : Nat) = _
    rw [BitVec.toNat_xor, BitVec.toNat_ofInt, h1, hd, xor_ones _ (by omega), IntKind.wrap_i64]
    omega
theorem Zig_any (w : World) (n : Int) (hn : -9223372036854775808 ≤ n ∧ n ≤ 9223372036854775807) :
    Calls Try.prog 11 #[.int .i64 n] w fun e w' => e = .returned (.int .u64 (zig n : Int)) ∧ w = w' := by
  go_enter Try.func11, Try.ntmps11
  go_wp2_with fail
  go_ret
  exact ⟨ret_int (zig_bits hn), rfl⟩
theorem rZig_any (w : World) (n : Int) (hn : -9223372036854775808 ≤ n ∧ n ≤ 9223372036854775807) :
    Calls Try.prog 22 #[.int .i64 n] w fun e w' => e = .returned (.int .u64 (zig n : Int)) ∧ w = w' := by
  go_enter Try.func22, Try.ntmps22
  go_wp2_with fail
  go_ret
  exact ⟨ret_int (zig_bits' hn), rfl⟩
theorem Zag_any (w : World) (n : Nat) (hn : n < 18446744073709551616) :
    Calls Try.prog 10 #[.int .u64 (n : Int)] w fun e w' => e = .returned (.int .i64 (zag n)) ∧ w = w' := by
  go_enter Try.func10, Try.ntmps10
  go_wp2_with fail
  go_ret
  exact ⟨ret_int (zag_bits hn), rfl⟩
theorem rZag_any (w : World) (n : Nat) (hn : n < 18446744073709551616) :
    Calls Try.prog 23 #[.int .u64 (n : Int)] w fun e w' => e = .returned (.int .i64 (zag n)) ∧ w = w' := by
  go_enter Try.func23, Try.ntmps23
  go_wp2_with fail
  go_ret
  exact ⟨ret_int (zag_bits hn), rfl⟩
end Go.Proofs.Ytoeffekghmmmjaa
