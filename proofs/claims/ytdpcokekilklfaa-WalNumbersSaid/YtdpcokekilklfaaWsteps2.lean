/- More steps that the statements share. -/
import Derived.Test.YtdpcokekilklfaaWsteps
namespace Go.Proofs.Ytdpcokekilklfaa
open Go.RowKit Go.Hop
theorem solo_imp {P : Nat → Prop} {S S' : Thing} {w : World} (h : Solo P S w) (hS : ∀ V, S w V → S' w V) : Solo P S' w := by
  obtain ⟨h0, V, h1, h2⟩ := h; exact ⟨h0, V, hS V h1, h2⟩
theorem crash_still {P : Nat → Prop} {w : World} {d : Nat} {l : List UInt8} (h : Solo P (DiskAt 44 d l l.length) w) :
    Calls Try.prog 13 #[.pointer (some ⟨d, 0, none⟩), .int .i64 0] w fun e w' => e = .returned (.int .i64 ((l.length : Int) - (l.length : Int) - ((0 : Nat) : Int))) ∧ Just P w w' ∧ Solo P (DiskAt 44 d l l.length) w' := by
  have hc := h.call (Crash_any w d l l.length 0 (by decide))
  have h0 : keepN l l.length 0 = 0 := by unfold keepN; omega
  rw [h0, Nat.add_zero, List.take_length] at hc
  exact hc
theorem cut_rows (xs : List (List UInt8)) (y : List UInt8) (m : Nat) (hx : ∀ x ∈ xs, x.length ≤ 65536) (hm : m < (frame y).length) : ScanIs ((xs.flatMap frame ++ frame y).take ((xs.flatMap frame).length + m)) xs (xs.flatMap frame).length := by
  rw [List.take_length_add_append]
  exact scan_rows xs _ hx (no_short hm)
theorem and_low (z M : Int) (k : Nat) (hk : k ≤ 62) (hM : (BitVec.ofInt 64 M).toNat = 2 ^ k - 1) : bits .and .i64 z M = z % (2 ^ k : Nat) := by
  have key : (BitVec.ofInt 64 z &&& BitVec.ofInt 64 M).toNat = (z % ((2 ^ 64 : Nat) : Int)).toNat % 2 ^ k := by
    rw [BitVec.toNat_and, BitVec.toNat_ofInt, hM, Nat.and_two_pow_sub_one_eq_mod]
  have hp : 2 ^ k ∣ 2 ^ 64 := Nat.pow_dvd_pow 2 (by omega)
  have hpos : 0 < 2 ^ k := Nat.pow_pos (by omega)
  have hle : 2 ^ k ≤ 2 ^ 62 := Nat.pow_le_pow_right (by omega) hk
  show IntKind.i64.wrap ((BitVec.ofInt 64 z &&& BitVec.ofInt 64 M).toNat : Nat) = z % (2 ^ k : Nat)
  rw [key]
  have h1 : (((z % ((2 ^ 64 : Nat) : Int)).toNat % 2 ^ k : Nat) : Int) = z % ((2 ^ k : Nat) : Int) := by
    rw [Int.natCast_emod, Int.toNat_of_nonneg (Int.emod_nonneg _ (by decide))]
    exact Int.emod_emod_of_dvd z (Int.natCast_dvd_natCast.2 hp)
  rw [h1, IntKind.wrap_i64]
  have h2 := Int.emod_nonneg z (b := ((2 ^ k : Nat) : Int)) (by omega)
  have h3 := Int.emod_lt_of_pos z (b := ((2 ^ k : Nat) : Int)) (by omega)
  omega
end Go.Proofs.Ytdpcokekilklfaa
