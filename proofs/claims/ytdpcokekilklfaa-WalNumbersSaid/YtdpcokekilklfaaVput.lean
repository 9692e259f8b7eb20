/- Put: what it writes. -/
import Derived.Test.YtdpcokekilklfaaVplain
import Derived.Test.YtdpcokekilklfaaBts
namespace Go.Proofs.Ytdpcokekilklfaa
open Go.RowKit Go.Hop
theorem or128_small : ∀ x : Nat, x < 256 → bits .or .u8 (x : Int) 128 = ((x % 128 + 128 : Nat) : Int) := by decide +kernel
theorem or128 (m : Nat) : bits .or .u8 ((m : Int) % 256) 128 = ((m % 128 + 128 : Nat) : Int) := by
  have := or128_small (m % 256) (by omega)
  rw [show ((m % 256 : Nat) : Int) = (m : Int) % 256 by omega] at this
  rw [this]
  omega
theorem _root_.Go.Hop.Reads.cells_eq {w : World} {B size n : Nat} {A : Option Addr} {xs ys : List Value} (h : Reads w B size A n xs) (e : ys = xs) : Reads w B size A n ys := e ▸ h
set_option maxRecDepth 100000 in
theorem Put_any (w : World) (A : Option Addr) (n c : Nat) (l : List UInt8) (hb : Bytes w w.heap.size A n l) (hn : n ≤ 1099511627776) (m : Nat) (hm : m < 18446744073709551616) :
    Calls Try.prog 40 #[.slice A n c, .int .u64 (m : Int)] w fun e w' => ∃ v, e = .returned v ∧ Own w' (New w w') 5 1 v (n + (enc m).length) (u8s (l ++ enc m)) ∧ Grow w w' := by
  have hlen := enc_ten hm
  go_enter Try.func40, Try.ntmps40
  go_wp2_with (go_at_call 38; refine (clone_any _ A n c l hb (by omega)).mono ?_; rintro e w1 ⟨v1, rfl, hO1, hg1⟩)
  go_loopw [1, 5] (fun mv v wr => ∃ (pre : List UInt8) (m' : Nat), mv = .int .u64 (m' : Int) ∧ m' < 18446744073709551616 ∧ pre ++ enc m' = enc m ∧ Own wr (New w wr) 5 1 v (n + pre.length) (u8s (l ++ pre)) ∧ Grow w wr) (fun mv _ _ => (intOf mv).toNat)
  case atStart => exact ⟨[], m, rfl, hm, rfl, by simpa using hO1, hg1⟩
  case round =>
    obtain ⟨pre, m', rfl, hm', hpre, hO, hg⟩ := hrel
    obtain ⟨A1, c1, rfl, hR1, hn1, hm1⟩ := hO.reads
    have hpl : pre.length ≤ 10 := by have := congrArg List.length hpre; rw [List.length_append] at this; omega
    have HP := Lib.hid hpre
    clear hpre
    by_cases hgo : 128 ≤ m'
    · have eor := or128 m'
      go_wp2_with (at_builtin; refine stay ?_)
      refine stay_out ?_
      refine wpList_own (V := New w wr) u8E _ rfl (.tmp 10) (.tmp 14) rfl (.slice A1 (n + pre.length) c1) (n + pre.length) (u8s (l ++ pre)) rfl (own_alloc hO _) (wr.heap.size + 1) (some ⟨wr.heap.size, 0, none⟩) 1 1 (u8s [UInt8.ofNat (m' % 128 + 128)]) rfl (reads_laid wr _ 5 _ rfl _ rfl |>.cells_eq (by simp only [u8s, List.map_cons, List.map_nil]; rw [of_nat (by omega)]; push_cast; rfl)) u8s_one (by omega) ?_
      intro v3 w3 hO3 hj3
      rw [← u8s_append, List.append_assoc] at hO3
      obtain ⟨hO3, hg3⟩ := own_more1 hg hO3 hj3
      clear hj3 hO hR1
      go_wp2_with fail
      go_roundw
      case rel => exact ⟨pre ++ [UInt8.ofNat (m' % 128 + 128)], m' / 128, by go_num, by omega, by rw [List.append_assoc, List.singleton_append, ← enc_more hgo]; exact HP.out, by rw [List.length_append, ← Nat.add_assoc]; exact hO3, hg3⟩
      case measure => simp [intOf]; omega
    · go_wp2_with (at_builtin; refine stay ?_)
      refine stay_out ?_
      refine wpList_own (V := New w wr) u8E _ rfl (.tmp 18) (.tmp 21) rfl (.slice A1 (n + pre.length) c1) (n + pre.length) (u8s (l ++ pre)) rfl (own_alloc hO _) (wr.heap.size + 1) (some ⟨wr.heap.size, 0, none⟩) 1 1 (u8s [UInt8.ofNat m']) rfl (reads_laid wr _ 5 _ rfl _ rfl |>.cells_eq (by simp only [u8s, List.map_cons, List.map_nil]; rw [of_nat (by omega)])) u8s_one (by omega) ?_
      intro v3 w3 hO3 hj3
      rw [← u8s_append, List.append_assoc] at hO3
      obtain ⟨hO3, hg3⟩ := own_more1 hg hO3 hj3
      have hP := HP.out
      rw [enc_small (by omega)] at hP
      rw [hP] at hO3
      have hL := congrArg List.length hP
      rw [List.length_append, List.length_singleton] at hL
      have hL' : n + pre.length + 1 = n + (enc m).length := by omega
      rw [hL'] at hO3
      clear hj3 hO hR1 hP hL hL'
      obtain ⟨A3, c3, rfl, hR3, hn3, hm3⟩ := hO3.reads
      go_wp2_with (go_at_call 39; refine (clip_own _ _ _ _ _ hO3).mono ?_; rintro e w4 ⟨v4, rfl, rfl, hO4⟩)
      go_ret
      exact ⟨v4, rfl, hO4, hg3⟩
end Go.Proofs.Ytdpcokekilklfaa
