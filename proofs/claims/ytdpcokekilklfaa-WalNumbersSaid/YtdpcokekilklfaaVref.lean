/- The answer's Put, and texts. -/
import Derived.Test.YtdpcokekilklfaaVget
import Derived.Test.YtdpcokekilklfaaStr
namespace Go.Proofs.Ytdpcokekilklfaa
open Go.RowKit Go.Hop
set_option maxRecDepth 100000 in
theorem rPut_any (w : World) (A : Option Addr) (n c : Nat) (l : List UInt8) (hb : Bytes w w.heap.size A n l) (hn : n ≤ 1099511627776) (m : Nat) (hm : m < 18446744073709551616) :
    Calls Try.prog 29 #[.slice A n c, .int .u64 (m : Int)] w fun e w' => ∃ v, e = .returned v ∧ Own w' (New w w') 5 1 v (n + (enc m).length) (u8s (l ++ enc m)) ∧ Grow w w' := by
  have hlen := enc_ten hm
  go_enter Try.func29, Try.ntmps29
  go_wp2_with (at_builtin; refine stay ?_)
  refine stay_out ?_
  refine wpList_own (V := fun b => b = w.heap.size) u8E _ rfl (.tmp 6) (.tmp 7) rfl (.slice (some ⟨w.heap.size, 0, none⟩) 0 0) 0 [] rfl (made_own w) w.heap.size A n c (u8s l) rfl (Reads.alloc hb (Nat.le_refl _) _) u8s_one (by omega) ?_
  intro v1 w1 hO1 hj1
  simp only [Nat.zero_add, List.nil_append] at hO1
  obtain ⟨hO1, hg1⟩ := own_new hO1 hj1
  clear hj1
  go_wp2_with fail
  go_loopw [1, 5] (fun mv v wr => ∃ (pre : List UInt8) (m' : Nat), mv = .int .u64 (m' : Int) ∧ m' < 18446744073709551616 ∧ pre ++ enc m' = enc m ∧ Own wr (New w wr) 5 1 v (n + pre.length) (u8s (l ++ pre)) ∧ Grow w wr) (fun mv _ _ => (intOf mv).toNat)
  case atStart => exact ⟨[], m, rfl, hm, rfl, by simpa using hO1, hg1⟩
  case round =>
    obtain ⟨pre, m', rfl, hm', hpre, hO, hg⟩ := hrel
    obtain ⟨A1, c1, rfl, hR1, hn1, hm1⟩ := hO.reads
    have hpl : pre.length ≤ 10 := by have := congrArg List.length hpre; rw [List.length_append] at this; omega
    have HP := Lib.hid hpre
    clear hpre
    by_cases hgo : 128 ≤ m'
    · have eor := or128 m'
      go_wp2_with (at_builtin; refine stay ?_)
      refine stay_out ?_
      refine wpList_own (V := New w wr) u8E _ rfl (.tmp 11) (.tmp 15) rfl (.slice A1 (n + pre.length) c1) (n + pre.length) (u8s (l ++ pre)) rfl (own_alloc hO _) (wr.heap.size + 1) (some ⟨wr.heap.size, 0, none⟩) 1 1 (u8s [UInt8.ofNat (m' % 128 + 128)]) rfl (reads_laid wr _ 5 _ rfl _ rfl |>.cells_eq (by simp only [u8s, List.map_cons, List.map_nil]; rw [of_nat (by omega)]; push_cast; rfl)) u8s_one (by omega) ?_
      intro v3 w3 hO3 hj3
      rw [← u8s_append, List.append_assoc] at hO3
      obtain ⟨hO3, hg3⟩ := own_more1 hg hO3 hj3
      clear hj3 hO hR1
      go_wp2_with fail
      go_roundw
      case rel => exact ⟨pre ++ [UInt8.ofNat (m' % 128 + 128)], m' / 128, by go_num, by omega, by rw [List.append_assoc, List.singleton_append, ← enc_more hgo]; exact HP.out, by rw [List.length_append, ← Nat.add_assoc]; exact hO3, hg3⟩
      case measure => simp [intOf]; omega
    · go_wp2_with (at_builtin; refine stay ?_)
      refine stay_out ?_
      refine wpList_own (V := New w wr) u8E _ rfl (.tmp 19) (.tmp 22) rfl (.slice A1 (n + pre.length) c1) (n + pre.length) (u8s (l ++ pre)) rfl (own_alloc hO _) (wr.heap.size + 1) (some ⟨wr.heap.size, 0, none⟩) 1 1 (u8s [UInt8.ofNat m']) rfl (reads_laid wr _ 5 _ rfl _ rfl |>.cells_eq (by simp only [u8s, List.map_cons, List.map_nil]; rw [of_nat (by omega)])) u8s_one (by omega) ?_
      intro v3 w3 hO3 hj3
      rw [← u8s_append, List.append_assoc] at hO3
      obtain ⟨hO3, hg3⟩ := own_more1 hg hO3 hj3
      have hP := HP.out
      rw [enc_small (by omega)] at hP
      rw [hP] at hO3
      have hL := congrArg List.length hP
      rw [List.length_append, List.length_singleton] at hL
      have hL' : n + pre.length + 1 = n + (enc m).length := by omega
      rw [hL'] at hO3
      clear hj3 hO hR1 hP hL hL'
      obtain ⟨A3, c3, rfl, hR3, hn3, hm3⟩ := hO3.reads
      go_wp2_with fail
      go_ret
      exact ⟨_, rfl, hO3, hg3⟩
end Go.Proofs.Ytdpcokekilklfaa
