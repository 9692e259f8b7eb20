/- FrameLengths: its walk. -/
import Derived.Test.YtocpepknlnghkaaTells
namespace Go.Proofs.Ytocpepknlnghkaa
open Go.RowKit Go.Hop
theorem enc_one {n : Nat} (h : n < 128) : (enc n).length = 1 := by rw [enc_small h]; rfl
theorem enc_two {n : Nat} (h : 128 ≤ n) (h2 : n < 16384) : (enc n).length = 2 := by rw [enc_more h, enc_small (by omega)]; rfl
set_option maxRecDepth 100000 in
set_option maxHeartbeats 800000 in
theorem lengths_any (w : World) (n : Int) (hn : -9223372036854775808 ≤ n ∧ n ≤ 9223372036854775807) (b : UInt8) :
    Calls Try.prog 7 #[.int .i64 n, .int .u8 (b.toNat : Int)] w fun e w' => e = .returned (.bool true) ∧ Grow w w' := by
  go_enter Try.func7, Try.ntmps7
  go_wp2_with fail
  go_at_call 13
  refine (within_any _ n 0 3000 hn (by omega) (by omega) (by omega)).mono ?_
  rintro e w4 ⟨k', hk0, hk1, rfl, rfl⟩
  obtain ⟨k, rfl⟩ := Int.eq_ofNat_of_zero_le hk0
  have hk3 : k ≤ 3000 := by omega
  have hmk : ∀ w : World, (Instr.makeSlice 22 (.int .i64 (k : Int)) (.int .i64 (k : Int))).run Try.prog w = .ok (.slice (some ⟨w.heap.size, 0, none⟩) k k) (w.alloc (.cells (madeCells #[.int .u8 0] k) 5)) :=
    fun w => run_make_row' 22 5 (.int .u8 0) 1 Try.underlying22 u8_info rfl .i64 .i64 k (by omega) (by omega) w
  have hO0 : Own (w.alloc (.cells (madeCells #[.int .u8 0] k) 5)) (fun b => b = w.heap.size) 5 1 (.slice (some ⟨w.heap.size, 0, none⟩) k k) k (u8s (List.replicate k 0)) :=
    ⟨by simp, .inr ⟨w.heap.size, k, _, rfl, rfl, heap_alloc_new w _, Nat.le_refl _, by unfold maxLen; omega, .inl (by rw [size_madeCells, Nat.mul_one]), by rw [toList_madeCells_one, Nat.mul_one, List.take_of_length_le (by simp)]; unfold u8s; rw [List.map_replicate]; rfl⟩⟩
  have hg0 : Grow w (w.alloc (.cells (madeCells #[.int .u8 0] k) 5)) := (Below.refl _ _).alloc (Nat.le_refl _) _
  clear hk1
  go_wp2_with fail
  clear hmk
  obtain ⟨g, HG⟩ : ∃ g : Nat, Hid (g = w.heap.size) := ⟨_, rfl⟩
  rw [← HG.out] at hO0 ⊢
  generalize w.alloc (.cells (madeCells #[.int .u8 0] k) 5) = wa at hO0 hg0 ⊢
  go_loopw [20] (fun i wr => ∃ (j : Nat) (l : List UInt8), j ≤ k ∧ i = .int .i64 (j : Int) ∧ l.length = k ∧ Own wr (fun b => b = g) 5 1 (.slice (some ⟨g, 0, none⟩) k k) k (u8s l) ∧ Grow w wr) (fun i _ => k - (intOf i).toNat)
  case atStart => exact ⟨0, _, by omega, rfl, by simp, hO0, hg0⟩
  case round =>
    obtain ⟨j, l, hjk, rfl, hll, hO, hgr⟩ := hrel
    by_cases hj : j < k
    · obtain ⟨g', c', hAe, _, hat⟩ := own_at hO (by omega)
      injection hAe with e1 _ e3
      injection e1 with e1
      injection e1 with e1 _ _
      subst e1 e3
      obtain ⟨u, hu, hcell, hfz, hput⟩ := hat j hj
      obtain ⟨y, hy⟩ : ∃ y : UInt8, ((b.toNat : Int) + (j : Int) % 256) % 256 = (y.toNat : Int) := ⟨UInt8.ofNat ((b.toNat + j % 256) % 256), by rw [UInt8.toNat_ofNat']; omega⟩
      have hput := hput (.int .u8 (y.toNat : Int))
      rw [u8s_set] at hput
      go_wp2_with fail
      go_roundw
      case rel => exact ⟨j + 1, l.set j y, by omega, by go_num, by rw [List.length_set]; exact hll, hput, grow_set hgr (by rw [HG.out]; exact Nat.le_refl _) _ _⟩
      case measure => simp [intOf]; omega
    · obtain rfl : k = j := by omega
      obtain ⟨A', c', hAe, hb, _, _⟩ := hO.reads
      injection hAe with e1 _ e3
      subst e1 e3
      go_wp2_with fail
      go_at_call 10
      refine (Bytes_any wr _ k k l hb (by omega)).mono ?_
      rintro e wf ⟨vf, rfl, hOf, hgf⟩
      by_cases h1 : 127 < k
      · have h1' : decide ((127 : Int) < (k : Int)) = true := decide_eq_true (by omega)
        have hfl : (frame l).length = k + 6 := by rw [frame_len, hll, enc_two (by omega) (by omega)]; omega
        rw [hfl] at hOf
        obtain ⟨Af, cf, rfl, hRf, hnf, hmf⟩ := hOf.reads
        go_wp2_with fail
        go_at_call 14
        refine (Read_any wf Af (k + 6) cf (frame l) hRf hnf hmf).mono ?_
        rintro e we ⟨x, j, ok, v5, hRd, rfl, hO5, hge⟩
        have hRi := frame_read l [] (by omega)
        rw [List.append_nil] at hRi
        obtain ⟨hx1, rfl, rfl⟩ := hRd.one hRi
        obtain rfl : l = x := hx1.symm
        have cv1 := conv_is we hO5.isBytes
        have cv2 := conv_bytes we (c := k) (Reads.below hb (hgf.trans hge))
        have hgw := (hgr.trans hgf).trans hge
        clear hRd hRi hO5 hOf hb
        go_wp2_with (go_at_call 12; refine (known_any _).mono ?_; rintro e w7 ⟨rfl, hg7⟩)
        go_ret
        exact ⟨rfl, hgw.trans hg7⟩
      · have h1' : decide ((127 : Int) < (k : Int)) = false := decide_eq_false (by omega)
        have hfl : (frame l).length = k + 5 := by rw [frame_len, hll, enc_one (by omega)]; omega
        rw [hfl] at hOf
        obtain ⟨Af, cf, rfl, hRf, hnf, hmf⟩ := hOf.reads
        go_wp2_with fail
        go_at_call 14
        refine (Read_any wf Af (k + 5) cf (frame l) hRf hnf hmf).mono ?_
        rintro e we ⟨x, j, ok, v5, hRd, rfl, hO5, hge⟩
        have hRi := frame_read l [] (by omega)
        rw [List.append_nil] at hRi
        obtain ⟨hx1, rfl, rfl⟩ := hRd.one hRi
        obtain rfl : l = x := hx1.symm
        have cv1 := conv_is we hO5.isBytes
        have cv2 := conv_bytes we (c := k) (Reads.below hb (hgf.trans hge))
        have hgw := (hgr.trans hgf).trans hge
        clear hRd hRi hO5 hOf hb
        go_wp2_with (go_at_call 12; refine (known_any _).mono ?_; rintro e w7 ⟨rfl, hg7⟩)
        go_ret
        exact ⟨rfl, hgw.trans hg7⟩
end Go.Proofs.Ytocpepknlnghkaa
