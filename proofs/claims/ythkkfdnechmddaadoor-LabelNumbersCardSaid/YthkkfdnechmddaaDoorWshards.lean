/- LabelShards: its walk. -/
import Derived.Test.YthkkfdnechmddaaDoorLknown
import Derived.Test.YthkkfdnechmddaaDoorTnames
namespace Go.Proofs.YthkkfdnechmddaaDoor
open Go.RowKit Go.Hop
theorem tape_made (w : World) (A0 : Option Addr) (n0 c0 : Nat) (l0 : List Int) (h : In w (fun b => b < w.heap.size) 1 A0 n0 (l0.map (Value.int .i64))) (hx0 : ∀ z ∈ l0, -9223372036854775808 ≤ z ∧ z ≤ 9223372036854775807) (hn0 : n0 ≤ 9223372036854775807) : TapeAt w.heap.size (fun b => b < w.heap.size) (w.alloc (.cells #[.slice A0 n0 c0, .int .i64 0] 32)) :=
  ⟨Nat.lt_irrefl _, A0, n0, c0, l0, 0, Blk.made w _ _, h.grow ((Below.refl _ _).alloc (Nat.le_refl _) _), Nat.zero_le _, hn0, hx0⟩
theorem shard_four (s : ByteArray) : shardI s 4 % 2 = shardI s 2 ∧ 0 ≤ shardI s 4 ∧ shardI s 4 < 4 ∧ 0 ≤ shardI s 2 ∧ shardI s 2 < 2 := by
  unfold shardI
  rw [show manyI 4 = 4 by decide, show manyI 2 = 2 by decide]
  omega
set_option maxRecDepth 100000 in
set_option maxHeartbeats 1000000 in
theorem shards_any (w : World) (A0 : Option Addr) (n0 c0 : Nat) (l0 : List Int) (x1 : Int) (hl0 : Reads w w.heap.size 1 A0 n0 (l0.map (Value.int .i64))) (hx0 : ∀ z ∈ l0, -9223372036854775808 ≤ z ∧ z ≤ 9223372036854775807) (hn0 : n0 ≤ 9223372036854775807) (hx1 : -9223372036854775808 ≤ x1 ∧ x1 ≤ 9223372036854775807) :
    Calls Tryd.prog 6 #[.slice A0 n0 c0, .int .i64 x1] w fun e w' => e = .returned (.bool true) ∧ Grow w w' := by
  have hI0 : In w (fun b => b < w.heap.size) 1 A0 n0 (l0.map (Value.int .i64)) := Reads.in_ hl0 (Nat.le_refl _) fun _ h => h
  have hT0 := tape_made w A0 n0 c0 l0 hI0 hx0 hn0
  have hg0 : Grow w (w.alloc (.cells #[.slice A0 n0 c0, .int .i64 0] 32)) := (Below.refl _ _).alloc (Nat.le_refl _) _
  go_enter Tryd.func6, Tryd.ntmps6
  go_wp2_with fail
  refine (within_any _ x1 (-2) 9 hx1 (by omega) (by omega) (by omega)).mono ?_
  rintro e w' ⟨k, hk1, hk2, rfl, rfl⟩
  generalize (w.alloc (.cells #[.slice A0 n0 c0, .int .i64 0] 32)) = w1 at hT0 hg0
  obtain ⟨m, hm1, hm4, hm⟩ := manyI_in k
  have hmn : ∀ ts t w, (Builtin.min_ ts t #[.int .i64 k, .int .i64 4]).run Tryd.prog w = .ok (.int .i64 (min k 4)) w := fun ts t w => by rw [run_min_int2]; congr 2; split <;> omega
  have hmx : ∀ ts t w, (Builtin.max_ ts t #[.int .i64 (min k 4), .int .i64 1]).run Tryd.prog w = .ok (.int .i64 m) w := fun ts t w => by rw [run_max_int2, ← hm]; congr 2; unfold manyI; split <;> omega
  go_wp2_with fail
  go_loopw [7] (fun i wr => ∃ q : Nat, q ≤ 10 ∧ i = .int .i64 (q : Int) ∧ TapeAt w.heap.size (fun b => b < w.heap.size) wr ∧ Grow w wr) (fun i _ => 10 - (intOf i).toNat)
  case atStart => exact ⟨0, by omega, rfl, hT0, hg0⟩
  case round =>
    clear hT0 hg0
    obtain ⟨q, hq, rfl, hT, hgr⟩ := hrel
    by_cases hq9 : q < 10
    · have hqt : decide ((q : Int) < 10) = true := decide_eq_true (by omega)
      go_wp2_with fail
      refine (Series_any wr _ _ hT).mono ?_
      rintro e w2 ⟨s, hs, rfl, hT2, hj2⟩
      have hgr2 : Grow w w2 := Below.trans hgr (hj2.below (B := w.heap.size) (fun b hb => by omega) hgr.size)
      have hsm : s.size ≤ maxLen := by have := nameL_small hs; unfold maxLen; omega
      have hsh := fun w => Shard_any w s k hsm (by omega)
      have hs1 := fun w => Shard_any w s 1 hsm (by omega)
      have hs2 := fun w => Shard_any w s 2 hsm (by omega)
      have hs4 := fun w => Shard_any w s 4 hsm (by omega)
      have h42 := shard_four s
      rw [shard_one] at hs1
      have hr : 0 ≤ shardI s k ∧ shardI s k < m := by
        unfold shardI; rw [hm]
        exact ⟨Int.emod_nonneg _ (by omega), Int.emod_lt_of_pos _ (by omega)⟩
      clear hm
      generalize shardI s k = a at hsh hr
      generalize shardI s 4 = a4 at hs4 h42
      generalize shardI s 2 = a2 at hs2 h42
      have h40 : ¬ a4 < 0 := by omega
      obtain ⟨hr0, hrm⟩ := hr
      have d1 : decide (a < 0) = false := decide_eq_false (by omega)
      have d2 : decide (m ≤ a) = false := decide_eq_false (by omega)
      go_wp2_with fail
      refine (hsh w2).mono ?_
      rintro e w' ⟨rfl, rfl⟩
      go_wp2_with fail
      refine (hsh w2).mono ?_
      rintro e w' ⟨rfl, rfl⟩
      go_wp2_with fail
      refine (hs1 w2).mono ?_
      rintro e w' ⟨rfl, rfl⟩
      go_wp2_with fail
      refine (hs4 w2).mono ?_
      rintro e w' ⟨rfl, rfl⟩
      go_wp2_with fail
      refine (hs2 w2).mono ?_
      rintro e w' ⟨rfl, rfl⟩
      go_wp2_with fail
      go_roundw
      case rel => exact ⟨q + 1, by omega, by go_num, hT2, hgr2⟩
      case measure => simp [intOf]; omega
    · obtain rfl : q = 10 := by omega
      have hqt : decide (((10 : Nat) : Int) < 10) = false := by decide
      go_wp2_with fail
      refine (known_any wr).mono ?_
      rintro e w3 ⟨rfl, hg3⟩
      go_wp2_with fail
      go_ret
      exact ⟨rfl, below_trans hgr hg3 hgr.size⟩
end Go.Proofs.YthkkfdnechmddaaDoor
