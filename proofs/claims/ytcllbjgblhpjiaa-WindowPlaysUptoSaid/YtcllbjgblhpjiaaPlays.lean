/- WindowPlays: its walk. -/
import Derived.Test.YtcllbjgblhpjiaaWithin
import Derived.Test.YtcllbjgblhpjiaaNumbers
namespace Go.Proofs.Ytcllbjgblhpjiaa
open Go.RowKit Go.Hop
theorem and31 (z : Int) : bits .and .i64 z 31 = z % 32 := by
  have h127 : (BitVec.ofInt 64 31).toNat = 2 ^ 5 - 1 := by decide
  have key : (BitVec.ofInt 64 z &&& BitVec.ofInt 64 31).toNat = (z % ((2 ^ 64 : Nat) : Int)).toNat % 2 ^ 5 := by
    rw [BitVec.toNat_and, BitVec.toNat_ofInt, h127, Nat.and_two_pow_sub_one_eq_mod]
  show IntKind.i64.wrap ((BitVec.ofInt 64 z &&& BitVec.ofInt 64 31).toNat : Nat) = z % 32
  rw [key, IntKind.wrap_i64]
  omega
set_option maxRecDepth 100000 in
set_option maxHeartbeats 4000000 in
theorem plays_any (w : World) (A : Option Addr) (n c : Nat) (l : List Int) (hr : Reads w w.heap.size 1 A n (l.map (Value.int .i64))) (hl : ∀ z ∈ l, -9223372036854775808 ≤ z ∧ z ≤ 9223372036854775807) (hc : n ≤ c ∧ c ≤ maxLen) (hn : n ≤ 2097152) (st : Int) (hst : -9223372036854775808 ≤ st ∧ st ≤ 9223372036854775807) :
    Calls Try.prog 5 #[.slice A n c, .int .i64 st] w fun e w' => e = .returned (.bool true) ∧ Grow w w' := by
  have es := and31 st
  go_enter Try.func5, Try.ntmps5
  go_wp2_with fail
  go_loopw [5, 6, 7, 10] (fun v at' _ ix wr => ∃ (j : Nat) (a : Int) (l1 : List Int), j ≤ n ∧ 0 ≤ a ∧ a ≤ j ∧ at' = .int .i64 a ∧ ix = .int .i64 j ∧ wr.ownsRow w.heap.size 2 1 v j (l1.map (Value.int .i64)) ∧ (∀ z ∈ l1, In64 z) ∧ Below w.heap.size w wr) (fun _ _ _ ix _ => n - (intOf ix).toNat)
  case atStart => exact ⟨0, 0, [], by omega, by omega, by omega, rfl, rfl, World.ownsRow_nil _ _ _ _, by simp, Below.refl _ _⟩
  case round =>
    obtain ⟨j, a, l1, hj, ha0, ha1, rfl, rfl, hown, hl1, hb⟩ := hrel
    obtain ⟨A1, c1, rfl, hr1, hjc, hcm⟩ := own_reads hown
    by_cases hlt : j < n
    · obtain ⟨ad, z, rfl, hzr, hcell⟩ := reads_num hr hlt hl hb
      have ea := and63 z
      by_cases h3 : j % 3 = 0
      · skip
        go_wp2_with (first
          | (go_at_call 8; refine (within_any _ (z % 64) 0 (1 + st % 32) (by omega) (by omega) (by omega) (by omega)).mono ?_; rintro e w3 ⟨m, hm0, hm1, rfl, rfl⟩)
          | (at_builtin; refine stay ?_))
        refine stay_out ?_
        have hB := (Below.refl wr.heap.size wr).alloc (Nat.le_refl _) (.cells #[.int .i64 ((a + 1) + m)] 2)
        have hs1 := hb.size
        refine wpList_app i64E _ rfl (.tmp 18) (.tmp 30) rfl w.heap.size (.slice A1 j c1) j (l1.map (Value.int .i64)) rfl (own_below hown hB) (wr.heap.size + 1) (some ⟨wr.heap.size, 0, none⟩) 1 1 [.int .i64 ((a + 1) + m)] rfl (reads_laid wr _ 2 _ rfl _ rfl) (by simp [Value.oneCell']) (by omega) (by simp; omega) ?_
        intro v3 w3 hown3 hg3 hat3
        have hb3 : Below w.heap.size w w3 := below_own (below_trans hb hB hb.size) (own_below hown hB) hg3 (Nat.le_refl _) (by simp; omega)
        have hl3 : ∀ z ∈ l1 ++ [(a + 1) + m], In64 z := by
          intro z hz
          rcases List.mem_append.1 hz with h | h
          · exact hl1 z h
          · rw [List.mem_singleton.1 h]; unfold In64; omega
        have hm3 : l1.map (Value.int .i64) ++ [.int .i64 ((a + 1) + m)] = (l1 ++ [(a + 1) + m]).map (Value.int .i64) := by simp
        rw [hm3] at hown3
        clear hm3 hg3 hat3 hown hr1 hl1
        generalize l1 ++ [(a + 1) + m] = l3 at hown3 hl3
        go_wp2_with fail
        go_roundw
        case rel => exact ⟨j + 1, (a + 1), l3, by omega, by omega, by omega, rfl, by go_num, hown3, hl3, hb3⟩
        case measure => simp [intOf]; omega
      · skip
        go_wp2_with (first
          | (go_at_call 8; refine (within_any _ (z % 64) 0 (1 + st % 32) (by omega) (by omega) (by omega) (by omega)).mono ?_; rintro e w3 ⟨m, hm0, hm1, rfl, rfl⟩)
          | (at_builtin; refine stay ?_))
        refine stay_out ?_
        have hB := (Below.refl wr.heap.size wr).alloc (Nat.le_refl _) (.cells #[.int .i64 (a + m)] 2)
        have hs1 := hb.size
        refine wpList_app i64E _ rfl (.tmp 18) (.tmp 30) rfl w.heap.size (.slice A1 j c1) j (l1.map (Value.int .i64)) rfl (own_below hown hB) (wr.heap.size + 1) (some ⟨wr.heap.size, 0, none⟩) 1 1 [.int .i64 (a + m)] rfl (reads_laid wr _ 2 _ rfl _ rfl) (by simp [Value.oneCell']) (by omega) (by simp; omega) ?_
        intro v3 w3 hown3 hg3 hat3
        have hb3 : Below w.heap.size w w3 := below_own (below_trans hb hB hb.size) (own_below hown hB) hg3 (Nat.le_refl _) (by simp; omega)
        have hl3 : ∀ z ∈ l1 ++ [a + m], In64 z := by
          intro z hz
          rcases List.mem_append.1 hz with h | h
          · exact hl1 z h
          · rw [List.mem_singleton.1 h]; unfold In64; omega
        have hm3 : l1.map (Value.int .i64) ++ [.int .i64 (a + m)] = (l1 ++ [a + m]).map (Value.int .i64) := by simp
        rw [hm3] at hown3
        clear hm3 hg3 hat3 hown hr1 hl1
        generalize l1 ++ [a + m] = l3 at hown3 hl3
        go_wp2_with fail
        go_roundw
        case rel => exact ⟨j + 1, a, l3, by omega, by omega, by omega, rfl, by go_num, hown3, hl3, hb3⟩
        case measure => simp [intOf]; omega
    · obtain rfl : j = n := by omega
      unfold maxLen at hcm
      have hrw := (Reads.below hr hb).more hb.size
      go_wp2_with fail
      refine (play_any _ A j c l hrw hl hc).mono ?_; rintro e w3 ⟨rfl, hg3⟩
      go_wp2_with fail
      refine (play_any _ A1 j c1 l1 ((Reads.below hr1 hg3).more hg3.size) hl1 ⟨hjc, by unfold maxLen; exact hcm⟩).mono ?_; rintro e w4 ⟨rfl, hg4⟩
      go_wp2_with fail
      refine (known_any _).mono ?_; rintro e w5 ⟨rfl, hg5⟩
      go_wp2_with fail
      go_ret
      have h1 := below_trans hb hg3 hb.size
      have h2 := below_trans h1 hg4 h1.size
      exact ⟨rfl, below_trans h2 hg5 h2.size⟩
end Go.Proofs.Ytcllbjgblhpjiaa
