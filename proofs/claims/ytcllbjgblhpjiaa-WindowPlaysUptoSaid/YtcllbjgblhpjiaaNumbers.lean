/- WindowNumbers: its walk. -/
import Derived.Test.YtcllbjgblhpjiaaPlay
namespace Go.Proofs.Ytcllbjgblhpjiaa
open Go.RowKit Go.Hop
theorem i64_info : (Try.prog.info? 2).map (fun i => (i.zero, i.size, i.bytes)) = some (some (.int .i64 0), 1, 8) := by kernel_rfl
theorem i64E : Elem Try.prog 22 2 1 8 (.int .i64 0) := ⟨Try.underlying22, info_parts i64_info, rfl, by decide, by decide⟩
/-- a number of 64 bits -/
def In64 (z : Int) : Prop := -9223372036854775808 ≤ z ∧ z ≤ 9223372036854775807
theorem one_cell (l : List Int) : ∀ u ∈ l.map (Value.int .i64), u.oneCell' = true := by
  intro u hu
  obtain ⟨x, _, rfl⟩ := List.mem_map.1 hu
  rfl
set_option maxRecDepth 100000 in
set_option maxHeartbeats 4000000 in
theorem numbers_any (w : World) : Calls Try.prog 4 #[] w fun e w' => e = .returned (.bool true) ∧ Grow w w' := by
  go_enter Try.func4, Try.ntmps4
  go_wp2_with fail
  go_loopw [1, 2, 3] (fun i _ _ wr => ∃ k : Nat, k ≤ 60 ∧ 1 ≤ k ∧ i = .int .i64 k ∧ Below w.heap.size w wr) (fun i _ _ _ => 60 - (intOf i).toNat)
  case atStart => exact ⟨1, by omega, by omega, rfl, Below.refl _ _⟩
  case round =>
    obtain ⟨k, hk, hk1, rfl, hb⟩ := hrel
    by_cases hlt : k < 60
    · go_wp2_with fail
      rw [show decide ((k : Int) < 60) = true from decide_eq_true (by omega)]
      go_loopw [2, 3] (fun v i wr => ∃ (j : Nat) (l : List Int), j ≤ 200 ∧ i = .int .i64 j ∧ wr.ownsRow w.heap.size 2 1 v j (l.map (Value.int .i64)) ∧ (∀ z ∈ l, In64 z) ∧ Below w.heap.size w wr) (fun _ i _ => 200 - (intOf i).toNat)
      case atStart => exact ⟨0, [], by omega, rfl, World.ownsRow_nil _ _ _ _, by simp, hb⟩
      case round =>
        obtain ⟨j, l, hj, rfl, hown, hl, hb1⟩ := hrel
        obtain ⟨A, c, rfl, hr, hjc, hcm⟩ := own_reads hown
        unfold maxLen at hcm
        by_cases hj2 : j < 200
        · have hm0 : (0 : Int) ≤ (j : Int) * (k : Int) := Int.mul_nonneg (by omega) (by omega)
          have hm1 : (j : Int) * (k : Int) ≤ 12000 := by
            have := Nat.mul_le_mul (Nat.le_of_lt hj2) (Nat.le_of_lt hlt)
            have e : ((j * k : Nat) : Int) = (j : Int) * (k : Int) := by push_cast; rfl
            omega
          go_wp2_with (at_builtin; refine stay ?_)
          refine stay_out ?_
          have hB := (Below.refl wr.heap.size wr).alloc (Nat.le_refl _) (.cells #[.int .i64 ((j : Int) * (k : Int) % 131 + (j : Int) / 5)] 2)
          have hs1 := hb1.size
          refine wpList_app i64E _ rfl (.tmp 12) (.tmp 20) rfl w.heap.size (.slice A j c) j (l.map (Value.int .i64)) rfl (own_below hown hB) (wr.heap.size + 1) (some ⟨wr.heap.size, 0, none⟩) 1 1 [.int .i64 ((j : Int) * (k : Int) % 131 + (j : Int) / 5)] rfl (reads_laid wr _ 2 _ rfl _ rfl) (by simp [Value.oneCell']) (by omega) (by simp; omega) ?_
          intro v3 w3 hown3 hg3 hat3
          have hb3 : Below w.heap.size w w3 := below_own (below_trans hb1 hB hb1.size) (own_below hown hB) hg3 (Nat.le_refl _) (by simp; omega)
          have hl3 : ∀ z ∈ l ++ [(j : Int) * (k : Int) % 131 + (j : Int) / 5], In64 z := by
            intro z hz
            rcases List.mem_append.1 hz with h | h
            · exact hl z h
            · rw [List.mem_singleton.1 h]; unfold In64; omega
          have hm3 : l.map (Value.int .i64) ++ [.int .i64 ((j : Int) * (k : Int) % 131 + (j : Int) / 5)] = (l ++ [(j : Int) * (k : Int) % 131 + (j : Int) / 5]).map (Value.int .i64) := by simp
          rw [hm3] at hown3
          clear hm3 hg3 hat3 hown hr hl
          generalize l ++ [(j : Int) * (k : Int) % 131 + (j : Int) / 5] = l3 at hown3 hl3
          go_wp2_with fail
          go_roundw
          case rel => exact ⟨j + 1, l3, by omega, by go_num, hown3, hl3, hb3⟩
          case measure => simp [intOf]; omega
        · go_wp2_with fail
          refine (play_any wr A j c l hr hl ⟨hjc, by unfold maxLen; exact hcm⟩).mono ?_; rintro e w3 ⟨rfl, hg3⟩
          go_wp2_with fail
          go_roundw
          case rel => exact ⟨k + 1, by omega, by omega, by go_num, below_trans hb1 hg3 hb1.size⟩
          case measure => simp [intOf]; omega
    · go_wp2_with fail
      refine (play_any _ _ 11 11 [64, 65, 63, 1, 65, 66, 2, -1, 0, -9223372036854775808, 9223372036854775807] ?_ (by simp) ⟨by omega, by unfold maxLen; omega⟩).mono ?_
      · exact (reads_laid _ _ 2 _ rfl _ rfl).more (by simp)
      · rintro e w3 ⟨rfl, hg3⟩
        go_wp2_with fail
        refine (known_any _).mono ?_; rintro e w4 ⟨rfl, hg4⟩
        go_wp2_with fail
        go_ret
        have hB := (Below.refl wr.heap.size wr).alloc (Nat.le_refl _) (.cells #[.int .i64 64, .int .i64 65, .int .i64 63, .int .i64 1, .int .i64 65, .int .i64 66, .int .i64 2, .int .i64 (-1), .int .i64 0, .int .i64 (-9223372036854775808), .int .i64 9223372036854775807] 2)
        exact ⟨rfl, below_trans (below_trans (below_trans hb hB hb.size) hg3 (Nat.le_trans hb.size hB.size)) hg4 (Nat.le_trans (Nat.le_trans hb.size hB.size) hg3.size)⟩
end Go.Proofs.Ytcllbjgblhpjiaa
