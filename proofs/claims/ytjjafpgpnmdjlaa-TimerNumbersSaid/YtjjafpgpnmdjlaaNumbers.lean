/- TimerNumbers: its walk. -/
import Derived.Test.YtjjafpgpnmdjlaaPlays
namespace Go.Proofs.Ytjjafpgpnmdjlaa
open Go.RowKit Go.Hop
set_option maxRecDepth 100000 in
set_option maxHeartbeats 8000000 in
theorem numbers_any (w : World) : Calls Try.prog 3 #[] w fun e w' => e = .returned (.bool true) ∧ Grow w w' := by
  go_enter Try.func3, Try.ntmps3
  go_wp2_with fail
  go_loopw [1] (fun i wr => ∃ k : Nat, k ≤ 40 ∧ i = .int .i64 (k : Int) ∧ Grow w wr) (fun i _ => 40 - (intOf i).toNat)
  case atStart => exact ⟨0, by omega, rfl, Grow.refl _⟩
  case round =>
    obtain ⟨k, hk40, rfl, hgb⟩ := hrel
    by_cases hk : k < 40
    · have hkt : decide ((k : Int) < 40) = true := decide_eq_true (by omega)
      go_wp2_with fail
      go_loopw [2, 3] (fun s i wr' => ∃ j : Nat, j ≤ 120 ∧ i = .int .i64 (j : Int) ∧ Rel wr s j wr') (fun _ i _ => 120 - (intOf i).toNat)
      case atStart => exact ⟨0, by omega, rfl, [], Own.nil, by simp, Grow.refl _⟩
      case round =>
        obtain ⟨j, hj120, rfl, qs, hO, hin, hgw⟩ := hrel
        obtain ⟨A1, c1, rfl, hI1, hn1, hm1⟩ := hO.in_
        by_cases hj : j < 120
        · have hjt : decide ((j : Int) < 120) = true := decide_eq_true (by omega)
          have hjk : 0 ≤ (j : Int) * (k : Int) ∧ (j : Int) * (k : Int) ≤ 4641 := by
            have h1 : j * k ≤ 119 * 39 := Nat.mul_le_mul (by omega) (by omega)
            have h2 : (j : Int) * (k : Int) = ((j * k : Nat) : Int) := by simp
            omega
          have hjj : 0 ≤ (j : Int) * (j : Int) ∧ (j : Int) * (j : Int) ≤ 14161 := by
            have h1 : j * j ≤ 119 * 119 := Nat.mul_le_mul (by omega) (by omega)
            have h2 : (j : Int) * (j : Int) = ((j * j : Nat) : Int) := by simp
            omega
          have hz1 : AskOk ⟨((j : Int) * (j : Int) + (k : Int)) % 5, (j : Int) * (k : Int) % 13, (j : Int) * 7 % 31 - 3⟩ := by
            refine ⟨?_, ?_, ?_⟩ <;> unfold in64 <;> dsimp only <;> omega
          have hgB : Grow wr (wr.alloc (.cells #[.int .i64 (((j : Int) * (j : Int) + (k : Int)) % 5), .int .i64 ((j : Int) * (k : Int) % 13), .int .i64 ((j : Int) * 7 % 31 - 3)] 24)) := (Below.refl _ _).alloc (Nat.le_refl _) _
          go_wp2_with (at_builtin; refine stay ?_)
          refine stay_out ?_
          refine wpList_own (V := New _ wr) askE _ rfl (.tmp 12) (.tmp 28) rfl (.slice A1 j c1) j (qs.flatMap Ask.cells) rfl (hO.grow (fun b hb => hb.2) hgB) (wr.heap.size + 1) (some ⟨wr.heap.size, 0, none⟩) 1 1 ([(⟨((j : Int) * (j : Int) + (k : Int)) % 5, (j : Int) * (k : Int) % 13, (j : Int) * 7 % 31 - 3⟩ : Ask)].flatMap Ask.cells) rfl (reads_laid wr _ 24 _ rfl _ rfl) (ask_one _) (by omega) ?_
          intro v3 w3 hO3 hj3
          have hrel := rel_next (zs := [⟨((j : Int) * (j : Int) + (k : Int)) % 5, (j : Int) * (k : Int) % 13, (j : Int) * 7 % 31 - 3⟩]) hgw hgB hin (fun a ha => by rw [List.mem_singleton.1 ha]; exact hz1) hO3 hj3
          clear hO3 hj3 hO hin hgB
          go_wp2_with fail
          go_roundw
          case rel => exact ⟨j + 1, by omega, by go_num, hrel⟩
          case measure => simp [intOf]; omega
        · obtain rfl : j = 120 := by omega
          have hAs : Asks wr (New _ wr) A1 120 qs := ⟨hI1, hin⟩
          have hp1 := play_any wr (New _ wr) A1 120 c1 qs hAs (fun b hb => hb.2)
          clear hO hI1 hin hAs
          go_wp2_with fail
          go_at_call 7
          refine hp1.mono ?_
          rintro e w7 ⟨rfl, hg7⟩
          clear hp1
          go_wp2_with fail
          go_roundw
          case rel => exact ⟨k + 1, by omega, by go_num, (hgb.trans hgw).trans hg7⟩
          case measure => simp [intOf]; omega
    · have hkf : decide ((k : Int) < 40) = false := decide_eq_false (by omega)
      have hgB : Grow wr (wr.alloc (.cells #[.int .i64 0, .int .i64 0, .int .i64 9223372036854775807, .int .i64 0, .int .i64 1, .int .i64 (-9223372036854775808), .int .i64 4, .int .i64 0, .int .i64 (-9223372036854775808), .int .i64 4, .int .i64 0, .int .i64 9223372036854775807] 24)) := (Below.refl _ _).alloc (Nat.le_refl _) _
      have hR9 : Reads (wr.alloc (.cells #[.int .i64 0, .int .i64 0, .int .i64 9223372036854775807, .int .i64 0, .int .i64 1, .int .i64 (-9223372036854775808), .int .i64 4, .int .i64 0, .int .i64 (-9223372036854775808), .int .i64 4, .int .i64 0, .int .i64 9223372036854775807] 24)) (wr.heap.size + 1) 3 (some ⟨wr.heap.size, 0, none⟩) 4 ([(⟨0, 0, 9223372036854775807⟩ : Ask), ⟨0, 1, -9223372036854775808⟩, ⟨4, 0, -9223372036854775808⟩, ⟨4, 0, 9223372036854775807⟩].flatMap Ask.cells) := reads_laid wr _ _ _ rfl _ rfl
      have hai : ∀ a ∈ [(⟨0, 0, 9223372036854775807⟩ : Ask), ⟨0, 1, -9223372036854775808⟩, ⟨4, 0, -9223372036854775808⟩, ⟨4, 0, 9223372036854775807⟩], AskOk a := fun a ha => by
        simp only [List.mem_cons, List.not_mem_nil, or_false] at ha
        rcases ha with rfl | rfl | rfl | rfl <;> exact ⟨by simp [in64], by simp [in64], by simp [in64]⟩
      have hp1 := play_any _ (fun b => b < wr.heap.size + 1) _ 4 4 _ ⟨Reads.in_ hR9 (by simp) (fun b h => h), hai⟩ (fun b hb => by simpa using hb)
      clear hR9 hai
      go_wp2_with fail
      go_at_call 7
      refine hp1.mono ?_
      rintro e w7 ⟨rfl, hg7⟩
      clear hp1
      go_wp2_with fail
      refine (known_any _).mono ?_
      rintro e w8 ⟨rfl, hg8⟩
      go_wp2_with fail
      go_ret
      exact ⟨rfl, ((hgb.trans hgB).trans hg7).trans hg8⟩
end Go.Proofs.Ytjjafpgpnmdjlaa
