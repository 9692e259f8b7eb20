/- A tape, made. -/
import Derived.Test.YtnijeemldhmkjaaTnames
namespace Go.Proofs.Ytnijeemldhmkjaa
open Go.RowKit Go.Hop
theorem int_info : (Try.prog.info? 3).map (fun i => (i.zero, i.size, i.bytes)) = some (some (.int .i64 0), 1, 8) := by kernel_rfl
theorem intE : Elem Try.prog 22 3 1 8 (.int .i64 0) := ⟨Try.underlying22, info_parts int_info, rfl, by decide, by decide⟩
set_option maxRecDepth 20000 in
theorem tape_any (w : World) (k : Nat) (hk : k ≤ 1000) :
    Calls Try.prog 17 #[.int .i64 (k : Int)] w fun e w' => ∃ (v : Value) (l : List Int), e = .returned v ∧ Own w' (New w w') 3 1 v l.length (l.map (Value.int .i64)) ∧ l.length ≤ 400 ∧ (∀ z ∈ l, -9223372036854775808 ≤ z ∧ z ≤ 9223372036854775807) ∧ Grow w w' := by
  go_enter Try.func17, Try.ntmps17
  go_wp2_with fail
  go_loopw [3, 4] (fun o i wr => ∃ (j : Nat) (l : List Int), j ≤ 400 ∧ i = .int .i64 (j : Int) ∧ Own wr (New w wr) 3 1 o l.length (l.map (Value.int .i64)) ∧ l.length ≤ j ∧ (∀ z ∈ l, -9223372036854775808 ≤ z ∧ z ≤ 9223372036854775807) ∧ Grow w wr) (fun _ i _ => 400 - (intOf i).toNat)
  case atStart => exact ⟨0, [], by omega, rfl, Own.nil, by simp, by simp, Grow.refl _⟩
  case round =>
    obtain ⟨j, l, hj, rfl, hO, hl, hz, hgw⟩ := hrel
    obtain ⟨A1, c1, rfl, hI1, hn1, hm1⟩ := hO.in_
    have hsw := hgw.size
    by_cases hj4 : j < 400
    · have hjt : decide ((j : Int) < 400) = true := decide_eq_true (by omega)
      go_wp2_with (at_builtin; refine stay ?_)
      refine stay_out ?_
      generalize wrap64 (wrap64 (wrap64 (wrap64 ((j : Int) * (j : Int)) * 7) + (k : Int) * 31) + wrap64 ((j : Int) * (k : Int))) = X
      have q1 := Int.tmod_lt_of_pos X (show (0 : Int) < 211 by omega)
      have q2 := Int.lt_tmod_of_pos X (show (0 : Int) < 211 by omega)
      generalize X.tmod 211 = z at q1 q2
      have hga : Grow wr (wr.alloc (.cells #[.int .i64 z] 3)) := (Below.refl _ _).alloc (Nat.le_refl _) _
      refine wpList_own (V := New w wr) intE _ rfl (.tmp 9) (.tmp 22) rfl (.slice A1 l.length c1) l.length (l.map (Value.int .i64)) rfl (hO.grow (fun b hb => hb.2) hga) (wr.heap.size + 1) (some ⟨wr.heap.size, 0, none⟩) 1 1 ([z].map (Value.int .i64)) rfl (reads_laid wr _ 3 _ rfl _ rfl) (by intro u hu; simp at hu; rw [hu]; rfl) (by omega) ?_
      intro v5 w5 hO5 hj5
      have hs5 := hj5.size
      simp at hs5
      have hO6 : Own w5 (New w w5) 3 1 v5 (l ++ [z]).length ((l ++ [z]).map (Value.int .i64)) := by
        rw [List.length_append, List.map_append]
        refine hO5.mono fun b hb => ?_
        rcases hb with hb | hb
        · exact ⟨hb.1, by have := hb.2; omega⟩
        · have h6 := hb.1
          simp at h6
          exact ⟨by omega, hb.2⟩
      have hg6 : Grow w w5 := Below.trans (below_trans hgw hga hsw) (hj5.below (B := w.heap.size) (fun b hb => hb.1) (by simp; omega))
      have hz6 : ∀ y ∈ l ++ [z], -9223372036854775808 ≤ y ∧ y ≤ 9223372036854775807 := fun y hy => by
        rcases List.mem_append.1 hy with hy | hy
        · exact hz y hy
        · rw [List.mem_singleton.1 hy]; omega
      have hl6 : (l ++ [z]).length ≤ j + 1 := by simp; omega
      clear hO5 hj5 hO hI1 hga
      generalize l ++ [z] = l6 at hO6 hz6 hl6
      go_wp2_with fail
      go_roundw
      case rel => exact ⟨j + 1, l6, by omega, by go_num, hO6, hl6, hz6, hg6⟩
      case measure => simp [intOf]; omega
    · have hjt : decide ((j : Int) < 400) = false := decide_eq_false (by omega)
      go_wp2_with fail
      go_ret
      exact ⟨_, l, rfl, hO, by omega, hz, hgw⟩
end Go.Proofs.Ytnijeemldhmkjaa
