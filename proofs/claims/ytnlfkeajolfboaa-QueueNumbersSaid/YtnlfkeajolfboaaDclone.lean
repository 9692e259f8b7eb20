/- slices.Clone, slices.Clip of deltas. -/
import Derived.Test.YtnlfkeajolfboaaDlt
namespace Go.Proofs.Ytnlfkeajolfboaa
open Go.RowKit Go.Hop
theorem clone_any (w : World) (V : Nat → Prop) (A : Option Addr) (n c : Nat) (l : List Dl) (h : DIn w V A n l) (hn : n ≤ 1048576) :
    Calls Try.prog 27 #[.slice A n c] w fun e w' => ∃ A' c', e = .returned (.slice A' n c') ∧ DIn w' (New w w') A' n l ∧ n ≤ c' ∧ c' ≤ maxLen ∧ Grow w w' := by
  have hnil := fun (w' : World) => Lib.run_eql_slice_nil (P := Try.prog) w' 30 29 A n c 0 0 Try.underlying30
  cases A with
  | none =>
    have hn0 : n = 0 := by
      rcases Nat.eq_zero_or_pos n with h0 | h0
      · exact h0
      · obtain ⟨_, e, _⟩ := h.2 h0; cases e
    subst hn0
    obtain rfl : l = [] := List.eq_nil_of_length_eq_zero h.len
    go_enter Try.func27, Try.ntmps27
    go_wp2_with fail
    go_ret
    exact ⟨_, _, rfl, In.nil, Nat.le_refl _, Nat.zero_le _, Grow.refl _⟩
  | some ad =>
    go_enter Try.func27, Try.ntmps27
    go_wp2_with (at_builtin; refine stay ?_)
    refine stay_out ?_
    refine wpList_own (V := fun b => b = w.heap.size) deltaE _ rfl (.tmp 5) (.tmp 6) rfl (.slice (some ⟨w.heap.size, 0, none⟩) 0 0) 0 [] rfl (made_own w _ _) w.heap.size (some ad) n c (dcells l) rfl (Reads.alloc (In.reads h) (Nat.le_refl _) _) (dcells_one l) (by omega) ?_
    intro v1 w1 hO1 hj1
    simp only [Nat.zero_add, List.nil_append] at hO1
    obtain ⟨hO2, hg1⟩ := own_new hO1 hj1
    obtain ⟨A2, c2, rfl, hI, hnc, hm⟩ := hO2.in_
    go_wp2_with fail
    go_ret
    exact ⟨A2, c2, rfl, hI, hnc, hm, hg1⟩
theorem clip_any (w : World) (A : Option Addr) (n c : Nat) (hn : n ≤ c) :
    Calls Try.prog 26 #[.slice A n c] w fun e w' => e = .returned (.slice A n n) ∧ w = w' := by
  go_enter Try.func26, Try.ntmps26
  go_wp2_with fail
  go_ret
  exact ⟨rfl, rfl⟩
end Go.Proofs.Ytnlfkeajolfboaa
