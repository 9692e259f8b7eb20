/- slices.Clone, slices.Clip of bytes. -/
import Derived.Test.YtedpcdliadfhgaaDplain
namespace Go.Proofs.Ytedpcdliadfhgaa
open Go.RowKit Go.Hop
theorem clone_any (w : World) (A : Option Addr) (n c : Nat) (l : List UInt8) (h : Bytes w w.heap.size A n l) (hn : n ≤ 140737488355328) :
    Calls Try.prog 24 #[.slice A n c] w fun e w' => ∃ v, e = .returned v ∧ Own w' (New w w') 5 1 v n (u8s l) ∧ Grow w w' := by
  have hnil := fun (w' : World) => Lib.run_eql_slice_nil (P := Try.prog) w' 23 5 A n c 0 0 Try.underlying23
  cases A with
  | none =>
    have hn0 : n = 0 := by
      rcases Nat.eq_zero_or_pos n with h0 | h0
      · exact h0
      · obtain ⟨_, e, _⟩ := h.2 h0; cases e
    subst hn0
    obtain rfl : l = [] := List.eq_nil_of_length_eq_zero h.len
    go_enter Try.func24, Try.ntmps24
    go_wp2_with fail
    go_ret
    exact ⟨_, rfl, Own.nil, Grow.refl _⟩
  | some ad =>
    go_enter Try.func24, Try.ntmps24
    go_wp2_with (at_builtin; refine stay ?_)
    refine stay_out ?_
    refine wpList_own (V := fun b => b = w.heap.size) u8E _ rfl (.tmp 5) (.tmp 6) rfl (.slice (some ⟨w.heap.size, 0, none⟩) 0 0) 0 [] rfl (Own.of_row (World.ownsRow_made w #[] 0 (Nat.le_refl _) (by decide) rfl) (fun g hg => by injection hg with hg; exact hg.symm)) w.heap.size (some ad) n c (u8s l) rfl (Reads.alloc h (Nat.le_refl _) _) u8s_one (by omega) ?_
    intro v1 w1 hO1 hj1
    simp only [Nat.zero_add, List.nil_append] at hO1
    have hs : w.heap.size < w1.heap.size := by have := hj1.size; simp at this; omega
    have hg1 : Grow w w1 := ((Below.refl w.heap.size w).alloc (Nat.le_refl _) (.cells #[] 5)).trans (hj1.below (B := w.heap.size) (fun b hb => by rw [hb]; exact Nat.le_refl _) (by simp))
    go_wp2_with fail
    go_ret
    exact ⟨v1, rfl, hO1.mono (fun b hb => by
      rcases hb with rfl | ⟨h1, h2⟩
      · exact ⟨Nat.le_refl _, hs⟩
      · simp at h1; exact ⟨by omega, h2⟩), hg1⟩
theorem clip_any (w : World) (A : Option Addr) (n c : Nat) (hn : n ≤ c) :
    Calls Try.prog 25 #[.slice A n c] w fun e w' => e = .returned (.slice A n n) ∧ w = w' := by
  go_enter Try.func25, Try.ntmps25
  go_wp2_with fail
  go_ret
  exact ⟨rfl, rfl⟩
end Go.Proofs.Ytedpcdliadfhgaa
