/- Making a window, copying it; do two windows answer alike. -/
import Derived.Test.YtcllbjgblhpjiaaRefAdd
namespace Go.Proofs.Ytcllbjgblhpjiaa
open Go.RowKit Go.Hop
theorem new_any (w : World) : Calls Try.prog 7 #[] w fun e w' => e = .returned (.pointer (some ⟨w.heap.size, 0, none⟩)) ∧ Blk w' w.heap.size 36 #[.int .i64 0, .int .u64 ((0 : Nat) : Int)] ∧ Grow w w' := by
  go_enter Try.func7, Try.ntmps7
  go_wp2_with fail
  go_ret
  exact ⟨rfl, Blk.made w 36 _, (Below.refl _ w).alloc (Nat.le_refl _) _⟩
theorem copy_any (w : World) (g : Nat) (F : Int) (M : Nat) (h : Blk w g 36 #[.int .i64 F, .int .u64 (M : Int)]) :
    Calls Try.prog 15 #[.pointer (some ⟨g, 0, none⟩)] w fun e w' => e = .returned (.pointer (some ⟨w.heap.size, 0, none⟩)) ∧ Blk w' w.heap.size 36 #[.int .i64 F, .int .u64 (M : Int)] ∧ Grow w w' := by
  have c0 := h.cell 0
  have c1 := h.cell 1
  go_enter Try.func15, Try.ntmps15
  go_wp2_with fail
  go_ret
  exact ⟨rfl, Blk.made w 36 _, (Below.refl _ w).alloc (Nat.le_refl _) _⟩
set_option maxHeartbeats 1000000 in
theorem same_any (w : World) (g x : Nat) (F : Int) (M : Nat) (n : Int) (h : Blk w g 36 #[.int .i64 F, .int .u64 (M : Int)]) (h' : Blk w x 41 #[.int .i64 F, .int .u64 (M : Int)]) (hI : WInv F M) (hn : -9223372036854775808 ≤ n ∧ n ≤ 9223372036854775807) :
    Calls Try.prog 18 #[.pointer (some ⟨g, 0, none⟩), .pointer (some ⟨x, 0, none⟩), .int .i64 n] w fun e w' => e = .returned (.bool true) ∧ Grow w w' := by
  have hF : -9223372036854775808 ≤ F ∧ F ≤ 9223372036854775807 := ⟨by have := hI.lo; omega, hI.hi⟩
  have k11 : ∀ (vs : Array Value) (w : World), (callFunc 11 vs).run Try.prog w = .ok (.enter 11 vs) w := fun vs w => by go_simp
  have k12 : ∀ (vs : Array Value) (w : World), (callFunc 12 vs).run Try.prog w = .ok (.enter 12 vs) w := fun vs w => by go_simp
  have k10 : ∀ (vs : Array Value) (w : World), (callFunc 10 vs).run Try.prog w = .ok (.enter 10 vs) w := fun vs w => by go_simp
  have k20 : ∀ (vs : Array Value) (w : World), (callFunc 20 vs).run Try.prog w = .ok (.enter 20 vs) w := fun vs w => by go_simp
  have k16 : ∀ (vs : Array Value) (w : World), (callFunc 16 vs).run Try.prog w = .ok (.enter 16 vs) w := fun vs w => by go_simp
  have k21 : ∀ (vs : Array Value) (w : World), (callFunc 21 vs).run Try.prog w = .ok (.enter 21 vs) w := fun vs w => by go_simp

  go_enter Try.func18, Try.ntmps18
  go_wp2_with fail
  refine wp_region_flow 35 41 [(1, .inl (.int .i64 F)), (9, .inl (.int .u64 (M : Int))), (19, .inl (.bool (seen F M n))), (22, .inl (.bool (seen F M n))), (28, .inl (.bool (far F n))), (31, .inl (.bool (far F n)))] rfl rfl (by kernel_rfl) (by kernel_rfl) (by kernel_rfl) ?_ ?_
  · intro x hx φ he
    simp only [List.mem_cons, List.not_mem_nil, or_false] at hx
    rcases hx with rfl | rfl | rfl | rfl | rfl | rfl <;> cases he
  intro ops' A' K' T hops hA' hK hT
  refine fl_mv 7 (by rfl) (by decide) (wanted_none (by rfl)) (by rw [hK.out]; rfl) (by rfl) _ (Or.inl (by rfl)) (.pointer (some ⟨g, 0, none⟩)) (by rfl) ?_
  refine fl_call 8 (by rfl) (by decide) (wanted_none (by rfl)) (.int .i64 F) (by rw [hK.out]; rfl) 11 _ _ (by rfl) [.pointer (some ⟨g, 0, none⟩)] (by rfl) k11 (fun kk w1 (hg : Grow _ w1) hb hf => calls_behind (by rfl) (by exact grew_same (floor_any w1 g F M (h.grow hg)))) ?_
  refine fl_mv 9 (by rfl) (by decide) (wanted_none (by rfl)) (by rw [hK.out]; rfl) (by rfl) _ (Or.inl (by rfl)) (.pointer (some ⟨x, 0, none⟩)) (by rfl) ?_
  refine fl_op1 10 (by rfl) (by decide) (wanted_none (by rfl)) (by rw [hK.out]; rfl) (by rfl) (.tmp 9) (.pointer (some ⟨x, 0, none⟩)) (by rfl) (.pointer (some ⟨x, 0, none⟩)) (fun ρ h1 kk w1 (hg : Grow _ w1) hb hf => by go_simp) ?_
  refine fl_op1 11 (by rfl) (by decide) (wanted_none (by rfl)) (by rw [hK.out]; rfl) (by rfl) (.tmp 10) (.pointer (some ⟨x, 0, none⟩)) (by rfl) (.pointer (some ⟨x, 0, none⟩)) (fun ρ h1 kk w1 (hg : Grow _ w1) hb hf => by go_simp) ?_
  refine fl_op1 12 (by rfl) (by decide) (wanted_none (by rfl)) (by rw [hK.out]; rfl) (by rfl) (.tmp 11) (.pointer (some ⟨x, 0, none⟩)) (by rfl) (.int .i64 F) (fun ρ h1 kk w1 (hg : Grow _ w1) hb hf => by have c := (h'.grow hg).cell 0; go_simp) ?_
  refine fl_op2 13 (by rfl) (by decide) (wanted_none (by rfl)) (by rw [hK.out]; rfl) (by rfl) (.tmp 8) (.tmp 12) (.int .i64 F) (.int .i64 F) (by rfl) (by rfl) (.bool true) (fun ρ h1 h2 kk w1 (hg : Grow _ w1) hb hf => by go_simp) ?_
  refine fl_mv 14 (by rfl) (by decide) (wanted_none (by rfl)) (by rw [hK.out]; rfl) (by rfl) _ (Or.inl (by rfl)) (.bool true) (by rfl) ?_
  refine fl_mv 15 (by rfl) (by decide) (wanted_if hops 7 true (by rfl) 14 (by rfl) true (by rfl)) (by rw [hK.out]; rfl) (by rfl) _ (Or.inl (by rfl)) (.pointer (some ⟨g, 0, none⟩)) (by rfl) ?_
  refine fl_call 16 (by rfl) (by decide) (wanted_if hops 7 true (by rfl) 14 (by rfl) true (by rfl)) (.int .u64 (M : Int)) (by rw [hK.out]; rfl) 12 _ _ (by rfl) [.pointer (some ⟨g, 0, none⟩)] (by rfl) k12 (fun kk w1 (hg : Grow _ w1) hb hf => calls_behind (by rfl) (by exact grew_same (mask_any w1 g F M (h.grow hg)))) ?_
  refine fl_mv 17 (by rfl) (by decide) (wanted_if hops 7 true (by rfl) 14 (by rfl) true (by rfl)) (by rw [hK.out]; rfl) (by rfl) _ (Or.inl (by rfl)) (.pointer (some ⟨x, 0, none⟩)) (by rfl) ?_
  refine fl_op1 18 (by rfl) (by decide) (wanted_if hops 7 true (by rfl) 14 (by rfl) true (by rfl)) (by rw [hK.out]; rfl) (by rfl) (.tmp 17) (.pointer (some ⟨x, 0, none⟩)) (by rfl) (.pointer (some ⟨x, 0, none⟩)) (fun ρ h1 kk w1 (hg : Grow _ w1) hb hf => by go_simp) ?_
  refine fl_op1 19 (by rfl) (by decide) (wanted_if hops 7 true (by rfl) 14 (by rfl) true (by rfl)) (by rw [hK.out]; rfl) (by rfl) (.tmp 18) (.pointer (some ⟨x, 0, none⟩)) (by rfl) (.pointer (some ⟨x, 1, none⟩)) (fun ρ h1 kk w1 (hg : Grow _ w1) hb hf => by go_simp) ?_
  refine fl_op1 20 (by rfl) (by decide) (wanted_if hops 7 true (by rfl) 14 (by rfl) true (by rfl)) (by rw [hK.out]; rfl) (by rfl) (.tmp 19) (.pointer (some ⟨x, 1, none⟩)) (by rfl) (.int .u64 (M : Int)) (fun ρ h1 kk w1 (hg : Grow _ w1) hb hf => by have c := (h'.grow hg).cell 1; go_simp) ?_
  refine fl_op2 21 (by rfl) (by decide) (wanted_if hops 7 true (by rfl) 14 (by rfl) true (by rfl)) (by rw [hK.out]; rfl) (by rfl) (.tmp 16) (.tmp 20) (.int .u64 (M : Int)) (.int .u64 (M : Int)) (by rfl) (by rfl) (.bool true) (fun ρ h1 h2 kk w1 (hg : Grow _ w1) hb hf => by go_simp) ?_
  refine fl_pick 22 (by rfl) (by decide) (wanted_none (by rfl)) (by rw [hK.out]; rfl) (by rfl) _ _ _ (by rfl) true (by rfl) (.bool true) (by rfl) ?_
  refine fl_mv 23 (by rfl) (by decide) (wanted_none (by rfl)) (by rw [hK.out]; rfl) (by rfl) _ (Or.inl (by rfl)) (.bool true) (by rfl) ?_
  refine fl_mv 24 (by rfl) (by decide) (wanted_if hops 16 true (by rfl) 23 (by rfl) true (by rfl)) (by rw [hK.out]; rfl) (by rfl) _ (Or.inl (by rfl)) (.pointer (some ⟨g, 0, none⟩)) (by rfl) ?_
  refine fl_mv 25 (by rfl) (by decide) (wanted_if hops 16 true (by rfl) 23 (by rfl) true (by rfl)) (by rw [hK.out]; rfl) (by rfl) _ (Or.inl (by rfl)) (.int .i64 n) (by rfl) ?_
  refine fl_call 26 (by rfl) (by decide) (wanted_if hops 16 true (by rfl) 23 (by rfl) true (by rfl)) (.bool (seen F M n)) (by rw [hK.out]; rfl) 10 _ _ (by rfl) [.pointer (some ⟨g, 0, none⟩), .int .i64 n] (by rfl) k10 (fun kk w1 (hg : Grow _ w1) hb hf => calls_behind (by rfl) (by exact seen_any w1 g F M n (h.grow hg) hI hn)) ?_
  refine fl_mv 27 (by rfl) (by decide) (wanted_if hops 16 true (by rfl) 23 (by rfl) true (by rfl)) (by rw [hK.out]; rfl) (by rfl) _ (Or.inl (by rfl)) (.pointer (some ⟨x, 0, none⟩)) (by rfl) ?_
  refine fl_mv 28 (by rfl) (by decide) (wanted_if hops 16 true (by rfl) 23 (by rfl) true (by rfl)) (by rw [hK.out]; rfl) (by rfl) _ (Or.inl (by rfl)) (.int .i64 n) (by rfl) ?_
  refine fl_call 29 (by rfl) (by decide) (wanted_if hops 16 true (by rfl) 23 (by rfl) true (by rfl)) (.bool (seen F M n)) (by rw [hK.out]; rfl) 20 _ _ (by rfl) [.pointer (some ⟨x, 0, none⟩), .int .i64 n] (by rfl) k20 (fun kk w1 (hg : Grow _ w1) hb hf => calls_behind (by rfl) (by exact rseen_any w1 x F M n (h'.grow hg) hI hn)) ?_
  refine fl_op2 30 (by rfl) (by decide) (wanted_if hops 16 true (by rfl) 23 (by rfl) true (by rfl)) (by rw [hK.out]; rfl) (by rfl) (.tmp 26) (.tmp 29) (.bool (seen F M n)) (.bool (seen F M n)) (by rfl) (by rfl) (.bool true) (fun ρ h1 h2 kk w1 (hg : Grow _ w1) hb hf => by go_simp) ?_
  refine fl_pick 31 (by rfl) (by decide) (wanted_none (by rfl)) (by rw [hK.out]; rfl) (by rfl) _ _ _ (by rfl) true (by rfl) (.bool true) (by rfl) ?_
  refine fl_mv 32 (by rfl) (by decide) (wanted_none (by rfl)) (by rw [hK.out]; rfl) (by rfl) _ (Or.inl (by rfl)) (.bool true) (by rfl) ?_
  refine fl_mv 33 (by rfl) (by decide) (wanted_if hops 25 true (by rfl) 32 (by rfl) true (by rfl)) (by rw [hK.out]; rfl) (by rfl) _ (Or.inl (by rfl)) (.pointer (some ⟨g, 0, none⟩)) (by rfl) ?_
  refine fl_mv 34 (by rfl) (by decide) (wanted_if hops 25 true (by rfl) 32 (by rfl) true (by rfl)) (by rw [hK.out]; rfl) (by rfl) _ (Or.inl (by rfl)) (.int .i64 n) (by rfl) ?_
  refine fl_call 35 (by rfl) (by decide) (wanted_if hops 25 true (by rfl) 32 (by rfl) true (by rfl)) (.bool (far F n)) (by rw [hK.out]; rfl) 16 _ _ (by rfl) [.pointer (some ⟨g, 0, none⟩), .int .i64 n] (by rfl) k16 (fun kk w1 (hg : Grow _ w1) hb hf => calls_behind (by rfl) (by exact grew_same (far_any w1 g F M n (h.grow hg) hF hn))) ?_
  refine fl_mv 36 (by rfl) (by decide) (wanted_if hops 25 true (by rfl) 32 (by rfl) true (by rfl)) (by rw [hK.out]; rfl) (by rfl) _ (Or.inl (by rfl)) (.pointer (some ⟨x, 0, none⟩)) (by rfl) ?_
  refine fl_mv 37 (by rfl) (by decide) (wanted_if hops 25 true (by rfl) 32 (by rfl) true (by rfl)) (by rw [hK.out]; rfl) (by rfl) _ (Or.inl (by rfl)) (.int .i64 n) (by rfl) ?_
  refine fl_call 38 (by rfl) (by decide) (wanted_if hops 25 true (by rfl) 32 (by rfl) true (by rfl)) (.bool (far F n)) (by rw [hK.out]; rfl) 21 _ _ (by rfl) [.pointer (some ⟨x, 0, none⟩), .int .i64 n] (by rfl) k21 (fun kk w1 (hg : Grow _ w1) hb hf => calls_behind (by rfl) (by exact grew_same (rfar_any w1 x F M n (h'.grow hg) hF hn))) ?_
  refine fl_op2 39 (by rfl) (by decide) (wanted_if hops 25 true (by rfl) 32 (by rfl) true (by rfl)) (by rw [hK.out]; rfl) (by rfl) (.tmp 35) (.tmp 38) (.bool (far F n)) (.bool (far F n)) (by rfl) (by rfl) (.bool true) (fun ρ h1 h2 kk w1 (hg : Grow _ w1) hb hf => by go_simp) ?_
  refine fl_pick 40 (by rfl) (by decide) (wanted_none (by rfl)) (by rw [hK.out]; rfl) (by rfl) _ _ _ (by rfl) true (by rfl) (.bool true) (by rfl) ?_
  refine fl_mv 6 (by rfl) (by decide) (wanted_none (by rfl)) (by rw [hK.out]; rfl) (by rfl) _ (Or.inr (by rfl)) (.bool true) (by rfl) ?_
  refine fl_end (fun _ _ w1 (hg : Grow _ w1) _ hfacts => hT _ _ ?_)
  clear hops hA' hK hT
  simp only [putsL, Act.put, List.setIfInBounds_toArray, List.set_cons_zero, List.set_cons_succ, List.drop_succ_cons, List.drop_zero]

  go_wp2_with fail
  go_ret
  exact ⟨rfl, hg⟩
end Go.Proofs.Ytcllbjgblhpjiaa
