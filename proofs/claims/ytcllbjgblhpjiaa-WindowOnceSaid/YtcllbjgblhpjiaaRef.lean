/- The document's own window: what its functions compute. -/
import Derived.Test.YtcllbjgblhpjiaaAdd
namespace Go.Proofs.Ytcllbjgblhpjiaa
open Go.RowKit Go.Hop
theorem rfar_any (w : World) (g : Nat) (F : Int) (M : Nat) (n : Int) (h : Blk w g 41 #[.int .i64 F, .int .u64 (M : Int)]) (hF : -9223372036854775808 ≤ F ∧ F ≤ 9223372036854775807) (hn : -9223372036854775808 ≤ n ∧ n ≤ 9223372036854775807) :
    Calls Try.prog 21 #[.pointer (some ⟨g, 0, none⟩), .int .i64 n] w fun e w' => e = .returned (.bool (far F n)) ∧ w = w' := by
  have c0 := h.cell 0
  by_cases hlt : F < n
  · go_enter Try.func21, Try.ntmps21
    go_wp2_with fail
    go_ret
    refine ⟨ret_bool ?_, rfl⟩
    unfold far
    rw [Bool.eq_iff_iff]
    simp only [wrap_u64, Bool.and_eq_true, decide_eq_true_eq]
    omega
  · go_enter Try.func21, Try.ntmps21
    go_wp2_with fail
    go_ret
    exact ⟨ret_bool (by unfold far; rw [decide_eq_false (by omega)]; rfl), rfl⟩
theorem rfar_is (w : World) (g : Nat) (F : Int) (M : Nat) (n : Int) (b : Bool) (h : Blk w g 41 #[.int .i64 F, .int .u64 (M : Int)]) (hF : -9223372036854775808 ≤ F ∧ F ≤ 9223372036854775807) (hn : -9223372036854775808 ≤ n ∧ n ≤ 9223372036854775807) (hb : far F n = b) :
    Calls Try.prog 21 #[.pointer (some ⟨g, 0, none⟩), .int .i64 n] w fun e w' => e = .returned (.bool b) ∧ w = w' := hb ▸ rfar_any w g F M n h hF hn

theorem rseen_old (w : World) (g : Nat) (F : Int) (M : Nat) (n : Int) (h : Blk w g 41 #[.int .i64 F, .int .u64 (M : Int)]) (hle : n ≤ F) :
    Calls Try.prog 20 #[.pointer (some ⟨g, 0, none⟩), .int .i64 n] w fun e w' => e = .returned (.bool true) ∧ Grow w w' := by
  have c0 := h.cell 0
  go_enter Try.func20, Try.ntmps20
  go_wp2_with fail
  go_ret
  exact ⟨rfl, Grow.refl _⟩
set_option maxHeartbeats 400000 in
theorem rseen_far (w : World) (g : Nat) (F : Int) (M : Nat) (n : Int) (h : Blk w g 41 #[.int .i64 F, .int .u64 (M : Int)]) (hF : -9223372036854775808 ≤ F ∧ F ≤ 9223372036854775807) (hn : -9223372036854775808 ≤ n ∧ n ≤ 9223372036854775807) (hle : F < n) (hf : far F n = true) :
    Calls Try.prog 20 #[.pointer (some ⟨g, 0, none⟩), .int .i64 n] w fun e w' => e = .returned (.bool false) ∧ Grow w w' := by
  have k21 : ∀ (vs : Array Value) (w : World), (callFunc 21 vs).run Try.prog w = .ok (.enter 21 vs) w := fun vs w => by go_simp
  have hnl : ¬ n ≤ F := by omega
  have c0 := h.cell 0
  have FF := Lib.hid hf
  clear hf
  go_enter Try.func20, Try.ntmps20
  go_wp2_with fail
  refine wp_region_flow 22 32 [(2, .inl (.bool true))] rfl rfl (by kernel_rfl) (by kernel_rfl) (by kernel_rfl) ?_ ?_
  · intro x hx φ he
    simp only [List.mem_cons, List.not_mem_nil, or_false] at hx
    rcases hx with rfl <;> cases he
  intro ops' A' K' T hops hA' hK hT
  refine fl_mv 11 (by rfl) (by decide) (wanted_none (by rfl)) (by rw [hK.out]; rfl) (by rfl) _ (Or.inl (by rfl)) (.pointer (some ⟨g, 0, none⟩)) (by rfl) ?_
  refine fl_mv 12 (by rfl) (by decide) (wanted_none (by rfl)) (by rw [hK.out]; rfl) (by rfl) _ (Or.inl (by rfl)) (.int .i64 n) (by rfl) ?_
  refine fl_call 13 (by rfl) (by decide) (wanted_none (by rfl)) (.bool true) (by rw [hK.out]; rfl) 21 _ _ (by rfl) [.pointer (some ⟨g, 0, none⟩), .int .i64 n] (by rfl) k21 (fun kk w1 (hg : Grow _ w1) hb hf => calls_behind (by rfl) (by exact grew_same (rfar_is w1 g F M n true (h.grow hg) hF hn FF.out))) ?_
  refine fl_op1 14 (by rfl) (by decide) (wanted_none (by rfl)) (by rw [hK.out]; rfl) (by rfl) (.tmp 13) (.bool true) (by rfl) (.bool false) (fun ρ h1 kk w1 (hg : Grow _ w1) hb hf => by go_simp) ?_
  refine fl_mv 15 (by rfl) (by decide) (wanted_none (by rfl)) (by rw [hK.out]; rfl) (by rfl) _ (Or.inl (by rfl)) (.bool false) (by rfl) ?_
  refine fl_skip 16 (by rfl) (by decide) (wanted_if hops 4 true (by rfl) 15 (by rfl) false (by rfl)) (by rfl) ?_
  refine fl_skip 17 (by rfl) (by decide) (wanted_if hops 4 true (by rfl) 15 (by rfl) false (by rfl)) (by rfl) ?_
  refine fl_skip 18 (by rfl) (by decide) (wanted_if hops 4 true (by rfl) 15 (by rfl) false (by rfl)) (by rfl) ?_
  refine fl_skip 19 (by rfl) (by decide) (wanted_if hops 4 true (by rfl) 15 (by rfl) false (by rfl)) (by rfl) ?_
  refine fl_skip 20 (by rfl) (by decide) (wanted_if hops 4 true (by rfl) 15 (by rfl) false (by rfl)) (by rfl) ?_
  refine fl_skip 21 (by rfl) (by decide) (wanted_if hops 4 true (by rfl) 15 (by rfl) false (by rfl)) (by rfl) ?_
  refine fl_skip 22 (by rfl) (by decide) (wanted_if hops 4 true (by rfl) 15 (by rfl) false (by rfl)) (by rfl) ?_
  refine fl_skip 23 (by rfl) (by decide) (wanted_if hops 4 true (by rfl) 15 (by rfl) false (by rfl)) (by rfl) ?_
  refine fl_skip 24 (by rfl) (by decide) (wanted_if hops 4 true (by rfl) 15 (by rfl) false (by rfl)) (by rfl) ?_
  refine fl_skip 25 (by rfl) (by decide) (wanted_if hops 4 true (by rfl) 15 (by rfl) false (by rfl)) (by rfl) ?_
  refine fl_skip 26 (by rfl) (by decide) (wanted_if hops 4 true (by rfl) 15 (by rfl) false (by rfl)) (by rfl) ?_
  refine fl_skip 27 (by rfl) (by decide) (wanted_if hops 4 true (by rfl) 15 (by rfl) false (by rfl)) (by rfl) ?_
  refine fl_skip 28 (by rfl) (by decide) (wanted_if hops 4 true (by rfl) 15 (by rfl) false (by rfl)) (by rfl) ?_
  refine fl_skip 29 (by rfl) (by decide) (wanted_if hops 4 true (by rfl) 15 (by rfl) false (by rfl)) (by rfl) ?_
  refine fl_skip 30 (by rfl) (by decide) (wanted_if hops 4 true (by rfl) 15 (by rfl) false (by rfl)) (by rfl) ?_
  refine fl_pick 31 (by rfl) (by decide) (wanted_none (by rfl)) (by rw [hK.out]; rfl) (by rfl) _ _ _ (by rfl) false (by rfl) (.bool false) (by rfl) ?_
  refine fl_mv 4 (by rfl) (by decide) (wanted_none (by rfl)) (by rw [hK.out]; rfl) (by rfl) _ (Or.inr (by rfl)) (.bool false) (by rfl) ?_
  refine fl_end (fun _ _ w1 (hg : Grow _ w1) _ hfacts => hT _ _ ?_)
  clear hops hA' hK hT
  simp only [putsL, Act.put, List.setIfInBounds_toArray, List.set_cons_zero, List.set_cons_succ, List.drop_succ_cons, List.drop_zero]

  go_wp2_with fail
  go_ret
  exact ⟨rfl, hg⟩
theorem wrap_id (x : Int) (h1 : -9223372036854775808 ≤ x) (h2 : x ≤ 9223372036854775807) : IntKind.i64.wrap x = x := by
  simp [IntKind.wrap, IntKind.bits, IntKind.signed]
  split <;> omega
set_option maxHeartbeats 400000 in
theorem rseen_in (w : World) (g : Nat) (F : Int) (M : Nat) (n : Int) (d : Nat) (h : Blk w g 41 #[.int .i64 F, .int .u64 (M : Int)]) (hM : M < 18446744073709551616) (hF : -9223372036854775808 ≤ F ∧ F ≤ 9223372036854775807) (hn : -9223372036854775808 ≤ n ∧ n ≤ 9223372036854775807) (hd : n - F - 1 = (d : Int)) (hlt : d < 64) :
    Calls Try.prog 20 #[.pointer (some ⟨g, 0, none⟩), .int .i64 n] w fun e w' => e = .returned (.bool (M.testBit d)) ∧ Grow w w' := by
  have k21 : ∀ (vs : Array Value) (w : World), (callFunc 21 vs).run Try.prog w = .ok (.enter 21 vs) w := fun vs w => by go_simp
  have hnl : ¬ n ≤ F := by omega
  have c0 := h.cell 0
  have hnf : far F n = false := by
    unfold far
    rw [Bool.and_eq_false_iff]
    exact .inr (decide_eq_false (by omega))
  have FF := Lib.hid hnf
  have HD := Lib.hid hd
  clear hnf hd
  obtain ⟨x, HX⟩ : ∃ x : Nat, Hid (x = M >>> d) := ⟨_, rfl⟩
  have hx : x < 18446744073709551616 := by rw [HX.out]; exact Nat.lt_of_le_of_lt (Nat.shiftRight_le M d) hM
  obtain ⟨y, HY⟩ : ∃ y : Nat, Hid (y = x % 2) := ⟨_, rfl⟩
  obtain ⟨z, HZ⟩ : ∃ z : Int, Hid (z = n - F) := ⟨_, rfl⟩
  go_enter Try.func20, Try.ntmps20
  go_wp2_with fail
  refine wp_region_flow 22 32 [(2, .inl (.bool false))] rfl rfl (by kernel_rfl) (by kernel_rfl) (by kernel_rfl) ?_ ?_
  · intro x hx φ he
    simp only [List.mem_cons, List.not_mem_nil, or_false] at hx
    rcases hx with rfl <;> cases he
  intro ops' A' K' T hops hA' hK hT
  refine fl_mv 11 (by rfl) (by decide) (wanted_none (by rfl)) (by rw [hK.out]; rfl) (by rfl) _ (Or.inl (by rfl)) (.pointer (some ⟨g, 0, none⟩)) (by rfl) ?_
  refine fl_mv 12 (by rfl) (by decide) (wanted_none (by rfl)) (by rw [hK.out]; rfl) (by rfl) _ (Or.inl (by rfl)) (.int .i64 n) (by rfl) ?_
  refine fl_call 13 (by rfl) (by decide) (wanted_none (by rfl)) (.bool false) (by rw [hK.out]; rfl) 21 _ _ (by rfl) [.pointer (some ⟨g, 0, none⟩), .int .i64 n] (by rfl) k21 (fun kk w1 (hg : Grow _ w1) hb hf => calls_behind (by rfl) (by exact grew_same (rfar_is w1 g F M n false (h.grow hg) hF hn FF.out))) ?_
  refine fl_op1 14 (by rfl) (by decide) (wanted_none (by rfl)) (by rw [hK.out]; rfl) (by rfl) (.tmp 13) (.bool false) (by rfl) (.bool true) (fun ρ h1 kk w1 (hg : Grow _ w1) hb hf => by go_simp) ?_
  refine fl_mv 15 (by rfl) (by decide) (wanted_none (by rfl)) (by rw [hK.out]; rfl) (by rfl) _ (Or.inl (by rfl)) (.bool true) (by rfl) ?_
  refine fl_mv 16 (by rfl) (by decide) (wanted_if hops 4 true (by rfl) 15 (by rfl) true (by rfl)) (by rw [hK.out]; rfl) (by rfl) _ (Or.inl (by rfl)) (.pointer (some ⟨g, 0, none⟩)) (by rfl) ?_
  refine fl_op1 17 (by rfl) (by decide) (wanted_if hops 4 true (by rfl) 15 (by rfl) true (by rfl)) (by rw [hK.out]; rfl) (by rfl) (.tmp 16) (.pointer (some ⟨g, 0, none⟩)) (by rfl) (.pointer (some ⟨g, 0, none⟩)) (fun ρ h1 kk w1 (hg : Grow _ w1) hb hf => by go_simp) ?_
  refine fl_op1 18 (by rfl) (by decide) (wanted_if hops 4 true (by rfl) 15 (by rfl) true (by rfl)) (by rw [hK.out]; rfl) (by rfl) (.tmp 17) (.pointer (some ⟨g, 0, none⟩)) (by rfl) (.pointer (some ⟨g, 1, none⟩)) (fun ρ h1 kk w1 (hg : Grow _ w1) hb hf => by go_simp) ?_
  refine fl_op1 19 (by rfl) (by decide) (wanted_if hops 4 true (by rfl) 15 (by rfl) true (by rfl)) (by rw [hK.out]; rfl) (by rfl) (.tmp 18) (.pointer (some ⟨g, 1, none⟩)) (by rfl) (.int .u64 (M : Int)) (fun ρ h1 kk w1 (hg : Grow _ w1) hb hf => by have c := (h.grow hg).cell 1; go_simp) ?_
  refine fl_mv 20 (by rfl) (by decide) (wanted_if hops 4 true (by rfl) 15 (by rfl) true (by rfl)) (by rw [hK.out]; rfl) (by rfl) _ (Or.inl (by rfl)) (.int .i64 n) (by rfl) ?_
  refine fl_mv 21 (by rfl) (by decide) (wanted_if hops 4 true (by rfl) 15 (by rfl) true (by rfl)) (by rw [hK.out]; rfl) (by rfl) _ (Or.inl (by rfl)) (.pointer (some ⟨g, 0, none⟩)) (by rfl) ?_
  refine fl_op1 22 (by rfl) (by decide) (wanted_if hops 4 true (by rfl) 15 (by rfl) true (by rfl)) (by rw [hK.out]; rfl) (by rfl) (.tmp 21) (.pointer (some ⟨g, 0, none⟩)) (by rfl) (.pointer (some ⟨g, 0, none⟩)) (fun ρ h1 kk w1 (hg : Grow _ w1) hb hf => by go_simp) ?_
  refine fl_op1 23 (by rfl) (by decide) (wanted_if hops 4 true (by rfl) 15 (by rfl) true (by rfl)) (by rw [hK.out]; rfl) (by rfl) (.tmp 22) (.pointer (some ⟨g, 0, none⟩)) (by rfl) (.pointer (some ⟨g, 0, none⟩)) (fun ρ h1 kk w1 (hg : Grow _ w1) hb hf => by go_simp) ?_
  refine fl_op1 24 (by rfl) (by decide) (wanted_if hops 4 true (by rfl) 15 (by rfl) true (by rfl)) (by rw [hK.out]; rfl) (by rfl) (.tmp 23) (.pointer (some ⟨g, 0, none⟩)) (by rfl) (.int .i64 F) (fun ρ h1 kk w1 (hg : Grow _ w1) hb hf => by have c := (h.grow hg).cell 0; go_simp) ?_
  refine fl_op2 25 (by rfl) (by decide) (wanted_if hops 4 true (by rfl) 15 (by rfl) true (by rfl)) (by rw [hK.out]; rfl) (by rfl) (.tmp 20) (.tmp 24) (.int .i64 n) (.int .i64 F) (by rfl) (by rfl) (.int .i64 z) (fun ρ h1 h2 kk w1 (hg : Grow _ w1) hb hf => by have := HD.out; go_simp; rw [HZ.out]; exact wrap_id _ (by omega) (by omega)) ?_
  refine fl_op2 26 (by rfl) (by decide) (wanted_if hops 4 true (by rfl) 15 (by rfl) true (by rfl)) (by rw [hK.out]; rfl) (by rfl) (.tmp 25) (.const (.int .i64 1)) (.int .i64 z) (.int .i64 1) (by rfl) (by rfl) (.int .i64 (d : Int)) (fun ρ h1 h2 kk w1 (hg : Grow _ w1) hb hf => by have := HD.out; have := HZ.out; go_simp; exact (wrap_id _ (by omega) (by omega)).trans (by omega)) ?_
  refine fl_op1 27 (by rfl) (by decide) (wanted_if hops 4 true (by rfl) 15 (by rfl) true (by rfl)) (by rw [hK.out]; rfl) (by rfl) (.tmp 26) (.int .i64 (d : Int)) (by rfl) (.int .u64 (d : Int)) (fun ρ h1 kk w1 (hg : Grow _ w1) hb hf => by go_simp; rw [wrap_u64]; omega) ?_
  refine fl_op2 28 (by rfl) (by decide) (wanted_if hops 4 true (by rfl) 15 (by rfl) true (by rfl)) (by rw [hK.out]; rfl) (by rfl) (.tmp 19) (.tmp 27) (.int .u64 (M : Int)) (.int .u64 (d : Int)) (by rfl) (by rfl) (.int .u64 (x : Int)) (fun ρ h1 h2 kk w1 (hg : Grow _ w1) hb hf => by go_simp; rw [HX.out]; exact shr_bit M d) ?_
  refine fl_op2 29 (by rfl) (by decide) (wanted_if hops 4 true (by rfl) 15 (by rfl) true (by rfl)) (by rw [hK.out]; rfl) (by rfl) (.tmp 28) (.const (.int .u64 1)) (.int .u64 (x : Int)) (.int .u64 1) (by rfl) (by rfl) (.int .u64 (y : Int)) (fun ρ h1 h2 kk w1 (hg : Grow _ w1) hb hf => by go_simp; rw [HY.out]; exact and_one _ hx) ?_
  refine fl_op2 30 (by rfl) (by decide) (wanted_if hops 4 true (by rfl) 15 (by rfl) true (by rfl)) (by rw [hK.out]; rfl) (by rfl) (.tmp 29) (.const (.int .u64 1)) (.int .u64 (y : Int)) (.int .u64 1) (by rfl) (by rfl) (.bool (M.testBit d)) (fun ρ h1 h2 kk w1 (hg : Grow _ w1) hb hf => by go_simp; rw [HY.out, HX.out]; exact bit_mod M d) ?_
  refine fl_pick 31 (by rfl) (by decide) (wanted_none (by rfl)) (by rw [hK.out]; rfl) (by rfl) _ _ _ (by rfl) true (by rfl) (.bool (M.testBit d)) (by rfl) ?_
  refine fl_mv 4 (by rfl) (by decide) (wanted_none (by rfl)) (by rw [hK.out]; rfl) (by rfl) _ (Or.inr (by rfl)) (.bool (M.testBit d)) (by rfl) ?_
  refine fl_end (fun _ _ w1 (hg : Grow _ w1) _ hfacts => hT _ _ ?_)
  clear hops hA' hK hT
  simp only [putsL, Act.put, List.setIfInBounds_toArray, List.set_cons_zero, List.set_cons_succ, List.drop_succ_cons, List.drop_zero]

  go_wp2_with fail
  go_ret
  exact ⟨rfl, hg⟩
end Go.Proofs.Ytcllbjgblhpjiaa
