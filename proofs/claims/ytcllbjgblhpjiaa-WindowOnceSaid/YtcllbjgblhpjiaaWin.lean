/- What the window's functions compute. -/
import Derived.Test.YtcllbjgblhpjiaaPlain
import Derived.Test.YtcllbjgblhpjiaaKit
namespace Go.Proofs.Ytcllbjgblhpjiaa
open Go.RowKit Go.Hop

theorem floor_any (w : World) (g : Nat) (F : Int) (M : Nat) (h : Blk w g 36 #[.int .i64 F, .int .u64 (M : Int)]) :
    Calls Try.prog 11 #[.pointer (some ⟨g, 0, none⟩)] w fun e w' => e = .returned (.int .i64 F) ∧ w = w' := by
  have c0 := h.cell 0
  go_enter Try.func11, Try.ntmps11
  go_wp2
  go_ret
  exact ⟨rfl, rfl⟩
theorem mask_any (w : World) (g : Nat) (F : Int) (M : Nat) (h : Blk w g 36 #[.int .i64 F, .int .u64 (M : Int)]) :
    Calls Try.prog 12 #[.pointer (some ⟨g, 0, none⟩)] w fun e w' => e = .returned (.int .u64 (M : Int)) ∧ w = w' := by
  have c0 := h.cell 1
  go_enter Try.func12, Try.ntmps12
  go_wp2
  go_ret
  exact ⟨rfl, rfl⟩
theorem at_any (w : World) (g : Nat) (F : Int) (M : Nat) (n : Int) (h : Blk w g 36 #[.int .i64 F, .int .u64 (M : Int)]) :
    Calls Try.prog 17 #[.pointer (some ⟨g, 0, none⟩), .int .i64 n] w fun e w' => e = .returned (.int .u64 ((n - F - 1) % 18446744073709551616)) ∧ w = w' := by
  have c0 := h.cell 0
  go_enter Try.func17, Try.ntmps17
  go_wp2
  go_ret
  exact ⟨ret_int (by rw [wrap_u64, wrap_u64, wrap_u64, wrap_u64]; omega), rfl⟩
theorem far_any (w : World) (g : Nat) (F : Int) (M : Nat) (n : Int) (h : Blk w g 36 #[.int .i64 F, .int .u64 (M : Int)]) (hF : -9223372036854775808 ≤ F ∧ F ≤ 9223372036854775807) (hn : -9223372036854775808 ≤ n ∧ n ≤ 9223372036854775807) :
    Calls Try.prog 16 #[.pointer (some ⟨g, 0, none⟩), .int .i64 n] w fun e w' => e = .returned (.bool (far F n)) ∧ w = w' := by
  have c0 := h.cell 0
  by_cases hlt : F < n
  · go_enter Try.func16, Try.ntmps16
    go_wp2_with (go_at_call 17; refine (at_any _ g F M n h).mono ?_; rintro e w1 ⟨rfl, rfl⟩)
    go_ret
    refine ⟨ret_bool ?_, rfl⟩
    unfold far
    rw [Bool.eq_iff_iff]
    simp only [Bool.and_eq_true, decide_eq_true_eq]
    omega
  · go_enter Try.func16, Try.ntmps16
    go_wp2_with fail
    go_ret
    exact ⟨ret_bool (by unfold far; rw [decide_eq_false (by omega)]; rfl), rfl⟩
theorem at_in (w : World) (g : Nat) (F : Int) (M : Nat) (n : Int) (d : Nat) (h : Blk w g 36 #[.int .i64 F, .int .u64 (M : Int)]) (hd : n - F - 1 = (d : Int)) (hlt : d < 64) :
    Calls Try.prog 17 #[.pointer (some ⟨g, 0, none⟩), .int .i64 n] w fun e w' => e = .returned (.int .u64 (d : Int)) ∧ w = w' :=
  (at_any w g F M n h).mono fun e w' ⟨he, hw⟩ => ⟨by rw [he]; exact ret_int (by omega), hw⟩
theorem far_is (w : World) (g : Nat) (F : Int) (M : Nat) (n : Int) (b : Bool) (h : Blk w g 36 #[.int .i64 F, .int .u64 (M : Int)]) (hF : -9223372036854775808 ≤ F ∧ F ≤ 9223372036854775807) (hn : -9223372036854775808 ≤ n ∧ n ≤ 9223372036854775807) (hb : far F n = b) :
    Calls Try.prog 16 #[.pointer (some ⟨g, 0, none⟩), .int .i64 n] w fun e w' => e = .returned (.bool b) ∧ w = w' := hb ▸ far_any w g F M n h hF hn

set_option maxHeartbeats 400000 in
theorem seen_old (w : World) (g : Nat) (F : Int) (M : Nat) (n : Int) (h : Blk w g 36 #[.int .i64 F, .int .u64 (M : Int)]) (hle : n ≤ F) :
    Calls Try.prog 10 #[.pointer (some ⟨g, 0, none⟩), .int .i64 n] w fun e w' => e = .returned (.bool true) ∧ Grow w w' := by
  go_enter Try.func10, Try.ntmps10
  go_wp2_with fail
  refine wp_region_flow 25 29 [] rfl rfl (by kernel_rfl) (by kernel_rfl) (by kernel_rfl) ?_ ?_
  · intro x hx φ he
    cases hx
  intro ops' A' K' T hops hA' hK hT
  refine fl_mv 5 (by rfl) (by decide) (wanted_none (by rfl)) (by rw [hK.out]; rfl) (by rfl) _ (Or.inl (by rfl)) (.int .i64 n) (by rfl) ?_
  refine fl_mv 6 (by rfl) (by decide) (wanted_none (by rfl)) (by rw [hK.out]; rfl) (by rfl) _ (Or.inl (by rfl)) (.pointer (some ⟨g, 0, none⟩)) (by rfl) ?_
  refine fl_op1 7 (by rfl) (by decide) (wanted_none (by rfl)) (by rw [hK.out]; rfl) (by rfl) (.tmp 6) (.pointer (some ⟨g, 0, none⟩)) (by rfl) (.pointer (some ⟨g, 0, none⟩)) (fun ρ h1 kk w1 (hg : Grow _ w1) hb hf => by go_simp) ?_
  refine fl_op1 8 (by rfl) (by decide) (wanted_none (by rfl)) (by rw [hK.out]; rfl) (by rfl) (.tmp 7) (.pointer (some ⟨g, 0, none⟩)) (by rfl) (.pointer (some ⟨g, 0, none⟩)) (fun ρ h1 kk w1 (hg : Grow _ w1) hb hf => by go_simp) ?_
  refine fl_op1 9 (by rfl) (by decide) (wanted_none (by rfl)) (by rw [hK.out]; rfl) (by rfl) (.tmp 8) (.pointer (some ⟨g, 0, none⟩)) (by rfl) (.int .i64 F) (fun ρ h1 kk w1 (hg : Grow _ w1) hb hf => by have c := (h.grow hg).cell 0; go_simp) ?_
  refine fl_op2 10 (by rfl) (by decide) (wanted_none (by rfl)) (by rw [hK.out]; rfl) (by rfl) (.tmp 5) (.tmp 9) (.int .i64 n) (.int .i64 F) (by rfl) (by rfl) (.bool true) (fun ρ h1 h2 kk w1 (hg : Grow _ w1) hb hf => by go_simp) ?_
  refine fl_mv 11 (by rfl) (by decide) (wanted_none (by rfl)) (by rw [hK.out]; rfl) (by rfl) _ (Or.inl (by rfl)) (.bool true) (by rfl) ?_
  refine fl_skip 12 (by rfl) (by decide) (wanted_if hops 6 false (by rfl) 11 (by rfl) true (by rfl)) (by rfl) ?_
  refine fl_skip 13 (by rfl) (by decide) (wanted_if hops 6 false (by rfl) 11 (by rfl) true (by rfl)) (by rfl) ?_
  refine fl_skip 14 (by rfl) (by decide) (wanted_if hops 6 false (by rfl) 11 (by rfl) true (by rfl)) (by rfl) ?_
  refine fl_skip 15 (by rfl) (by decide) (wanted_if hops 6 false (by rfl) 11 (by rfl) true (by rfl)) (by rfl) ?_
  refine fl_skip 16 (by rfl) (by decide) (wanted_if hops 6 false (by rfl) 11 (by rfl) true (by rfl)) (by rfl) ?_
  refine fl_skip 17 (by rfl) (by decide) (wanted_out hops 11 true (by rfl) 16 (by rfl) (by rfl)) (by rfl) ?_
  refine fl_skip 18 (by rfl) (by decide) (wanted_out hops 11 true (by rfl) 16 (by rfl) (by rfl)) (by rfl) ?_
  refine fl_skip 19 (by rfl) (by decide) (wanted_out hops 11 true (by rfl) 16 (by rfl) (by rfl)) (by rfl) ?_
  refine fl_skip 20 (by rfl) (by decide) (wanted_out hops 11 true (by rfl) 16 (by rfl) (by rfl)) (by rfl) ?_
  refine fl_skip 21 (by rfl) (by decide) (wanted_out hops 11 true (by rfl) 16 (by rfl) (by rfl)) (by rfl) ?_
  refine fl_skip 22 (by rfl) (by decide) (wanted_out hops 11 true (by rfl) 16 (by rfl) (by rfl)) (by rfl) ?_
  refine fl_skip 23 (by rfl) (by decide) (wanted_out hops 11 true (by rfl) 16 (by rfl) (by rfl)) (by rfl) ?_
  refine fl_skip 24 (by rfl) (by decide) (wanted_out hops 11 true (by rfl) 16 (by rfl) (by rfl)) (by rfl) ?_
  refine fl_skip 25 (by rfl) (by decide) (wanted_out hops 11 true (by rfl) 16 (by rfl) (by rfl)) (by rfl) ?_
  refine fl_skip 26 (by rfl) (by decide) (wanted_out hops 11 true (by rfl) 16 (by rfl) (by rfl)) (by rfl) ?_
  refine fl_skip 27 (by rfl) (by decide) (wanted_if hops 6 false (by rfl) 11 (by rfl) true (by rfl)) (by rfl) ?_
  refine fl_pick 28 (by rfl) (by decide) (wanted_none (by rfl)) (by rw [hK.out]; rfl) (by rfl) _ _ _ (by rfl) true (by rfl) (.bool true) (by rfl) ?_
  refine fl_mv 4 (by rfl) (by decide) (wanted_none (by rfl)) (by rw [hK.out]; rfl) (by rfl) _ (Or.inr (by rfl)) (.bool true) (by rfl) ?_
  refine fl_end (fun _ _ w1 (hg : Grow _ w1) _ hfacts => hT _ _ ?_)
  clear hops hA' hK hT
  simp only [putsL, Act.put, List.setIfInBounds_toArray, List.set_cons_zero, List.set_cons_succ, List.drop_succ_cons, List.drop_zero]

  go_wp2_with fail
  go_ret
  exact ⟨rfl, hg⟩

theorem range_of (F n : Int) (d : Nat) (h0 : 0 ≤ F) (hF : F ≤ 9223372036854775807) (hd : n = F + 1 + d) : -9223372036854775808 ≤ n := by omega
theorem shr_bit (M d : Nat) : ((M : Int) / (2 : Int) ^ d) = ((M >>> d : Nat) : Int) := by
  rw [Nat.shiftRight_eq_div_pow]; push_cast; rfl
theorem and_one (x : Nat) (hx : x < 18446744073709551616) : bits .and .u64 (x : Int) 1 = ((x % 2 : Nat) : Int) := by
  have h := u64_and_nat x 1 hx (by omega)
  rw [Nat.and_one_is_mod] at h
  exact h
theorem bit_mod (M d : Nat) : (((M >>> d % 2 : Nat) : Int) == 1) = M.testBit d := by
  rw [Nat.testBit_eq_decide_div_mod_eq, Nat.shiftRight_eq_div_pow, Bool.eq_iff_iff]
  simp only [beq_iff_eq, decide_eq_true_eq]
  omega

set_option maxHeartbeats 400000 in
theorem seen_far (w : World) (g : Nat) (F : Int) (M : Nat) (n : Int) (h : Blk w g 36 #[.int .i64 F, .int .u64 (M : Int)]) (hF : -9223372036854775808 ≤ F ∧ F ≤ 9223372036854775807) (hn : -9223372036854775808 ≤ n ∧ n ≤ 9223372036854775807) (hle : F < n) (hf : far F n = true) :
    Calls Try.prog 10 #[.pointer (some ⟨g, 0, none⟩), .int .i64 n] w fun e w' => e = .returned (.bool false) ∧ Grow w w' := by
  have k16 : ∀ (vs : Array Value) (w : World), (callFunc 16 vs).run Try.prog w = .ok (.enter 16 vs) w := fun vs w => by go_simp
  have hnl : ¬ n ≤ F := by omega
  have FF := Lib.hid hf
  clear hf
  go_enter Try.func10, Try.ntmps10
  go_wp2_with fail
  refine wp_region_flow 25 29 [(9, .inl (.bool true))] rfl rfl (by kernel_rfl) (by kernel_rfl) (by kernel_rfl) ?_ ?_
  · intro x hx φ he
    simp only [List.mem_cons, List.not_mem_nil, or_false] at hx
    rcases hx with rfl <;> cases he
  intro ops' A' K' T hops hA' hK hT
  refine fl_mv 5 (by rfl) (by decide) (wanted_none (by rfl)) (by rw [hK.out]; rfl) (by rfl) _ (Or.inl (by rfl)) (.int .i64 n) (by rfl) ?_
  refine fl_mv 6 (by rfl) (by decide) (wanted_none (by rfl)) (by rw [hK.out]; rfl) (by rfl) _ (Or.inl (by rfl)) (.pointer (some ⟨g, 0, none⟩)) (by rfl) ?_
  refine fl_op1 7 (by rfl) (by decide) (wanted_none (by rfl)) (by rw [hK.out]; rfl) (by rfl) (.tmp 6) (.pointer (some ⟨g, 0, none⟩)) (by rfl) (.pointer (some ⟨g, 0, none⟩)) (fun ρ h1 kk w1 (hg : Grow _ w1) hb hf => by go_simp) ?_
  refine fl_op1 8 (by rfl) (by decide) (wanted_none (by rfl)) (by rw [hK.out]; rfl) (by rfl) (.tmp 7) (.pointer (some ⟨g, 0, none⟩)) (by rfl) (.pointer (some ⟨g, 0, none⟩)) (fun ρ h1 kk w1 (hg : Grow _ w1) hb hf => by go_simp) ?_
  refine fl_op1 9 (by rfl) (by decide) (wanted_none (by rfl)) (by rw [hK.out]; rfl) (by rfl) (.tmp 8) (.pointer (some ⟨g, 0, none⟩)) (by rfl) (.int .i64 F) (fun ρ h1 kk w1 (hg : Grow _ w1) hb hf => by have c := (h.grow hg).cell 0; go_simp) ?_
  refine fl_op2 10 (by rfl) (by decide) (wanted_none (by rfl)) (by rw [hK.out]; rfl) (by rfl) (.tmp 5) (.tmp 9) (.int .i64 n) (.int .i64 F) (by rfl) (by rfl) (.bool false) (fun ρ h1 h2 kk w1 (hg : Grow _ w1) hb hf => by go_simp) ?_
  refine fl_mv 11 (by rfl) (by decide) (wanted_none (by rfl)) (by rw [hK.out]; rfl) (by rfl) _ (Or.inl (by rfl)) (.bool false) (by rfl) ?_
  refine fl_mv 12 (by rfl) (by decide) (wanted_if hops 6 false (by rfl) 11 (by rfl) false (by rfl)) (by rw [hK.out]; rfl) (by rfl) _ (Or.inl (by rfl)) (.pointer (some ⟨g, 0, none⟩)) (by rfl) ?_
  refine fl_mv 13 (by rfl) (by decide) (wanted_if hops 6 false (by rfl) 11 (by rfl) false (by rfl)) (by rw [hK.out]; rfl) (by rfl) _ (Or.inl (by rfl)) (.int .i64 n) (by rfl) ?_
  refine fl_call 14 (by rfl) (by decide) (wanted_if hops 6 false (by rfl) 11 (by rfl) false (by rfl)) (.bool true) (by rw [hK.out]; rfl) 16 _ _ (by rfl) [.pointer (some ⟨g, 0, none⟩), .int .i64 n] (by rfl) k16 (fun kk w1 (hg : Grow _ w1) hb hf => calls_behind (by rfl) (by exact grew_same (far_is w1 g F M n true (h.grow hg) hF hn FF.out))) ?_
  refine fl_op1 15 (by rfl) (by decide) (wanted_if hops 6 false (by rfl) 11 (by rfl) false (by rfl)) (by rw [hK.out]; rfl) (by rfl) (.tmp 14) (.bool true) (by rfl) (.bool false) (fun ρ h1 kk w1 (hg : Grow _ w1) hb hf => by go_simp) ?_
  refine fl_mv 16 (by rfl) (by decide) (wanted_if hops 6 false (by rfl) 11 (by rfl) false (by rfl)) (by rw [hK.out]; rfl) (by rfl) _ (Or.inl (by rfl)) (.bool false) (by rfl) ?_
  refine fl_skip 17 (by rfl) (by decide) (wanted_if hops 11 true (by rfl) 16 (by rfl) false (by rfl)) (by rfl) ?_
  refine fl_skip 18 (by rfl) (by decide) (wanted_if hops 11 true (by rfl) 16 (by rfl) false (by rfl)) (by rfl) ?_
  refine fl_skip 19 (by rfl) (by decide) (wanted_if hops 11 true (by rfl) 16 (by rfl) false (by rfl)) (by rfl) ?_
  refine fl_skip 20 (by rfl) (by decide) (wanted_if hops 11 true (by rfl) 16 (by rfl) false (by rfl)) (by rfl) ?_
  refine fl_skip 21 (by rfl) (by decide) (wanted_if hops 11 true (by rfl) 16 (by rfl) false (by rfl)) (by rfl) ?_
  refine fl_skip 22 (by rfl) (by decide) (wanted_if hops 11 true (by rfl) 16 (by rfl) false (by rfl)) (by rfl) ?_
  refine fl_skip 23 (by rfl) (by decide) (wanted_if hops 11 true (by rfl) 16 (by rfl) false (by rfl)) (by rfl) ?_
  refine fl_skip 24 (by rfl) (by decide) (wanted_if hops 11 true (by rfl) 16 (by rfl) false (by rfl)) (by rfl) ?_
  refine fl_skip 25 (by rfl) (by decide) (wanted_if hops 11 true (by rfl) 16 (by rfl) false (by rfl)) (by rfl) ?_
  refine fl_skip 26 (by rfl) (by decide) (wanted_if hops 11 true (by rfl) 16 (by rfl) false (by rfl)) (by rfl) ?_
  refine fl_pick 27 (by rfl) (by decide) (wanted_if hops 6 false (by rfl) 11 (by rfl) false (by rfl)) (by rw [hK.out]; rfl) (by rfl) _ _ _ (by rfl) false (by rfl) (.bool false) (by rfl) ?_
  refine fl_pick 28 (by rfl) (by decide) (wanted_none (by rfl)) (by rw [hK.out]; rfl) (by rfl) _ _ _ (by rfl) false (by rfl) (.bool false) (by rfl) ?_
  refine fl_mv 4 (by rfl) (by decide) (wanted_none (by rfl)) (by rw [hK.out]; rfl) (by rfl) _ (Or.inr (by rfl)) (.bool false) (by rfl) ?_
  refine fl_end (fun _ _ w1 (hg : Grow _ w1) _ hfacts => hT _ _ ?_)
  clear hops hA' hK hT
  simp only [putsL, Act.put, List.setIfInBounds_toArray, List.set_cons_zero, List.set_cons_succ, List.drop_succ_cons, List.drop_zero]

  go_wp2_with fail
  go_ret
  exact ⟨rfl, hg⟩
set_option maxHeartbeats 400000 in
theorem seen_in (w : World) (g : Nat) (F : Int) (M : Nat) (n : Int) (d : Nat) (h : Blk w g 36 #[.int .i64 F, .int .u64 (M : Int)]) (hM : M < 18446744073709551616) (hF : -9223372036854775808 ≤ F ∧ F ≤ 9223372036854775807) (hn : -9223372036854775808 ≤ n ∧ n ≤ 9223372036854775807) (hd : n - F - 1 = (d : Int)) (hlt : d < 64) :
    Calls Try.prog 10 #[.pointer (some ⟨g, 0, none⟩), .int .i64 n] w fun e w' => e = .returned (.bool (M.testBit d)) ∧ Grow w w' := by
  have k16 : ∀ (vs : Array Value) (w : World), (callFunc 16 vs).run Try.prog w = .ok (.enter 16 vs) w := fun vs w => by go_simp
  have k17 : ∀ (vs : Array Value) (w : World), (callFunc 17 vs).run Try.prog w = .ok (.enter 17 vs) w := fun vs w => by go_simp
  have hnl : ¬ n ≤ F := by omega
  have hnf : far F n = false := by
    unfold far
    rw [Bool.and_eq_false_iff]
    exact .inr (decide_eq_false (by omega))
  have FF := Lib.hid hnf
  have HD := Lib.hid hd
  clear hnf hd
  obtain ⟨x, HX⟩ : ∃ x : Nat, Hid (x = M >>> d) := ⟨_, rfl⟩
  have hx : x < 18446744073709551616 := by rw [HX.out]; exact Nat.lt_of_le_of_lt (Nat.shiftRight_le M d) hM
  obtain ⟨y, HY⟩ : ∃ y : Nat, Hid (y = x % 2) := ⟨_, rfl⟩
  go_enter Try.func10, Try.ntmps10
  go_wp2_with fail
  refine wp_region_flow 25 29 [(9, .inl (.bool false)), (18, .inl (.int .u64 (d : Int)))] rfl rfl (by kernel_rfl) (by kernel_rfl) (by kernel_rfl) ?_ ?_
  · intro x hx φ he
    simp only [List.mem_cons, List.not_mem_nil, or_false] at hx
    rcases hx with rfl | rfl <;> cases he
  intro ops' A' K' T hops hA' hK hT
  refine fl_mv 5 (by rfl) (by decide) (wanted_none (by rfl)) (by rw [hK.out]; rfl) (by rfl) _ (Or.inl (by rfl)) (.int .i64 n) (by rfl) ?_
  refine fl_mv 6 (by rfl) (by decide) (wanted_none (by rfl)) (by rw [hK.out]; rfl) (by rfl) _ (Or.inl (by rfl)) (.pointer (some ⟨g, 0, none⟩)) (by rfl) ?_
  refine fl_op1 7 (by rfl) (by decide) (wanted_none (by rfl)) (by rw [hK.out]; rfl) (by rfl) (.tmp 6) (.pointer (some ⟨g, 0, none⟩)) (by rfl) (.pointer (some ⟨g, 0, none⟩)) (fun ρ h1 kk w1 (hg : Grow _ w1) hb hf => by go_simp) ?_
  refine fl_op1 8 (by rfl) (by decide) (wanted_none (by rfl)) (by rw [hK.out]; rfl) (by rfl) (.tmp 7) (.pointer (some ⟨g, 0, none⟩)) (by rfl) (.pointer (some ⟨g, 0, none⟩)) (fun ρ h1 kk w1 (hg : Grow _ w1) hb hf => by go_simp) ?_
  refine fl_op1 9 (by rfl) (by decide) (wanted_none (by rfl)) (by rw [hK.out]; rfl) (by rfl) (.tmp 8) (.pointer (some ⟨g, 0, none⟩)) (by rfl) (.int .i64 F) (fun ρ h1 kk w1 (hg : Grow _ w1) hb hf => by have c := (h.grow hg).cell 0; go_simp) ?_
  refine fl_op2 10 (by rfl) (by decide) (wanted_none (by rfl)) (by rw [hK.out]; rfl) (by rfl) (.tmp 5) (.tmp 9) (.int .i64 n) (.int .i64 F) (by rfl) (by rfl) (.bool false) (fun ρ h1 h2 kk w1 (hg : Grow _ w1) hb hf => by go_simp) ?_
  refine fl_mv 11 (by rfl) (by decide) (wanted_none (by rfl)) (by rw [hK.out]; rfl) (by rfl) _ (Or.inl (by rfl)) (.bool false) (by rfl) ?_
  refine fl_mv 12 (by rfl) (by decide) (wanted_if hops 6 false (by rfl) 11 (by rfl) false (by rfl)) (by rw [hK.out]; rfl) (by rfl) _ (Or.inl (by rfl)) (.pointer (some ⟨g, 0, none⟩)) (by rfl) ?_
  refine fl_mv 13 (by rfl) (by decide) (wanted_if hops 6 false (by rfl) 11 (by rfl) false (by rfl)) (by rw [hK.out]; rfl) (by rfl) _ (Or.inl (by rfl)) (.int .i64 n) (by rfl) ?_
  refine fl_call 14 (by rfl) (by decide) (wanted_if hops 6 false (by rfl) 11 (by rfl) false (by rfl)) (.bool false) (by rw [hK.out]; rfl) 16 _ _ (by rfl) [.pointer (some ⟨g, 0, none⟩), .int .i64 n] (by rfl) k16 (fun kk w1 (hg : Grow _ w1) hb hf => calls_behind (by rfl) (by exact grew_same (far_is w1 g F M n false (h.grow hg) hF hn FF.out))) ?_
  refine fl_op1 15 (by rfl) (by decide) (wanted_if hops 6 false (by rfl) 11 (by rfl) false (by rfl)) (by rw [hK.out]; rfl) (by rfl) (.tmp 14) (.bool false) (by rfl) (.bool true) (fun ρ h1 kk w1 (hg : Grow _ w1) hb hf => by go_simp) ?_
  refine fl_mv 16 (by rfl) (by decide) (wanted_if hops 6 false (by rfl) 11 (by rfl) false (by rfl)) (by rw [hK.out]; rfl) (by rfl) _ (Or.inl (by rfl)) (.bool true) (by rfl) ?_
  refine fl_mv 17 (by rfl) (by decide) (wanted_if hops 11 true (by rfl) 16 (by rfl) true (by rfl)) (by rw [hK.out]; rfl) (by rfl) _ (Or.inl (by rfl)) (.pointer (some ⟨g, 0, none⟩)) (by rfl) ?_
  refine fl_op1 18 (by rfl) (by decide) (wanted_if hops 11 true (by rfl) 16 (by rfl) true (by rfl)) (by rw [hK.out]; rfl) (by rfl) (.tmp 17) (.pointer (some ⟨g, 0, none⟩)) (by rfl) (.pointer (some ⟨g, 0, none⟩)) (fun ρ h1 kk w1 (hg : Grow _ w1) hb hf => by go_simp) ?_
  refine fl_op1 19 (by rfl) (by decide) (wanted_if hops 11 true (by rfl) 16 (by rfl) true (by rfl)) (by rw [hK.out]; rfl) (by rfl) (.tmp 18) (.pointer (some ⟨g, 0, none⟩)) (by rfl) (.pointer (some ⟨g, 1, none⟩)) (fun ρ h1 kk w1 (hg : Grow _ w1) hb hf => by go_simp) ?_
  refine fl_op1 20 (by rfl) (by decide) (wanted_if hops 11 true (by rfl) 16 (by rfl) true (by rfl)) (by rw [hK.out]; rfl) (by rfl) (.tmp 19) (.pointer (some ⟨g, 1, none⟩)) (by rfl) (.int .u64 (M : Int)) (fun ρ h1 kk w1 (hg : Grow _ w1) hb hf => by have c := (h.grow hg).cell 1; go_simp) ?_
  refine fl_mv 21 (by rfl) (by decide) (wanted_if hops 11 true (by rfl) 16 (by rfl) true (by rfl)) (by rw [hK.out]; rfl) (by rfl) _ (Or.inl (by rfl)) (.pointer (some ⟨g, 0, none⟩)) (by rfl) ?_
  refine fl_mv 22 (by rfl) (by decide) (wanted_if hops 11 true (by rfl) 16 (by rfl) true (by rfl)) (by rw [hK.out]; rfl) (by rfl) _ (Or.inl (by rfl)) (.int .i64 n) (by rfl) ?_
  refine fl_call 23 (by rfl) (by decide) (wanted_if hops 11 true (by rfl) 16 (by rfl) true (by rfl)) (.int .u64 (d : Int)) (by rw [hK.out]; rfl) 17 _ _ (by rfl) [.pointer (some ⟨g, 0, none⟩), .int .i64 n] (by rfl) k17 (fun kk w1 (hg : Grow _ w1) hb hf => calls_behind (by rfl) (by exact grew_same (at_in w1 g F M n d (h.grow hg) HD.out hlt))) ?_
  refine fl_op2 24 (by rfl) (by decide) (wanted_if hops 11 true (by rfl) 16 (by rfl) true (by rfl)) (by rw [hK.out]; rfl) (by rfl) (.tmp 20) (.tmp 23) (.int .u64 (M : Int)) (.int .u64 (d : Int)) (by rfl) (by rfl) (.int .u64 (x : Int)) (fun ρ h1 h2 kk w1 (hg : Grow _ w1) hb hf => by go_simp; rw [HX.out]; exact shr_bit M d) ?_
  refine fl_op2 25 (by rfl) (by decide) (wanted_if hops 11 true (by rfl) 16 (by rfl) true (by rfl)) (by rw [hK.out]; rfl) (by rfl) (.tmp 24) (.const (.int .u64 1)) (.int .u64 (x : Int)) (.int .u64 1) (by rfl) (by rfl) (.int .u64 (y : Int)) (fun ρ h1 h2 kk w1 (hg : Grow _ w1) hb hf => by go_simp; rw [HY.out]; exact and_one _ hx) ?_
  refine fl_op2 26 (by rfl) (by decide) (wanted_if hops 11 true (by rfl) 16 (by rfl) true (by rfl)) (by rw [hK.out]; rfl) (by rfl) (.tmp 25) (.const (.int .u64 1)) (.int .u64 (y : Int)) (.int .u64 1) (by rfl) (by rfl) (.bool (M.testBit d)) (fun ρ h1 h2 kk w1 (hg : Grow _ w1) hb hf => by go_simp; rw [HY.out, HX.out]; exact bit_mod M d) ?_
  refine fl_pick 27 (by rfl) (by decide) (wanted_if hops 6 false (by rfl) 11 (by rfl) false (by rfl)) (by rw [hK.out]; rfl) (by rfl) _ _ _ (by rfl) true (by rfl) (.bool (M.testBit d)) (by rfl) ?_
  refine fl_pick 28 (by rfl) (by decide) (wanted_none (by rfl)) (by rw [hK.out]; rfl) (by rfl) _ _ _ (by rfl) false (by rfl) (.bool (M.testBit d)) (by rfl) ?_
  refine fl_mv 4 (by rfl) (by decide) (wanted_none (by rfl)) (by rw [hK.out]; rfl) (by rfl) _ (Or.inr (by rfl)) (.bool (M.testBit d)) (by rfl) ?_
  refine fl_end (fun _ _ w1 (hg : Grow _ w1) _ hfacts => hT _ _ ?_)
  clear hops hA' hK hT
  simp only [putsL, Act.put, List.setIfInBounds_toArray, List.set_cons_zero, List.set_cons_succ, List.drop_succ_cons, List.drop_zero]

  go_wp2_with fail
  go_ret
  exact ⟨rfl, hg⟩
