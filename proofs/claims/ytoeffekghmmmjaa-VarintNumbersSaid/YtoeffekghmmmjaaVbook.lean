/- What the laws share: both write the same, read the same; some runs. -/
import Derived.Test.YtoeffekghmmmjaaVzig
namespace Go.Proofs.Ytoeffekghmmmjaa
open Go.RowKit Go.Hop
theorem Put_is (w : World) (A : Option Addr) (n c : Nat) (l : List UInt8) (hb : Bytes w w.heap.size A n l) (hn : n ≤ 1099511627776) (m : Nat) (hm : m < 18446744073709551616) :
    Calls Try.prog 8 #[.slice A n c, .int .u64 (m : Int)] w fun e w' => ∃ v, e = .returned v ∧ Grow w w' ∧ IsBytes (l ++ enc m) v w' :=
  (Put_any w A n c l hb hn m hm).mono fun _ _ ⟨v, he, hO, hg⟩ => ⟨v, he, hg, Own.isBytes hO⟩
theorem rPut_are (w : World) (A : Option Addr) (n c : Nat) (l : List UInt8) (hb : Bytes w w.heap.size A n l) (hn : n ≤ 1099511627776) (m : Nat) (hm : m < 18446744073709551616) :
    Calls Try.prog 13 #[.slice A n c, .int .u64 (m : Int)] w fun e w' => ∃ v, e = .returned v ∧ Grow w w' ∧ IsBytes (l ++ enc m) v w' :=
  (rPut_any w A n c l hb hn m hm).mono fun _ _ ⟨v, he, hO, hg⟩ => ⟨v, he, hg, Own.isBytes hO⟩
theorem Text_is (w : World) (A : Option Addr) (n c : Nat) (l : List UInt8) (hb : Bytes w w.heap.size A n l) (hn : n ≤ 1099511627776) (s : ByteArray) (hs : s.size ≤ 1099511627776) :
    Calls Try.prog 18 #[.slice A n c, .string s] w fun e w' => ∃ v, e = .returned v ∧ Grow w w' ∧ IsBytes (l ++ enc s.size ++ s.data.toList) v w' :=
  (Text_any w A n c l hb hn s hs).mono fun _ _ ⟨v, he, hO, hg⟩ => ⟨v, he, hg, Own.isBytes hO⟩
theorem rText_is (w : World) (A : Option Addr) (n c : Nat) (l : List UInt8) (hb : Bytes w w.heap.size A n l) (hn : n ≤ 1099511627776) (s : ByteArray) (hs : s.size ≤ 1099511627776) :
    Calls Try.prog 16 #[.slice A n c, .string s] w fun e w' => ∃ v, e = .returned v ∧ Grow w w' ∧ IsBytes (l ++ enc s.size ++ s.data.toList) v w' :=
  (rText_any w A n c l hb hn s hs).mono fun _ _ ⟨v, he, hO, hg⟩ => ⟨v, he, hg, Own.isBytes hO⟩
set_option maxRecDepth 100000 in
set_option maxHeartbeats 4000000 in
theorem puts_any (w : World) (A : Option Addr) (n c : Nat) (l : List UInt8) (hb : Bytes w w.heap.size A n l) (hn : n ≤ 1099511627776) (m : Nat) (hm : m < 18446744073709551616) (s : ByteArray) (hs : s.size ≤ 1099511627776) (z : Int) (hz : -9223372036854775808 ≤ z ∧ z ≤ 9223372036854775807) :
    Calls Try.prog 14 #[.slice A n c, .int .u64 (m : Int), .string s, .int .i64 z] w fun e w' => e = .returned (.bool true) ∧ Grow w w' := by
  obtain ⟨X, HX⟩ : ∃ X, Hid (X = l ++ enc m) := ⟨_, rfl⟩
  obtain ⟨Y, HY⟩ : ∃ Y, Hid (Y = l ++ enc s.size ++ s.data.toList) := ⟨_, rfl⟩
  obtain ⟨zz, HZ⟩ : ∃ zz, Hid (zz = zig z) := ⟨_, rfl⟩
  obtain ⟨za, HA⟩ : ∃ za, Hid (za = zag m) := ⟨_, rfl⟩
  have hbw : ∀ w1, Grow w w1 → Bytes w1 w1.heap.size A n l := fun w1 hg => Reads.more (Reads.below hb hg) hg.size
  have a1 := fun w1 (hg : Grow w w1) => HX.out ▸ Put_is w1 A n c l (hbw w1 hg) hn m hm
  have a2 := fun w1 (hg : Grow w w1) => HX.out ▸ rPut_are w1 A n c l (hbw w1 hg) hn m hm
  have a3 := fun w1 (hg : Grow w w1) => HY.out ▸ Text_is w1 A n c l (hbw w1 hg) hn s hs
  have a4 := fun w1 (hg : Grow w w1) => HY.out ▸ rText_is w1 A n c l (hbw w1 hg) hn s hs
  have a5 := fun w1 => HZ.out ▸ Zig_any w1 z hz
  have a6 := fun w1 => HZ.out ▸ rZig_any w1 z hz
  have a7 := fun w1 => HA.out ▸ Zag_any w1 m hm
  have a8 := fun w1 => HA.out ▸ rZag_any w1 m hm
  have k8 : ∀ (vs : Array Value) (w : World), (callFunc 8 vs).run Try.prog w = .ok (.enter 8 vs) w := fun vs w => by go_simp
  have k13 : ∀ (vs : Array Value) (w : World), (callFunc 13 vs).run Try.prog w = .ok (.enter 13 vs) w := fun vs w => by go_simp
  have k18 : ∀ (vs : Array Value) (w : World), (callFunc 18 vs).run Try.prog w = .ok (.enter 18 vs) w := fun vs w => by go_simp
  have k16 : ∀ (vs : Array Value) (w : World), (callFunc 16 vs).run Try.prog w = .ok (.enter 16 vs) w := fun vs w => by go_simp
  have k11 : ∀ (vs : Array Value) (w : World), (callFunc 11 vs).run Try.prog w = .ok (.enter 11 vs) w := fun vs w => by go_simp
  have k22 : ∀ (vs : Array Value) (w : World), (callFunc 22 vs).run Try.prog w = .ok (.enter 22 vs) w := fun vs w => by go_simp
  have k10 : ∀ (vs : Array Value) (w : World), (callFunc 10 vs).run Try.prog w = .ok (.enter 10 vs) w := fun vs w => by go_simp
  have k23 : ∀ (vs : Array Value) (w : World), (callFunc 23 vs).run Try.prog w = .ok (.enter 23 vs) w := fun vs w => by go_simp
  go_enter Try.func14, Try.ntmps14
  go_wp2_with fail
  refine wp_region_flow 35 43 [(2, .inr (fun _ => IsBytes X)), (6, .inr (fun _ => IsBytes X)), (12, .inr (fun _ => IsBytes Y)), (16, .inr (fun _ => IsBytes Y)), (22, .inl (.int .u64 (zz : Int))), (24, .inl (.int .u64 (zz : Int))), (29, .inl (.int .i64 za)), (31, .inl (.int .i64 za))] rfl rfl (by kernel_rfl) (by kernel_rfl) (by kernel_rfl) ?_ ?_
  · intro x hx φ he
    simp only [List.mem_cons, List.not_mem_nil, or_false] at hx
    rcases hx with rfl | rfl | rfl | rfl | rfl | rfl | rfl | rfl <;> cases he
    all_goals first | exact lasts_quiet (lasting_bytes _) | fail
  intro ops' A' K' T hops hA' hK hT
  refine fl_mv 9 (by rfl) (by decide) (wanted_none (by rfl)) (by rw [hK.out]; rfl) (by rfl) _ (Or.inl (by rfl)) (.slice A n c) (by rfl) ?_
  refine fl_mv 10 (by rfl) (by decide) (wanted_none (by rfl)) (by rw [hK.out]; rfl) (by rfl) _ (Or.inl (by rfl)) (.int .u64 (m : Int)) (by rfl) ?_
  refine fl_callAny 11 (by rfl) (by decide) (wanted_none (by rfl)) (fun _ => IsBytes X) (by rw [hK.out]; rfl) 8 _ _ (by rfl) [.slice A n c, .int .u64 (m : Int)] (by rfl) k8 (fun kk w1 (hg : Grow _ w1) hb hf => calls_behindAny (φ := fun _ => IsBytes X) (by rfl) (by exact a1 w1 hg)) (fun v11 => ?_)
  refine fl_op1 12 (by rfl) (by decide) (wanted_none (by rfl)) (by rw [hK.out]; rfl) (by rfl) (.tmp 11) (v11) (by rfl) (.string ⟨X.toArray⟩) (fun ρ h1 kk w1 (hg : Grow _ w1) hb hf => by have cv := conv_is w1 (facts_take hf (by rw [hA'.out]; kernel_rfl)); go_simp) ?_
  refine fl_mv 13 (by rfl) (by decide) (wanted_none (by rfl)) (by rw [hK.out]; rfl) (by rfl) _ (Or.inl (by rfl)) (.slice A n c) (by rfl) ?_
  refine fl_mv 14 (by rfl) (by decide) (wanted_none (by rfl)) (by rw [hK.out]; rfl) (by rfl) _ (Or.inl (by rfl)) (.int .u64 (m : Int)) (by rfl) ?_
  refine fl_callAny 15 (by rfl) (by decide) (wanted_none (by rfl)) (fun _ => IsBytes X) (by rw [hK.out]; rfl) 13 _ _ (by rfl) [.slice A n c, .int .u64 (m : Int)] (by rfl) k13 (fun kk w1 (hg : Grow _ w1) hb hf => calls_behindAny (φ := fun _ => IsBytes X) (by rfl) (by exact a2 w1 hg)) (fun v15 => ?_)
  refine fl_op1 16 (by rfl) (by decide) (wanted_none (by rfl)) (by rw [hK.out]; rfl) (by rfl) (.tmp 15) (v15) (by rfl) (.string ⟨X.toArray⟩) (fun ρ h1 kk w1 (hg : Grow _ w1) hb hf => by have cv := conv_is w1 (facts_take hf (by rw [hA'.out]; kernel_rfl)); go_simp) ?_
  refine fl_op2 17 (by rfl) (by decide) (wanted_none (by rfl)) (by rw [hK.out]; rfl) (by rfl) (.tmp 12) (.tmp 16) (.string ⟨X.toArray⟩) (.string ⟨X.toArray⟩) (by rfl) (by rfl) (.bool true) (fun ρ h1 h2 kk w1 (hg : Grow _ w1) hb hf => by go_simp) ?_
  refine fl_mv 18 (by rfl) (by decide) (wanted_none (by rfl)) (by rw [hK.out]; rfl) (by rfl) _ (Or.inl (by rfl)) (.bool true) (by rfl) ?_
  refine fl_mv 19 (by rfl) (by decide) (wanted_if hops 9 true (by rfl) 18 (by rfl) true (by rfl)) (by rw [hK.out]; rfl) (by rfl) _ (Or.inl (by rfl)) (.slice A n c) (by rfl) ?_
  refine fl_mv 20 (by rfl) (by decide) (wanted_if hops 9 true (by rfl) 18 (by rfl) true (by rfl)) (by rw [hK.out]; rfl) (by rfl) _ (Or.inl (by rfl)) (.string s) (by rfl) ?_
  refine fl_callAny 21 (by rfl) (by decide) (wanted_if hops 9 true (by rfl) 18 (by rfl) true (by rfl)) (fun _ => IsBytes Y) (by rw [hK.out]; rfl) 18 _ _ (by rfl) [.slice A n c, .string s] (by rfl) k18 (fun kk w1 (hg : Grow _ w1) hb hf => calls_behindAny (φ := fun _ => IsBytes Y) (by rfl) (by exact a3 w1 hg)) (fun v21 => ?_)
  refine fl_op1 22 (by rfl) (by decide) (wanted_if hops 9 true (by rfl) 18 (by rfl) true (by rfl)) (by rw [hK.out]; rfl) (by rfl) (.tmp 21) (v21) (by rfl) (.string ⟨Y.toArray⟩) (fun ρ h1 kk w1 (hg : Grow _ w1) hb hf => by have cv := conv_is w1 (facts_take hf (by rw [hA'.out]; kernel_rfl)); go_simp) ?_
  refine fl_mv 23 (by rfl) (by decide) (wanted_if hops 9 true (by rfl) 18 (by rfl) true (by rfl)) (by rw [hK.out]; rfl) (by rfl) _ (Or.inl (by rfl)) (.slice A n c) (by rfl) ?_
  refine fl_mv 24 (by rfl) (by decide) (wanted_if hops 9 true (by rfl) 18 (by rfl) true (by rfl)) (by rw [hK.out]; rfl) (by rfl) _ (Or.inl (by rfl)) (.string s) (by rfl) ?_
  refine fl_callAny 25 (by rfl) (by decide) (wanted_if hops 9 true (by rfl) 18 (by rfl) true (by rfl)) (fun _ => IsBytes Y) (by rw [hK.out]; rfl) 16 _ _ (by rfl) [.slice A n c, .string s] (by rfl) k16 (fun kk w1 (hg : Grow _ w1) hb hf => calls_behindAny (φ := fun _ => IsBytes Y) (by rfl) (by exact a4 w1 hg)) (fun v25 => ?_)
  refine fl_op1 26 (by rfl) (by decide) (wanted_if hops 9 true (by rfl) 18 (by rfl) true (by rfl)) (by rw [hK.out]; rfl) (by rfl) (.tmp 25) (v25) (by rfl) (.string ⟨Y.toArray⟩) (fun ρ h1 kk w1 (hg : Grow _ w1) hb hf => by have cv := conv_is w1 (facts_take hf (by rw [hA'.out]; kernel_rfl)); go_simp) ?_
  refine fl_op2 27 (by rfl) (by decide) (wanted_if hops 9 true (by rfl) 18 (by rfl) true (by rfl)) (by rw [hK.out]; rfl) (by rfl) (.tmp 22) (.tmp 26) (.string ⟨Y.toArray⟩) (.string ⟨Y.toArray⟩) (by rfl) (by rfl) (.bool true) (fun ρ h1 h2 kk w1 (hg : Grow _ w1) hb hf => by go_simp) ?_
  refine fl_pick 28 (by rfl) (by decide) (wanted_none (by rfl)) (by rw [hK.out]; rfl) (by rfl) _ _ _ (by rfl) true (by rfl) (.bool true) (by rfl) ?_
  refine fl_mv 29 (by rfl) (by decide) (wanted_none (by rfl)) (by rw [hK.out]; rfl) (by rfl) _ (Or.inl (by rfl)) (.bool true) (by rfl) ?_
  refine fl_mv 30 (by rfl) (by decide) (wanted_if hops 20 true (by rfl) 29 (by rfl) true (by rfl)) (by rw [hK.out]; rfl) (by rfl) _ (Or.inl (by rfl)) (.int .i64 z) (by rfl) ?_
  refine fl_call 31 (by rfl) (by decide) (wanted_if hops 20 true (by rfl) 29 (by rfl) true (by rfl)) (.int .u64 (zz : Int)) (by rw [hK.out]; rfl) 11 _ _ (by rfl) [.int .i64 z] (by rfl) k11 (fun kk w1 (hg : Grow _ w1) hb hf => calls_behind (by rfl) (by exact grew_same (a5 w1))) ?_
  refine fl_mv 32 (by rfl) (by decide) (wanted_if hops 20 true (by rfl) 29 (by rfl) true (by rfl)) (by rw [hK.out]; rfl) (by rfl) _ (Or.inl (by rfl)) (.int .i64 z) (by rfl) ?_
  refine fl_call 33 (by rfl) (by decide) (wanted_if hops 20 true (by rfl) 29 (by rfl) true (by rfl)) (.int .u64 (zz : Int)) (by rw [hK.out]; rfl) 22 _ _ (by rfl) [.int .i64 z] (by rfl) k22 (fun kk w1 (hg : Grow _ w1) hb hf => calls_behind (by rfl) (by exact grew_same (a6 w1))) ?_
  refine fl_op2 34 (by rfl) (by decide) (wanted_if hops 20 true (by rfl) 29 (by rfl) true (by rfl)) (by rw [hK.out]; rfl) (by rfl) (.tmp 31) (.tmp 33) (.int .u64 (zz : Int)) (.int .u64 (zz : Int)) (by rfl) (by rfl) (.bool true) (fun ρ h1 h2 kk w1 (hg : Grow _ w1) hb hf => by go_simp) ?_
  refine fl_pick 35 (by rfl) (by decide) (wanted_none (by rfl)) (by rw [hK.out]; rfl) (by rfl) _ _ _ (by rfl) true (by rfl) (.bool true) (by rfl) ?_
  refine fl_mv 36 (by rfl) (by decide) (wanted_none (by rfl)) (by rw [hK.out]; rfl) (by rfl) _ (Or.inl (by rfl)) (.bool true) (by rfl) ?_
  refine fl_mv 37 (by rfl) (by decide) (wanted_if hops 27 true (by rfl) 36 (by rfl) true (by rfl)) (by rw [hK.out]; rfl) (by rfl) _ (Or.inl (by rfl)) (.int .u64 (m : Int)) (by rfl) ?_
  refine fl_call 38 (by rfl) (by decide) (wanted_if hops 27 true (by rfl) 36 (by rfl) true (by rfl)) (.int .i64 za) (by rw [hK.out]; rfl) 10 _ _ (by rfl) [.int .u64 (m : Int)] (by rfl) k10 (fun kk w1 (hg : Grow _ w1) hb hf => calls_behind (by rfl) (by exact grew_same (a7 w1))) ?_
  refine fl_mv 39 (by rfl) (by decide) (wanted_if hops 27 true (by rfl) 36 (by rfl) true (by rfl)) (by rw [hK.out]; rfl) (by rfl) _ (Or.inl (by rfl)) (.int .u64 (m : Int)) (by rfl) ?_
  refine fl_call 40 (by rfl) (by decide) (wanted_if hops 27 true (by rfl) 36 (by rfl) true (by rfl)) (.int .i64 za) (by rw [hK.out]; rfl) 23 _ _ (by rfl) [.int .u64 (m : Int)] (by rfl) k23 (fun kk w1 (hg : Grow _ w1) hb hf => calls_behind (by rfl) (by exact grew_same (a8 w1))) ?_
  refine fl_op2 41 (by rfl) (by decide) (wanted_if hops 27 true (by rfl) 36 (by rfl) true (by rfl)) (by rw [hK.out]; rfl) (by rfl) (.tmp 38) (.tmp 40) (.int .i64 za) (.int .i64 za) (by rfl) (by rfl) (.bool true) (fun ρ h1 h2 kk w1 (hg : Grow _ w1) hb hf => by go_simp) ?_
  refine fl_pick 42 (by rfl) (by decide) (wanted_none (by rfl)) (by rw [hK.out]; rfl) (by rfl) _ _ _ (by rfl) true (by rfl) (.bool true) (by rfl) ?_
  refine fl_mv 8 (by rfl) (by decide) (wanted_none (by rfl)) (by rw [hK.out]; rfl) (by rfl) _ (Or.inr (by rfl)) (.bool true) (by rfl) ?_
  refine fl_end (fun _ _ w1 (hg : Grow _ w1) _ hfacts => hT _ _ ?_)
  clear hops hA' hK hT
  simp only [putsL, Act.put, List.setIfInBounds_toArray, List.set_cons_zero, List.set_cons_succ, List.drop_succ_cons, List.drop_zero]

  go_wp2_with fail
  go_ret
  exact ⟨rfl, hg⟩
theorem reads_any (w : World) (A : Option Addr) (n c : Nat) (l : List UInt8) (hb : Bytes w w.heap.size A n l) (hnc : n ≤ c) (hcm : c ≤ maxLen) :
    Calls Try.prog 15 #[.slice A n c] w fun e w' => e = .returned (.bool true) ∧ Grow w w' := by
  go_enter Try.func15, Try.ntmps15
  go_wp2_with fail
  go_at_call 9
  refine (Get_any w _ A n c l hb (Nat.le_trans hnc hcm)).mono ?_
  rintro e w1 ⟨v, k, hG, rfl, rfl⟩
  go_wp2_with fail
  go_at_call 24
  refine (rGet_any w _ A n c l hb (Nat.le_refl _) hnc hcm).mono ?_
  rintro e w1 ⟨v', k', hG', rfl, hg1⟩
  obtain ⟨rfl, rfl⟩ := hG.one hG'
  clear hG hG'
  go_wp2_with fail
  go_at_call 19
  refine (Cut_any w1 _ A n c l (hb.below hg1) hg1.size hnc hcm).mono ?_
  rintro e w2 ⟨t, j, hC, rfl, hg2⟩
  go_wp2_with fail
  go_at_call 25
  refine (rCut_any w2 _ A n c l ((hb.below hg1).below (Below.mono hg2 hg1.size)) (Nat.le_trans hg1.size hg2.size) hnc hcm).mono ?_
  rintro e w3 ⟨t', j', hC', rfl, hg3⟩
  obtain ⟨rfl, rfl⟩ := hC.one hC'
  clear hC hC'
  go_wp2_with fail
  go_ret
  exact ⟨rfl, (hg1.trans hg2).trans hg3⟩
theorem enc300 : enc 300 = [172, 2] := by rw [enc_more (by omega), enc_small (by omega)]; decide
theorem enc2 : enc 2 = [2] := by rw [enc_small (by omega)]; decide
set_option maxRecDepth 100000 in
theorem known_any (w : World) : Calls Try.prog 12 #[] w fun e w' => e = .returned (.bool true) ∧ Grow w w' := by
  go_enter Try.func12, Try.ntmps12
  go_wp2_with fail
  go_at_call 9
  refine (Get_any _ _ _ 2 2 [128, 0] (reads_laid w _ 5 _ rfl _ rfl) (by decide)).mono ?_
  rintro e w1 ⟨v, k, hG, rfl, rfl⟩
  obtain ⟨rfl, rfl⟩ := hG.one (GetIs.none (none_nought (l := [128, 0]) (i := 1) (by decide) (fun j hj h => by obtain rfl : j = 0 := (by omega); show 128 ≤ (128 : UInt8).toNat; decide) rfl (by decide)))
  clear hG
  go_wp2_with fail
  go_at_call 9
  refine (Get_any _ _ _ 3 3 [172, 2, 9] (reads_laid _ _ 5 _ rfl _ (by simp)) (by decide)).mono ?_
  rintro e w1 ⟨v, k, hG, rfl, rfl⟩
  obtain ⟨rfl, rfl⟩ := hG.one (n' := 300) (k' := 2) (.inl ⟨by decide, by rw [enc300]; exact ⟨[9], rfl⟩, by rw [enc300]; rfl⟩)
  clear hG
  go_wp2_with fail
  go_at_call 19
  refine (Cut_any _ _ _ 4 4 [2, 97, 98, 99] (reads_laid _ _ 5 _ rfl _ (by simp)) (by simp) (by decide) (by decide)).mono ?_
  rintro e w2 ⟨t, j, hC, rfl, hg2⟩
  obtain ⟨rfl, rfl⟩ := hC.one (t' := [97, 98]) (k' := 3) (.inl ⟨by decide, by rw [show ([97, 98] : List UInt8).length = 2 by rfl, enc2]; exact ⟨[99], rfl⟩, by rw [show ([97, 98] : List UInt8).length = 2 by rfl, enc2]; rfl⟩)
  clear hC
  have hg3 : Grow w w2 := Below.trans ((((Below.refl w.heap.size w).alloc (Nat.le_refl _) _).alloc (by simp) _).alloc (by simp; omega) _) (hg2.mono (by simp; omega))
  go_wp2_with (go_at_call 8; refine (Put_is _ none 0 0 [] Reads.nil (by omega) 300 (by omega)).mono ?_; rintro e w3 ⟨v3, rfl, hg4, hb3⟩; rw [List.nil_append, enc300] at hb3; have cv := conv_is w3 hb3)
  go_at_call 11
  refine (Zig_any _ (-1) (by omega)).mono ?_
  rintro e w4 ⟨rfl, rfl⟩
  rw [show zig (-1) = 1 by decide]
  go_wp2_with fail
  go_at_call 10
  refine (Zag_any _ 1 (by omega)).mono ?_
  rintro e w4 ⟨rfl, rfl⟩
  rw [show zag 1 = -1 by decide]
  go_wp2_with fail
  go_at_call 11
  refine (Zig_any _ 3 (by omega)).mono ?_
  rintro e w4 ⟨rfl, rfl⟩
  rw [show zig 3 = 6 by decide]
  go_wp2_with fail
  go_ret
  exact ⟨rfl, hg3.trans hg4⟩
end Go.Proofs.Ytoeffekghmmmjaa
