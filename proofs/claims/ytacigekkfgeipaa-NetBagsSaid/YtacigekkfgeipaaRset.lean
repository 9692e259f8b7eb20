/- The answer's Set. -/
import Derived.Test.YtacigekkfgeipaaRd
namespace Go.Proofs.Ytacigekkfgeipaa
open Go.RowKit Go.Hop
theorem rSet_a (w : World) (g : Nat) (nodes : Int) (v : Value) (P : Nat → Bool) (hB : Blk w g 48 (netc nodes v P)) (a b : Int) (p : Bool) (ha : nodeB nodes a = false) :
    Calls Try.prog 21 #[.pointer (some ⟨g, 0, none⟩), .int .i64 a, .int .i64 b, .bool p] w fun e w' => e = .returned (.int .i64 23) ∧ w = w' := by
  go_enter Try.func21, Try.ntmps21
  go_wp2_with (go_at_call 30; refine (rin_any w g nodes _ _ _ hB).mono ?_; rintro e w2 ⟨rfl, hw2⟩; subst hw2)
  go_ret
  exact ⟨rfl, rfl⟩
theorem rSet_b (w : World) (g : Nat) (nodes : Int) (v : Value) (P : Nat → Bool) (hB : Blk w g 48 (netc nodes v P)) (a b : Int) (p : Bool) (ha : nodeB nodes a = true) (hb : nodeB nodes b = false) :
    Calls Try.prog 21 #[.pointer (some ⟨g, 0, none⟩), .int .i64 a, .int .i64 b, .bool p] w fun e w' => e = .returned (.int .i64 23) ∧ w = w' := by
  go_enter Try.func21, Try.ntmps21
  go_wp2_with (go_at_call 30; refine (rin_any w g nodes _ _ _ hB).mono ?_; rintro e w2 ⟨rfl, hw2⟩; subst hw2)
  go_ret
  exact ⟨rfl, rfl⟩
theorem rSet_c (w : World) (g : Nat) (nodes : Int) (v : Value) (P : Nat → Bool) (hB : Blk w g 48 (netc nodes v P)) (a b : Int) (p : Bool) (ha : nodeB nodes a = true) (hb : nodeB nodes b = true) (hab : a = b) :
    Calls Try.prog 21 #[.pointer (some ⟨g, 0, none⟩), .int .i64 a, .int .i64 b, .bool p] w fun e w' => e = .returned (.int .i64 23) ∧ w = w' := by
  subst hab
  go_enter Try.func21, Try.ntmps21
  go_wp2_with (go_at_call 30; refine (rin_any w g nodes _ _ _ hB).mono ?_; rintro e w2 ⟨rfl, hw2⟩; subst hw2)
  go_ret
  exact ⟨rfl, rfl⟩
set_option maxRecDepth 20000 in
theorem rSet_ok (w : World) (g : Nat) (nodes : Int) (v : Value) (P : Nat → Bool) (hB : Blk w g 48 (netc nodes v P)) (hN : nodes ≤ 8) (a b : Nat) (p : Bool) (ha : (a : Int) < nodes) (hb : (b : Int) < nodes) (hab : a ≠ b) :
    Calls Try.prog 21 #[.pointer (some ⟨g, 0, none⟩), .int .i64 (a : Int), .int .i64 (b : Int), .bool p] w fun e w' => e = .returned (.int .i64 0) ∧ Just (fun c => c = g) w w' ∧ Blk w' g 48 (netc nodes v (parted P a b p)) := by
  have na : nodeB nodes (a : Int) = true := nodeB_yes (by omega)
  have nb : nodeB nodes (b : Int) = true := nodeB_yes (by omega)
  have hne : ((a : Int) == (b : Int)) = false := beq_eq_false_iff_ne.2 (by omega)
  have a8 : ¬ (8 : Int) ≤ (a : Int) := by omega
  have b8 : ¬ (8 : Int) ≤ (b : Int) := by omega
  have a8' : a < 8 := by omega
  have b8' : b < 8 := by omega
  go_enter Try.func21, Try.ntmps21
  go_wp2_with (go_at_call 30; refine (rin_any w g nodes _ _ _ hB).mono ?_; rintro e w2 ⟨rfl, hw2⟩; subst hw2)
  refine wp_region_reg rfl ?_
  refine reg_flow (SetSt 48 g nodes v P a b p) (setSt_ok _ _ _ _ _ _ _ _) 0 18 40 [(12, .inl (undef)), (17, .inl (undef))] rfl (by kernel_rfl) (by kernel_rfl) (by kernel_rfl) ?_ (Just.of_grow (Grow.refl _).drew) hB ?_
  · intro x hx φ he
    simp only [List.mem_cons, List.not_mem_nil, or_false] at hx
    rcases hx with rfl | rfl <;> cases he
  intro ops' A' K' T hops hA' hK hT
  refine fl_mv 24 (by rfl) (by decide) (wanted_none (by rfl)) (by rw [hK.out]; rfl) (by rfl) _ (Or.inl (by rfl)) (.pointer (some ⟨g, 0, none⟩)) (by rfl) ?_
  refine fl_mv 25 (by rfl) (by decide) (wanted_none (by rfl)) (by rw [hK.out]; rfl) (by rfl) _ (Or.inl (by rfl)) (.int .i64 (a : Int)) (by rfl) ?_
  refine fl_mv 26 (by rfl) (by decide) (wanted_none (by rfl)) (by rw [hK.out]; rfl) (by rfl) _ (Or.inl (by rfl)) (.int .i64 (b : Int)) (by rfl) ?_
  refine fl_mv 27 (by rfl) (by decide) (wanted_none (by rfl)) (by rw [hK.out]; rfl) (by rfl) _ (Or.inl (by rfl)) (.pointer (some ⟨g, 0, none⟩)) (by rfl) ?_
  refine fl_mv 28 (by rfl) (by decide) (wanted_none (by rfl)) (by rw [hK.out]; rfl) (by rfl) _ (Or.inl (by rfl)) (.int .i64 (b : Int)) (by rfl) ?_
  refine fl_mv 29 (by rfl) (by decide) (wanted_none (by rfl)) (by rw [hK.out]; rfl) (by rfl) _ (Or.inl (by rfl)) (.int .i64 (a : Int)) (by rfl) ?_
  refine fl_mv 30 (by rfl) (by decide) (wanted_none (by rfl)) (by rw [hK.out]; rfl) (by rfl) _ (Or.inl (by rfl)) (.bool p) (by rfl) ?_
  refine fl_mv 31 (by rfl) (by decide) (wanted_none (by rfl)) (by rw [hK.out]; rfl) (by rfl) _ (Or.inl (by rfl)) (.bool p) (by rfl) ?_
  refine fl_op1 32 (by rfl) (by decide) (wanted_none (by rfl)) (by rw [hK.out]; rfl) (by rfl) (.tmp 24) (.pointer (some ⟨g, 0, none⟩)) (by rfl) (.pointer (some ⟨g, 0, none⟩)) (fun ρ h1 kk w1 (hg : Just (fun c => c = g) _ w1) hb hf => by go_simp) ?_
  refine fl_op1 33 (by rfl) (by decide) (wanted_none (by rfl)) (by rw [hK.out]; rfl) (by rfl) (.tmp 32) (.pointer (some ⟨g, 0, none⟩)) (by rfl) (.pointer (some ⟨g, 2, none⟩)) (fun ρ h1 kk w1 (hg : Just (fun c => c = g) _ w1) hb hf => by go_simp) ?_
  refine fl_op2 34 (by rfl) (by decide) (wanted_none (by rfl)) (by rw [hK.out]; rfl) (by rfl) (.tmp 33) (.tmp 25) (.pointer (some ⟨g, 2, none⟩)) (.int .i64 (a : Int)) (by rfl) (by rfl) (.pointer (some ⟨g, 2 + a * 8, none⟩)) (fun ρ h1 h2 kk w1 (hg : Just (fun c => c = g) _ w1) hb hf => by go_simp) ?_
  refine fl_op2 35 (by rfl) (by decide) (wanted_none (by rfl)) (by rw [hK.out]; rfl) (by rfl) (.tmp 34) (.tmp 26) (.pointer (some ⟨g, 2 + a * 8, none⟩)) (.int .i64 (b : Int)) (by rfl) (by rfl) (.pointer (some ⟨g, 2 + a * 8 + b, none⟩)) (fun ρ h1 h2 kk w1 (hg : Just (fun c => c = g) _ w1) hb hf => by go_simp) ?_
  refine fl_do2 (by rfl) (wanted_none (by rfl)) (undef) (by rw [hK.out]; rfl) (.tmp 35) (.tmp 30) (.pointer (some ⟨g, 2 + a * 8 + b, none⟩)) (.bool p) (by rfl) (by rfl) (fun ρ h1 h2 kk w1 (hg : Just (fun c => c = g) _ w1) hb hf => by obtain rfl := before_some 0 (by rfl) hb; have hI := hb.1; refine upon_turn 0 (by rfl) ?_; exact set_store hI h1 h2 rfl (by omega)) ?_
  refine fl_op1 36 (by rfl) (by decide) (wanted_none (by rfl)) (by rw [hK.out]; rfl) (by rfl) (.tmp 27) (.pointer (some ⟨g, 0, none⟩)) (by rfl) (.pointer (some ⟨g, 0, none⟩)) (fun ρ h1 kk w1 (hg : Just (fun c => c = g) _ w1) hb hf => by go_simp) ?_
  refine fl_op1 37 (by rfl) (by decide) (wanted_none (by rfl)) (by rw [hK.out]; rfl) (by rfl) (.tmp 36) (.pointer (some ⟨g, 0, none⟩)) (by rfl) (.pointer (some ⟨g, 2, none⟩)) (fun ρ h1 kk w1 (hg : Just (fun c => c = g) _ w1) hb hf => by go_simp) ?_
  refine fl_op2 38 (by rfl) (by decide) (wanted_none (by rfl)) (by rw [hK.out]; rfl) (by rfl) (.tmp 37) (.tmp 28) (.pointer (some ⟨g, 2, none⟩)) (.int .i64 (b : Int)) (by rfl) (by rfl) (.pointer (some ⟨g, 2 + b * 8, none⟩)) (fun ρ h1 h2 kk w1 (hg : Just (fun c => c = g) _ w1) hb hf => by go_simp) ?_
  refine fl_op2 39 (by rfl) (by decide) (wanted_none (by rfl)) (by rw [hK.out]; rfl) (by rfl) (.tmp 38) (.tmp 29) (.pointer (some ⟨g, 2 + b * 8, none⟩)) (.int .i64 (a : Int)) (by rfl) (by rfl) (.pointer (some ⟨g, 2 + b * 8 + a, none⟩)) (fun ρ h1 h2 kk w1 (hg : Just (fun c => c = g) _ w1) hb hf => by go_simp) ?_
  refine fl_do2 (by rfl) (wanted_none (by rfl)) (undef) (by rw [hK.out]; rfl) (.tmp 39) (.tmp 31) (.pointer (some ⟨g, 2 + b * 8 + a, none⟩)) (.bool p) (by rfl) (by rfl) (fun ρ h1 h2 kk w1 (hg : Just (fun c => c = g) _ w1) hb hf => by obtain rfl := before_some 1 (by rfl) hb; have hI := hb.1; refine upon_turn 1 (by rfl) ?_; exact set_store hI h1 h2 rfl (by omega)) ?_
  refine fl_end (fun _ _ w1 (hg : Just (fun c => c = g) _ w1) hend hfacts => hT _ _ ?_)
  clear hops hA' hK hT
  simp only [putsL, Act.put, List.setIfInBounds_toArray, List.set_cons_zero, List.set_cons_succ]
  refine reg_end ?_
  have hE : Blk w1 g 48 (netc nodes v (parted P a b p)) := hend
  clear hend hfacts
  go_wp2_with fail
  go_ret
  exact ⟨rfl, hg, hE⟩
theorem rSet_raw (w : World) (g : Nat) (nodes : Int) (v : Value) (P : Nat → Bool) (hB : Blk w g 48 (netc nodes v P)) (hN : nodes ≤ 8) (a b : Int) (p : Bool) :
    Calls Try.prog 21 #[.pointer (some ⟨g, 0, none⟩), .int .i64 a, .int .i64 b, .bool p] w fun e w' => e = .returned (.int .i64 (setE nodes a b)) ∧ Just (fun c => c = g) w w' ∧ Blk w' g 48 (netc nodes v (setP nodes a b p P)) := by
  have no : Calls Try.prog 21 #[.pointer (some ⟨g, 0, none⟩), .int .i64 a, .int .i64 b, .bool p] w (fun e w' => e = .returned (.int .i64 23) ∧ w = w') → Calls Try.prog 21 #[.pointer (some ⟨g, 0, none⟩), .int .i64 a, .int .i64 b, .bool p] w fun e w' => e = .returned (.int .i64 23) ∧ Just (fun c => c = g) w w' ∧ Blk w' g 48 (netc nodes v P) :=
    fun h => h.mono fun _ _ ⟨he, hw⟩ => ⟨he, hw ▸ Just.of_grow (Grow.refl _), hw ▸ hB⟩
  unfold setP setE
  cases ha : nodeB nodes a with
  | false => simp only [if_true]; exact no (rSet_a w g nodes v P hB a b p ha)
  | true =>
    cases hb : nodeB nodes b with
    | false => simp only [Bool.true_eq_false, if_true, if_false]; exact no (rSet_b w g nodes v P hB a b p ha hb)
    | true =>
      by_cases hab : a = b
      · simp only [Bool.true_eq_false, if_false, if_pos hab]; exact no (rSet_c w g nodes v P hB a b p ha hb hab)
      · simp only [Bool.true_eq_false, if_false, if_neg hab, if_true]
        obtain ⟨a0, a1⟩ := nodeB_is ha
        obtain ⟨b0, b1⟩ := nodeB_is hb
        have := rSet_ok w g nodes v P hB hN a.toNat b.toNat p (by omega) (by omega) (by omega)
        rwa [show ((a.toNat : Nat) : Int) = a by omega, show ((b.toNat : Nat) : Int) = b by omega] at this
theorem rSet_any (w : World) (g : Nat) (nodes : Int) (l : List Lb) (P : Nat → Bool) (a b : Int) (p : Bool) :
    Turns Try.prog 21 #[.pointer (some ⟨g, 0, none⟩), .int .i64 a, .int .i64 b, .bool p] (fun e => e = .returned (.int .i64 (setE nodes a b))) (RNetAt g nodes l P) (RNetAt g nodes l (setP nodes a b p P)) w := by
  intro V ⟨h1, A, c, D, h64, hN, hInv, hB, hI, hnc, hcm, h9⟩ hV
  refine (rSet_raw w g nodes _ P hB hN.2 a b p).mono fun e w' ⟨he, hj, hB'⟩ => ⟨he, ⟨.inl h1, A, c, D, h64, hN, hInv, hB', hI.just hj fun b hb e => (h9 b hb).2 e, hnc, hcm, fun b hb => ⟨.inl (h9 b hb).1, (h9 b hb).2⟩⟩, hj.imp fun x hx => by rw [show x = g from hx]; exact h1⟩
end Go.Proofs.Ytacigekkfgeipaa
