/- Are rows of deltas the same. -/
import Derived.Test.YtidkhokecekpgaaDoorGtop
namespace Go.Proofs.YtidkhokecekpgaaDoor
open Go.RowKit Go.Hop
set_option maxRecDepth 100000 in
theorem SameDeltas_any (w : World) (A1 A2 : Option Addr) (n c1 c2 : Nat) (l : List Dl) (D1 D2 : Nat → Prop) (h1 : In w D1 2 A1 n (dcells l)) (h2 : In w D2 2 A2 n (dcells l)) (hn : n ≤ 1048576) :
    Calls Tryd.prog 12 #[.slice A1 n c1, .slice A2 n c2] w fun e w' => e = .returned (.bool true) ∧ Grow w w' := by
  go_enter Tryd.func12, Tryd.ntmps12
  go_wp2_with fail
  go_loopw [5, 13] (fun _ i wr => ∃ k : Nat, k ≤ n ∧ i = .int .i64 (k : Int) ∧ Grow w wr) (fun _ i _ => n - (intOf i).toNat)
  case atStart => exact ⟨0, by omega, rfl, Grow.refl _⟩
  case round =>
    obtain ⟨k, hkn, rfl, hgw⟩ := hrel
    by_cases hk : k < n
    · have hkt : decide ((k : Int) < (n : Int)) = true := decide_eq_true (by omega)
      obtain ⟨a1, hq1, rfl, f0, f1⟩ := del_at (h1.grow hgw) hk
      obtain ⟨a2, hq2, rfl, g0, g1⟩ := del_at (h2.grow hgw) hk
      generalize l[k] = dk at f0 f1 g0 g1
      go_wp2_with fail
      refine wp_region_flow 9 26 [] rfl rfl (by kernel_rfl) (by kernel_rfl) (by kernel_rfl) ?_ ?_
      · intro x hx φ he
        cases hx
      intro ops' A' K' T hops hA' hK hT
      refine fl_mv 16 (by rfl) (by decide) (wanted_none (by rfl)) (by rw [hK.out]; rfl) (by rfl) _ (Or.inl (by rfl)) (.slice (some a1) n c1) (by rfl) ?_
      refine fl_mv 17 (by rfl) (by decide) (wanted_none (by rfl)) (by rw [hK.out]; rfl) (by rfl) _ (Or.inl (by rfl)) (.int .i64 (k : Int)) (by rfl) ?_
      refine fl_op2 18 (by rfl) (by decide) (wanted_none (by rfl)) (by rw [hK.out]; rfl) (by rfl) (.tmp 16) (.tmp 17) (.slice (some a1) n c1) (.int .i64 (k : Int)) (by rfl) (by rfl) (.pointer (some (a1.add (k * 2)))) (fun ρ h1 h2 kk w1 (hg : Grow _ w1) hb hf => by go_simp; try (intro hlt; omega)) ?_
      refine fl_op1 19 (by rfl) (by decide) (wanted_none (by rfl)) (by rw [hK.out]; rfl) (by rfl) (.tmp 18) (.pointer (some (a1.add (k * 2)))) (by rfl) (.agg #[.string dk.1, .int .u64 (dk.2 : Int)]) (fun ρ h1 kk w1 (hg : Grow _ w1) hb hf => by have e0 := f0 w1 hg; have e1 := f1 w1 hg; go_simp) ?_
      refine fl_mv 20 (by rfl) (by decide) (wanted_none (by rfl)) (by rw [hK.out]; rfl) (by rfl) _ (Or.inl (by rfl)) (.slice (some a2) n c2) (by rfl) ?_
      refine fl_mv 21 (by rfl) (by decide) (wanted_none (by rfl)) (by rw [hK.out]; rfl) (by rfl) _ (Or.inl (by rfl)) (.int .i64 (k : Int)) (by rfl) ?_
      refine fl_op2 22 (by rfl) (by decide) (wanted_none (by rfl)) (by rw [hK.out]; rfl) (by rfl) (.tmp 20) (.tmp 21) (.slice (some a2) n c2) (.int .i64 (k : Int)) (by rfl) (by rfl) (.pointer (some (a2.add (k * 2)))) (fun ρ h1 h2 kk w1 (hg : Grow _ w1) hb hf => by go_simp; try (intro hlt; omega)) ?_
      refine fl_op1 23 (by rfl) (by decide) (wanted_none (by rfl)) (by rw [hK.out]; rfl) (by rfl) (.tmp 22) (.pointer (some (a2.add (k * 2)))) (by rfl) (.agg #[.string dk.1, .int .u64 (dk.2 : Int)]) (fun ρ h1 kk w1 (hg : Grow _ w1) hb hf => by have e0 := g0 w1 hg; have e1 := g1 w1 hg; go_simp) ?_
      refine fl_op2 24 (by rfl) (by decide) (wanted_none (by rfl)) (by rw [hK.out]; rfl) (by rfl) (.tmp 19) (.tmp 23) (.agg #[.string dk.1, .int .u64 (dk.2 : Int)]) (.agg #[.string dk.1, .int .u64 (dk.2 : Int)]) (by rfl) (by rfl) (.bool false) (fun ρ h1 h2 kk w1 (hg : Grow _ w1) hb hf => by go_simp) ?_
      refine fl_end (fun _ _ w1 (hg : Grow _ w1) _ hfacts => hT _ _ ?_)
      clear hops hA' hK hT
      simp only [putsL, Act.put, List.setIfInBounds_toArray, List.set_cons_zero, List.set_cons_succ, List.drop_succ_cons, List.drop_zero]
      clear hfacts
      go_wp2_with fail
      go_roundw
      case rel => exact ⟨k + 1, by omega, by go_num, hgw.trans hg⟩
      case measure => simp [intOf]; omega
    · obtain rfl : k = n := by omega
      have hkt : decide ((k : Int) < (k : Int)) = false := decide_eq_false (by omega)
      go_wp2_with fail
      go_ret
      exact ⟨rfl, hgw⟩
end Go.Proofs.YtidkhokecekpgaaDoor
