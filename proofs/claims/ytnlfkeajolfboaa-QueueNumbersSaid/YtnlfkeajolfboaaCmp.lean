/- Rows that are alike are found so. -/
import Derived.Test.YtnlfkeajolfboaaRdn
import Derived.Laws.StructEq
namespace Go.Proofs.Ytnlfkeajolfboaa
open Go.RowKit Go.Hop
theorem sameDeltas_any (w : World) (V U : Nat → Prop) (A A' : Option Addr) (n c n' c' : Nat) (l : List Dl) (h : DIn w V A n l) (h' : DIn w U A' n' l) (hn : n ≤ 1024) :
    Calls Try.prog 28 #[.slice A n c, .slice A' n' c'] w fun e w' => e = .returned (.bool true) ∧ Grow w w' := by
  obtain rfl : n' = n := by rw [← h.len, ← h'.len]
  go_enter Try.func28, Try.ntmps28
  go_wp2_with fail
  go_loopw [13] (fun i wr => ∃ k : Nat, k ≤ n' ∧ i = .int .i64 k ∧ Grow w wr) (fun i _ => n' - (intOf i).toNat)
  case atStart => exact ⟨0, by omega, rfl, Grow.refl _⟩
  case round =>
    obtain ⟨k, hkn, rfl, hgr⟩ := hrel
    by_cases hk : k < n'
    · have hcell : ∃ (s : ByteArray) (x : Int) (ad ad' : Addr), A = some ad ∧ A' = some ad' ∧ (∀ w1, Grow wr w1 → w1.cell? (ad.add (k * 2)) = some (.string s)) ∧ (∀ w1, Grow wr w1 → w1.cell? ⟨(ad.add (k * 2)).block, (ad.add (k * 2)).off + 1, none⟩ = some (.int .u64 x)) ∧
          (∀ w1, Grow wr w1 → w1.cell? (ad'.add (k * 2)) = some (.string s)) ∧ (∀ w1, Grow wr w1 → w1.cell? ⟨(ad'.add (k * 2)).block, (ad'.add (k * 2)).off + 1, none⟩ = some (.int .u64 x)) := by
        obtain ⟨ad, hq, e1, hv, hb, _, _⟩ := In.rec_ (cells := dcell) (q := l) h (by omega) dcell_len hk
        obtain ⟨ad', _, e2, hv', hb', _, _⟩ := In.rec_ (cells := dcell) (q := l) h' (by omega) dcell_len hk
        refine ⟨l[k].1, l[k].2, ad, ad', e1, e2, fun w1 hg => ?_, fun w1 hg => ?_, fun w1 hg => ?_, fun w1 hg => ?_⟩
        · obtain ⟨a, _, e, _, _, c0, _⟩ := In.rec_ (cells := dcell) (q := l) (In.grow h (hgr.trans hg)) (by omega) dcell_len hk
          rw [e1] at e; injection e with e; rw [e]; exact c0 _ rfl
        · obtain ⟨a, _, e, _, _, _, c1⟩ := In.rec_ (cells := dcell) (q := l) (In.grow h (hgr.trans hg)) (by omega) dcell_len hk
          rw [e1] at e; injection e with e; rw [e]; exact c1 0 _ rfl
        · obtain ⟨a, _, e, _, _, c0, _⟩ := In.rec_ (cells := dcell) (q := l) (In.grow h' (hgr.trans hg)) (by omega) dcell_len hk
          rw [e2] at e; injection e with e; rw [e]; exact c0 _ rfl
        · obtain ⟨a, _, e, _, _, _, c1⟩ := In.rec_ (cells := dcell) (q := l) (In.grow h' (hgr.trans hg)) (by omega) dcell_len hk
          rw [e2] at e; injection e with e; rw [e]; exact c1 0 _ rfl
      obtain ⟨s, x, ad, ad', rfl, rfl, e0, e1, f0, f1⟩ := hcell
      have heq : True := trivial
      go_wp2_with fail
      refine wp_region_flow 9 26 [] rfl rfl (by kernel_rfl) (by kernel_rfl) (by kernel_rfl) ?_ ?_
      · intro x hx φ he
        cases hx
      intro ops' A' K' T hops hA' hK hT
      refine fl_mv 16 (by rfl) (by decide) (wanted_none (by rfl)) (by rw [hK.out]; rfl) (by rfl) _ (Or.inl (by rfl)) (.slice (some ad) n' c) (by rfl) ?_
      refine fl_mv 17 (by rfl) (by decide) (wanted_none (by rfl)) (by rw [hK.out]; rfl) (by rfl) _ (Or.inl (by rfl)) (.int .i64 (k : Int)) (by rfl) ?_
      refine fl_op2 18 (by rfl) (by decide) (wanted_none (by rfl)) (by rw [hK.out]; rfl) (by rfl) (.tmp 16) (.tmp 17) (.slice (some ad) n' c) (.int .i64 (k : Int)) (by rfl) (by rfl) (.pointer (some (ad.add (k * 2)))) (fun ρ h1 h2 kk w1 (hg : Grow _ w1) hb hf => by go_simp) ?_
      refine fl_op1 19 (by rfl) (by decide) (wanted_none (by rfl)) (by rw [hK.out]; rfl) (by rfl) (.tmp 18) (.pointer (some (ad.add (k * 2)))) (by rfl) (.agg #[.string s, .int .u64 x]) (fun ρ h1 kk w1 (hg : Grow _ w1) hb hf => by have e0 := e0 _ hg; have e1 := e1 _ hg; go_simp) ?_
      refine fl_mv 20 (by rfl) (by decide) (wanted_none (by rfl)) (by rw [hK.out]; rfl) (by rfl) _ (Or.inl (by rfl)) (.slice (some ad') n' c') (by rfl) ?_
      refine fl_mv 21 (by rfl) (by decide) (wanted_none (by rfl)) (by rw [hK.out]; rfl) (by rfl) _ (Or.inl (by rfl)) (.int .i64 (k : Int)) (by rfl) ?_
      refine fl_op2 22 (by rfl) (by decide) (wanted_none (by rfl)) (by rw [hK.out]; rfl) (by rfl) (.tmp 20) (.tmp 21) (.slice (some ad') n' c') (.int .i64 (k : Int)) (by rfl) (by rfl) (.pointer (some (ad'.add (k * 2)))) (fun ρ h1 h2 kk w1 (hg : Grow _ w1) hb hf => by go_simp) ?_
      refine fl_op1 23 (by rfl) (by decide) (wanted_none (by rfl)) (by rw [hK.out]; rfl) (by rfl) (.tmp 22) (.pointer (some (ad'.add (k * 2)))) (by rfl) (.agg #[.string s, .int .u64 x]) (fun ρ h1 kk w1 (hg : Grow _ w1) hb hf => by have e0 := f0 _ hg; have e1 := f1 _ hg; go_simp) ?_
      refine fl_op2 24 (by rfl) (by decide) (wanted_none (by rfl)) (by rw [hK.out]; rfl) (by rfl) (.tmp 19) (.tmp 23) (.agg #[.string s, .int .u64 x]) (.agg #[.string s, .int .u64 x]) (by rfl) (by rfl) (.bool false) (fun ρ h1 h2 kk w1 (hg : Grow _ w1) hb hf => by have hq := heq; go_simp) ?_
      refine fl_end (fun _ _ w1 (hg : Grow _ w1) _ hfacts => hT _ _ ?_)
      clear hops hA' hK hT
      simp only [putsL, Act.put, List.setIfInBounds_toArray, List.set_cons_zero, List.set_cons_succ, List.drop_succ_cons, List.drop_zero]
      go_wp2_with fail
      go_roundw
      case rel => exact ⟨k + 1, by omega, by go_num, hgr.trans hg⟩
      case measure => simp [intOf]; omega
    · obtain rfl : k = n' := by omega
      go_wp2_with fail
      go_ret
      exact ⟨rfl, hgr⟩
end Go.Proofs.Ytnlfkeajolfboaa
