/- Is a text read as the answer says. -/
import Derived.Test.YthkkfdnechmddaaDoorLrparse
import Derived.Test.YthkkfdnechmddaaDoorLprint
namespace Go.Proofs.YthkkfdnechmddaaDoor
open Go.RowKit Go.Hop
set_option maxRecDepth 100000 in
set_option maxHeartbeats 1000000 in
theorem reads_any (w : World) (s : ByteArray) (m : Int) (hs : s.size ≤ 1000000) (hm : -9223372036854775808 ≤ m ∧ m ≤ 9223372036854775807) :
    Calls Tryd.prog 9 #[.string s, .int .i64 m] w fun e w' => e = .returned (.bool true) ∧ Grow w w' := by
  have hsm : s.size ≤ maxLen := by unfold maxLen; omega
  have hP1 := Parse_any w s hs
  have hP2 := fun w => rParse_any w s hs
  have hp1 := fun w => Print_any w s hsm
  have hp2 := fun w => rPrint_any w s hsm
  have hs1 := fun w => Shard_any w s m hsm hm
  have hs2 := fun w => rShard_any w s m hsm hm
  have hn1 := fun w => Name_any w s hsm
  have hn2 := fun w => rName_any w s hsm
  have hlen : (parseL s).length ≤ 1000001 := by
    unfold parseL
    split
    · unfold labelsOf; rw [List.length_map]; have := cutAll_len 44 s.data.toList; rw [data_len] at this; omega
    · simp
  generalize parseL s = L at hP1 hP2 hlen
  generalize parseE s = E at hP1 hP2
  generalize printI s.data.toList = p at hp1 hp2
  generalize shardI s m = h at hs1 hs2
  generalize nameB s = b at hn1 hn2
  obtain ⟨n, HN⟩ : ∃ n : Nat, Hid (n = L.length) := ⟨_, rfl⟩
  rw [← HN.out] at hP1 hP2 hlen
  go_enter Tryd.func9, Tryd.ntmps9
  go_wp2_with fail
  refine hP1.mono ?_
  rintro e w1 ⟨A1, c1, rfl, hI1, hnc1, hg1⟩
  clear hP1
  go_wp2_with fail
  refine (hP2 w1).mono ?_
  rintro e w2 ⟨A2, c2, rfl, hI2, hg2⟩
  clear hP2
  have hg02 := below_trans hg1 hg2 hg1.size
  go_wp2_with fail
  refine (hp1 w2).mono ?_
  rintro e w' ⟨rfl, rfl⟩
  go_wp2_with fail
  refine (hp2 w2).mono ?_
  rintro e w' ⟨rfl, rfl⟩
  go_wp2_with fail
  refine (hs1 w2).mono ?_
  rintro e w' ⟨rfl, rfl⟩
  go_wp2_with fail
  refine (hs2 w2).mono ?_
  rintro e w' ⟨rfl, rfl⟩
  go_wp2_with fail
  refine (hn1 w2).mono ?_
  rintro e w' ⟨rfl, rfl⟩
  go_wp2_with fail
  refine (hn2 w2).mono ?_
  rintro e w' ⟨rfl, rfl⟩
  have hI1' := hI1.grow hg2
  clear hp1 hp2 hs1 hs2 hn1 hn2 hI1
  have hbb : (b != b) = false := by cases b <;> rfl
  go_wp2_with fail
  go_loopw [55] (fun i wr => ∃ k : Nat, k ≤ n ∧ i = .int .i64 (k : Int) ∧ Grow w2 wr) (fun i _ => n - (intOf i).toNat)
  case atStart => exact ⟨0, by omega, rfl, Grow.refl _⟩
  case round =>
    obtain ⟨i, hin, rfl, hgr⟩ := hrel
    by_cases hi : i < n
    · have hit : decide ((i : Int) < (n : Int)) = true := decide_eq_true (by omega)
      obtain ⟨ad, hqi, rfl, a0, a1⟩ := lab_at (hI1'.grow hgr) hi
      obtain ⟨ae, _, rfl, b0, b1⟩ := lab_at (hI2.grow hgr) hi
      generalize L[i] = d at a0 a1 b0 b1
      have hin2 : ¬ n ≤ i := by omega
      go_wp2_with fail
      refine wp_region_flow 9 68 [] rfl rfl (by kernel_rfl) (by kernel_rfl) (by kernel_rfl) ?_ ?_
      · intro x hx φ he
        cases hx
      intro ops' A' K' T hops hA' hK hT
      refine fl_mv 58 (by rfl) (by decide) (wanted_none (by rfl)) (by rw [hK.out]; rfl) (by rfl) _ (Or.inl (by rfl)) (.slice (some ad) n c1) (by rfl) ?_
      refine fl_mv 59 (by rfl) (by decide) (wanted_none (by rfl)) (by rw [hK.out]; rfl) (by rfl) _ (Or.inl (by rfl)) (.int .i64 (i : Int)) (by rfl) ?_
      refine fl_op2 60 (by rfl) (by decide) (wanted_none (by rfl)) (by rw [hK.out]; rfl) (by rfl) (.tmp 58) (.tmp 59) (.slice (some ad) n c1) (.int .i64 (i : Int)) (by rfl) (by rfl) (.pointer (some (ad.add (i * 2)))) (fun ρ h1 h2 kk w1 (hg : Grow _ w1) hb hf => by go_simp; try (intro hlt; omega)) ?_
      refine fl_op1 61 (by rfl) (by decide) (wanted_none (by rfl)) (by rw [hK.out]; rfl) (by rfl) (.tmp 60) (.pointer (some (ad.add (i * 2)))) (by rfl) (.agg #[.string d.1, .string d.2]) (fun ρ h1 kk w1 (hg : Grow _ w1) hb hf => by have e0 := a0 w1 hg; have e1 := a1 w1 hg; go_simp) ?_
      refine fl_mv 62 (by rfl) (by decide) (wanted_none (by rfl)) (by rw [hK.out]; rfl) (by rfl) _ (Or.inl (by rfl)) (.slice (some ae) n c2) (by rfl) ?_
      refine fl_mv 63 (by rfl) (by decide) (wanted_none (by rfl)) (by rw [hK.out]; rfl) (by rfl) _ (Or.inl (by rfl)) (.int .i64 (i : Int)) (by rfl) ?_
      refine fl_op2 64 (by rfl) (by decide) (wanted_none (by rfl)) (by rw [hK.out]; rfl) (by rfl) (.tmp 62) (.tmp 63) (.slice (some ae) n c2) (.int .i64 (i : Int)) (by rfl) (by rfl) (.pointer (some (ae.add (i * 2)))) (fun ρ h1 h2 kk w1 (hg : Grow _ w1) hb hf => by go_simp; try (intro hlt; omega)) ?_
      refine fl_op1 65 (by rfl) (by decide) (wanted_none (by rfl)) (by rw [hK.out]; rfl) (by rfl) (.tmp 64) (.pointer (some (ae.add (i * 2)))) (by rfl) (.agg #[.string d.1, .string d.2]) (fun ρ h1 kk w1 (hg : Grow _ w1) hb hf => by have e0 := b0 w1 hg; have e1 := b1 w1 hg; go_simp) ?_
      refine fl_op2 66 (by rfl) (by decide) (wanted_none (by rfl)) (by rw [hK.out]; rfl) (by rfl) (.tmp 61) (.tmp 65) (.agg #[.string d.1, .string d.2]) (.agg #[.string d.1, .string d.2]) (by rfl) (by rfl) (.bool false) (fun ρ h1 h2 kk w1 (hg : Grow _ w1) hb hf => by go_simp) ?_
      refine fl_end (fun _ _ w1 (hg : Grow _ w1) _ hfacts => hT _ _ ?_)
      clear hops hA' hK hT
      simp only [putsL, Act.put, List.setIfInBounds_toArray, List.set_cons_zero, List.set_cons_succ, List.drop_succ_cons, List.drop_zero]
      clear hfacts
      go_wp2_with fail
      go_roundw
      case rel => exact ⟨i + 1, by omega, by go_num, hgr.trans hg⟩
      case measure => simp [intOf]; omega
    · obtain rfl : n = i := by omega
      have hit : decide ((n : Int) < (n : Int)) = false := decide_eq_false (by omega)
      go_wp2_with fail
      go_ret
      exact ⟨rfl, below_trans hg02 hgr hg02.size⟩
end Go.Proofs.YthkkfdnechmddaaDoor
