/- Both read, and scan, the same. -/
import Derived.Test.YtocpepknlnghkaaScan
namespace Go.Proofs.Ytocpepknlnghkaa
open Go.RowKit Go.Hop
theorem rec1 {q : List Bx} {w : World} {V : Nat → Prop} {A : Option Addr} {n : Nat} (h : In w V 1 A n (q.flatMap Bx.cells)) {k : Nat} (hk : k < n) :
    ∃ (ad : Addr) (hq : k < q.length), A = some ad ∧ ∀ w1, Grow w w1 → w1.cell? (ad.add k) = some (.slice q[k].A q[k].m q[k].c) := by
  obtain ⟨ad, hq, e, _, hb, e0, _⟩ := h.rec_ (by omega) bx_len hk
  rw [Nat.mul_one] at e0
  exact ⟨ad, hq, e, fun w1 hg => (hg.cell (by rw [block_add]; exact hb)).trans (e0 _ rfl)⟩
set_option maxRecDepth 100000 in
theorem reads_any (w : World) (A : Option Addr) (n c : Nat) (l : List UInt8) (hb : Bytes w w.heap.size A n l) (hnc : n ≤ c) (hcm : c ≤ maxLen) (hn : n ≤ 1099511627776) :
    Calls Try.prog 9 #[.slice A n c] w fun e w' => e = .returned (.bool true) ∧ Grow w w' := by
  have hlen := hb.len
  go_enter Try.func9, Try.ntmps9
  go_wp2_with fail
  go_at_call 14
  refine (Read_any w A n c l hb hnc hcm).mono ?_
  rintro e wa ⟨x, k, ok, v1, hR1, rfl, hO1, hga⟩
  have hba : Bytes wa wa.heap.size A n l := Reads.more (Reads.below hb hga) hga.size
  go_wp2_with fail
  go_at_call 16
  refine (rRead_any wa A n c l hba hnc hcm).mono ?_
  rintro e wb ⟨y, j, is, v2, hR2, rfl, hO2, hgb⟩
  obtain ⟨rfl, rfl, rfl⟩ := hR1.one hR2
  have hbb : Bytes wb wb.heap.size A n l := Reads.more (Reads.below hba hgb) hgb.size
  go_wp2_with fail
  go_at_call 15
  refine (Scan_any wb A n c l hbb hnc hcm hn).mono ?_
  rintro e wc ⟨xs, k1, u1, hS1, rfl, ⟨A1, c1, q1, rfl, hX1, hm1, hn1, hc1⟩, hgc⟩
  have hbc : Bytes wc wc.heap.size A n l := Reads.more (Reads.below hbb hgc) hgc.size
  go_wp2_with fail
  go_at_call 17
  refine (rScan_any wc A n c l hbc hnc hcm hn).mono ?_
  rintro e wd ⟨ys, k2, u2, hS2, rfl, ⟨A2, c2, q2, rfl, hX2, hm2, _, _⟩, hgd⟩
  obtain ⟨rfl, rfl⟩ := hS1.one hS2
  have hll : q2.length = q1.length := by have h1 := congrArg List.length hm1; have h2 := congrArg List.length hm2; rw [List.length_map] at h1 h2; omega
  have hmm : q2.map Bx.bs = q1.map Bx.bs := hm2.trans hm1.symm
  rw [hll] at hX2
  rw [hll]
  have cv1 := conv_is wd (((Own.grow hO1 (fun b hb => hb.2) hgb).grow (fun b hb => by have := hb.2; have := hgb.size; omega) (hgc.trans hgd)).isBytes)
  have cv2 := conv_is wd ((Own.grow hO2 (fun b hb => hb.2) (hgc.trans hgd)).isBytes)
  have hX1 := (hX1.grow hgd)
  have hm63 : q1.length ≤ 9223372036854775806 := by unfold maxLen at hc1; have : c1 ≠ q1.length ∨ c1 = q1.length := by omega
                                                    have := frames_len xs; have := hS1.2.1; have := congrArg List.length hm1; rw [List.length_map] at this; have := congrArg List.length hS1.1; rw [List.length_append] at this; omega
  generalize q1.length = m at *
  clear hm1 hm2 hba hbb hbc hS1 hS2 hR1 hR2 hO1 hO2
  go_wp2_with fail
  clear cv1 cv2
  go_loopw [13, 65] (fun z i wr => ∃ k : Nat, k ≤ m ∧ i = .int .i64 (k : Int) ∧ Grow wd wr) (fun _ i _ => m - (intOf i).toNat)
  case atStart => exact ⟨0, by omega, rfl, Grow.refl _⟩
  case round =>
    obtain ⟨k, hkn, rfl, hgr⟩ := hrel
    by_cases hk : k < m
    · obtain ⟨a1, hq1, rfl, e1⟩ := rec1 (hX1.grow hgr).row hk
      obtain ⟨a2, hq2, rfl, e2⟩ := rec1 (hX2.grow hgr).row hk
      have hx1 := ((hX1.all _ (List.getElem_mem hq1)).grow hgr).bytes
      have hx2 := ((hX2.all _ (List.getElem_mem hq2)).grow hgr).bytes
      have hab : q2[k].bs = q1[k].bs := by
        have h3 : (q2.map Bx.bs)[k]? = some q2[k].bs := by rw [List.getElem?_map, List.getElem?_eq_getElem hq2]; rfl
        rw [hmm, List.getElem?_map, List.getElem?_eq_getElem hq1] at h3
        injection h3 with h3
        exact h3.symm
      rw [hab] at hx2
      clear hab
      generalize q1[k] = b1 at e1 hx1 hx2
      generalize q2[k] = b2 at e2 hx2
      go_wp2_with fail
      refine wp_region_flow 11 80 [] rfl rfl (by kernel_rfl) (by kernel_rfl) (by kernel_rfl) ?_ ?_
      · intro x hx φ he
        cases hx
      intro ops' A' K' T hops hA' hK hT
      refine fl_mv 68 (by rfl) (by decide) (wanted_none (by rfl)) (by rw [hK.out]; rfl) (by rfl) _ (Or.inl (by rfl)) (.slice (some a1) m c1) (by rfl) ?_
      refine fl_mv 69 (by rfl) (by decide) (wanted_none (by rfl)) (by rw [hK.out]; rfl) (by rfl) _ (Or.inl (by rfl)) (.int .i64 (k : Int)) (by rfl) ?_
      refine fl_op2 70 (by rfl) (by decide) (wanted_none (by rfl)) (by rw [hK.out]; rfl) (by rfl) (.tmp 68) (.tmp 69) (.slice (some a1) m c1) (.int .i64 (k : Int)) (by rfl) (by rfl) (.pointer (some (a1.add k))) (fun ρ h1 h2 kk w1 (hg : Grow _ w1) hb hf => by go_simp) ?_
      refine fl_op1 71 (by rfl) (by decide) (wanted_none (by rfl)) (by rw [hK.out]; rfl) (by rfl) (.tmp 70) (.pointer (some (a1.add k))) (by rfl) (.slice b1.A b1.m b1.c) (fun ρ h1 kk w1 (hg : Grow _ w1) hb hf => by have c := e1 _ hg; go_simp) ?_
      refine fl_op1 72 (by rfl) (by decide) (wanted_none (by rfl)) (by rw [hK.out]; rfl) (by rfl) (.tmp 71) (.slice b1.A b1.m b1.c) (by rfl) (.string ⟨b1.bs.toArray⟩) (fun ρ h1 kk w1 (hg : Grow _ w1) hb hf => by have cv := conv_bytes w1 (c := b1.c) (hx1.below hg); go_simp) ?_
      refine fl_mv 73 (by rfl) (by decide) (wanted_none (by rfl)) (by rw [hK.out]; rfl) (by rfl) _ (Or.inl (by rfl)) (.slice (some a2) m c2) (by rfl) ?_
      refine fl_mv 74 (by rfl) (by decide) (wanted_none (by rfl)) (by rw [hK.out]; rfl) (by rfl) _ (Or.inl (by rfl)) (.int .i64 (k : Int)) (by rfl) ?_
      refine fl_op2 75 (by rfl) (by decide) (wanted_none (by rfl)) (by rw [hK.out]; rfl) (by rfl) (.tmp 73) (.tmp 74) (.slice (some a2) m c2) (.int .i64 (k : Int)) (by rfl) (by rfl) (.pointer (some (a2.add k))) (fun ρ h1 h2 kk w1 (hg : Grow _ w1) hb hf => by go_simp) ?_
      refine fl_op1 76 (by rfl) (by decide) (wanted_none (by rfl)) (by rw [hK.out]; rfl) (by rfl) (.tmp 75) (.pointer (some (a2.add k))) (by rfl) (.slice b2.A b2.m b2.c) (fun ρ h1 kk w1 (hg : Grow _ w1) hb hf => by have c := e2 _ hg; go_simp) ?_
      refine fl_op1 77 (by rfl) (by decide) (wanted_none (by rfl)) (by rw [hK.out]; rfl) (by rfl) (.tmp 76) (.slice b2.A b2.m b2.c) (by rfl) (.string ⟨b1.bs.toArray⟩) (fun ρ h1 kk w1 (hg : Grow _ w1) hb hf => by have cv := conv_bytes w1 (c := b2.c) (hx2.below hg); go_simp) ?_
      refine fl_op2 78 (by rfl) (by decide) (wanted_none (by rfl)) (by rw [hK.out]; rfl) (by rfl) (.tmp 72) (.tmp 77) (.string ⟨b1.bs.toArray⟩) (.string ⟨b1.bs.toArray⟩) (by rfl) (by rfl) (.bool false) (fun ρ h1 h2 kk w1 (hg : Grow _ w1) hb hf => by go_simp) ?_
      refine fl_end (fun _ _ w1 (hg : Grow _ w1) _ hfacts => hT _ _ ?_)
      clear hops hA' hK hT
      simp only [putsL, Act.put, List.setIfInBounds_toArray, List.set_cons_zero, List.set_cons_succ, List.drop_succ_cons, List.drop_zero]
      go_wp2_with fail
      go_roundw
      case rel => exact ⟨k + 1, by omega, by go_num, hgr.trans hg⟩
      case measure => simp [intOf]; omega
    · obtain rfl : k = m := by omega
      go_wp2_with fail
      go_ret
      exact ⟨rfl, (((hga.trans hgb).trans hgc).trans hgd).trans hgr⟩
end Go.Proofs.Ytocpepknlnghkaa
