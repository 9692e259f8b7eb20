/- The answer's Deliver. -/
import Derived.Test.YtacigekkfgeipaaRt
namespace Go.Proofs.Ytacigekkfgeipaa
open Go.RowKit Go.Hop
theorem rnet_at {nodes : Int} {l : List Lb} (hN : 1 ≤ nodes ∧ nodes ≤ 8) (hInv : ∀ a ∈ l, InN nodes a) {i : Nat} (hi : i < l.length) :
    ∃ fa ta : Nat, l[i].1 = (fa : Int) ∧ l[i].2.1 = (ta : Int) ∧ fa < 8 ∧ ta < 8 := by
  obtain ⟨⟨a1, a2⟩, ⟨a3, a4⟩⟩ := hInv _ (List.getElem_mem hi)
  exact ⟨l[i].1.toNat, l[i].2.1.toNat, by omega, by omega, by omega, by omega⟩
theorem rDeliver_no (w : World) (g : Nat) (nodes : Int) (l : List Lb) (P : Nat → Bool) (i : Int) (h : nodeB (l.length : Int) i = false) :
    Turns Try.prog 17 #[.pointer (some ⟨g, 0, none⟩), .int .i64 i] (fun e => e = .returned (.tuple #[.agg #[.int .i64 0, .int .i64 0, .string ⟨#[]⟩], .int .i64 23])) (RNetAt g nodes l P) (RNetAt g nodes l P) w := by
  intro V hQ hV
  have hQ' := hQ
  obtain ⟨h1, A0, c0, D, h64, hN, hInv, hB, hI, hnc, hcm, h9⟩ := hQ
  have c1 : w.cell? ⟨g, 1, none⟩ = some (.slice A0 l.length c0) := hB.cell 1
  have hga : Grow w (w.alloc (.cells #[.int .i64 0, .int .i64 0, .string ⟨#[]⟩] 50)) := (Below.refl w.heap.size w).alloc (Nat.le_refl _) _
  have hBx0 := Blk.made w 50 #[.int .i64 0, .int .i64 0, .string ⟨#[]⟩]
  obtain ⟨x, HX⟩ : ∃ x : Nat, Hid (x = w.heap.size) := ⟨_, rfl⟩
  obtain ⟨wa, HA⟩ : ∃ wa : World, Hid (wa = w.alloc (.cells #[.int .i64 0, .int .i64 0, .string ⟨#[]⟩] 50)) := ⟨_, rfl⟩
  have hwz : wa.heap.size = x + 1 := by rw [HA.out, HX.out]; simp
  have craw := (hga.cell (p := ⟨g, 1, none⟩) hB.lt).trans c1
  rw [← HA.out] at hga
  have hBx : Blk wa x 50 #[.int .i64 0, .int .i64 0, .string ⟨#[]⟩] := by rw [HA.out, HX.out]; exact hBx0
  have hxw : w.heap.size ≤ x := by have := HX.out; omega
  clear hBx0
  have cq1 := (hga.cell (p := ⟨g, 1, none⟩) hB.lt).trans c1
  have f0 := hBx.frozen 0
  have f1 := hBx.frozen 1
  have f2 := hBx.frozen 2
  have x0 := hBx.cell 0
  have x1 := hBx.cell 1
  have x2 := hBx.cell 2
  by_cases hi : i < 0
  · go_enter Try.func17, Try.ntmps17
    go_wp2_with fail
    rw [← HA.out, ← HX.out]
    refine bodyPost_ret (v := .tuple #[.agg #[.int .i64 0, .int .i64 0, .string ⟨#[]⟩], .int .i64 23]) (by simp [results, Try.results17, go_sem, x0, x1, x2]) rfl ⟨rfl, RNetAt.wide (RNetAt.framed _ _ _ _ w _ V hQ' fun b hb => hga.block b (hV b hb)) (fun _ => .inl), Just.of_grow hga⟩
  · have hl := nodeB_off h hi
    go_enter Try.func17, Try.ntmps17
    go_wp2_with fail
    rw [← HA.out, ← HX.out]
    refine bodyPost_ret (v := .tuple #[.agg #[.int .i64 0, .int .i64 0, .string ⟨#[]⟩], .int .i64 23]) (by simp [results, Try.results17, go_sem, x0, x1, x2]) rfl ⟨rfl, RNetAt.wide (RNetAt.framed _ _ _ _ w _ V hQ' fun b hb => hga.block b (hV b hb)) (fun _ => .inl), Just.of_grow hga⟩
set_option maxRecDepth 20000 in
theorem rDeliver_cut (w : World) (g : Nat) (nodes : Int) (l : List Lb) (P : Nat → Bool) (i : Nat) (h : i < l.length) (hp0 : P (l[i].1.toNat * 8 + l[i].2.1.toNat) = true) :
    Turns Try.prog 17 #[.pointer (some ⟨g, 0, none⟩), .int .i64 (i : Int)] (fun e => e = .returned (.tuple #[.agg #[.int .i64 0, .int .i64 0, .string ⟨#[]⟩], .int .i64 26])) (RNetAt g nodes l P) (RNetAt g nodes l P) w := by
  intro V hQ hV
  have hQ' := hQ
  obtain ⟨h1, A0, c0, D, h64, hN, hInv, hB, hI, hnc, hcm, h9⟩ := hQ
  have c1 : w.cell? ⟨g, 1, none⟩ = some (.slice A0 l.length c0) := hB.cell 1
  have hl : ¬ (l.length : Int) ≤ (i : Int) := by omega
  have hi0 : ¬ (i : Int) < 0 := by omega
  obtain ⟨fa, ta, ef, et, hfa, hta⟩ := rnet_at hN hInv h
  have hp : P (fa * 8 + ta) = true := by rw [ef, et] at hp0; simpa using hp0
  have fa8 : ¬ (8 : Int) ≤ (fa : Int) := by omega
  have ta8 : ¬ (8 : Int) ≤ (ta : Int) := by omega
  obtain ⟨ad, hkq, rfl, _, hadB, e0, e12⟩ := hI.rec_ (by omega) rcell_len h
  have e0 := e0 _ rfl
  have e1 := e12 0 _ rfl
  clear e12 hp0
  have hga : Grow w (w.alloc (.cells #[.int .i64 0, .int .i64 0, .string ⟨#[]⟩] 50)) := (Below.refl w.heap.size w).alloc (Nat.le_refl _) _
  have hBx0 := Blk.made w 50 #[.int .i64 0, .int .i64 0, .string ⟨#[]⟩]
  obtain ⟨x, HX⟩ : ∃ x : Nat, Hid (x = w.heap.size) := ⟨_, rfl⟩
  obtain ⟨wa, HA⟩ : ∃ wa : World, Hid (wa = w.alloc (.cells #[.int .i64 0, .int .i64 0, .string ⟨#[]⟩] 50)) := ⟨_, rfl⟩
  have hwz : wa.heap.size = x + 1 := by rw [HA.out, HX.out]; simp
  have craw := (hga.cell (p := ⟨g, 1, none⟩) hB.lt).trans c1
  rw [← HA.out] at hga
  have hBx : Blk wa x 50 #[.int .i64 0, .int .i64 0, .string ⟨#[]⟩] := by rw [HA.out, HX.out]; exact hBx0
  have hxw : w.heap.size ≤ x := by have := HX.out; omega
  clear hBx0
  have ce0 := (hga.cell (p := ad.add (i * 3)) (by rw [block_add]; exact hadB)).trans e0
  have ce1 := (hga.cell (p := ⟨(ad.add (i * 3)).block, (ad.add (i * 3)).off + (0 + 1), none⟩) (by show (ad.add (i * 3)).block < _; rw [block_add]; exact hadB)).trans e1
  rw [ef] at ce0
  rw [et] at ce1
  have hBq := hB.grow hga
  have cq1 : wa.cell? ⟨g, 1, none⟩ = some (.slice (some ad) l.length c0) := hBq.cell 1
  have hadL : ad.block < wa.heap.size := Nat.lt_of_lt_of_le hadB hga.size
  go_enter Try.func17, Try.ntmps17
  go_wp2_with fail
  rw [← HA.out, ← HX.out]
  go_wp2_with fail
  refine wp_region_flow 22 44 [] rfl rfl (by kernel_rfl) (by kernel_rfl) (by kernel_rfl) ?_ ?_
  · intro x hx φ he
    cases hx
  intro ops' A' K' T hops hA' hK hT
  refine fl_mv 18 (by rfl) (by decide) (wanted_none (by rfl)) (by rw [hK.out]; rfl) (by rfl) _ (Or.inl (by rfl)) (.pointer (some ⟨g, 0, none⟩)) (by rfl) ?_
  refine fl_mv 19 (by rfl) (by decide) (wanted_none (by rfl)) (by rw [hK.out]; rfl) (by rfl) _ (Or.inl (by rfl)) (.pointer (some ⟨g, 0, none⟩)) (by rfl) ?_
  refine fl_op1 20 (by rfl) (by decide) (wanted_none (by rfl)) (by rw [hK.out]; rfl) (by rfl) (.tmp 19) (.pointer (some ⟨g, 0, none⟩)) (by rfl) (.pointer (some ⟨g, 0, none⟩)) (fun ρ h1 kk w1 (hg : Grow _ w1) hb hf => by go_simp) ?_
  refine fl_op1 21 (by rfl) (by decide) (wanted_none (by rfl)) (by rw [hK.out]; rfl) (by rfl) (.tmp 20) (.pointer (some ⟨g, 0, none⟩)) (by rfl) (.pointer (some ⟨g, 1, none⟩)) (fun ρ h1 kk w1 (hg : Grow _ w1) hb hf => by go_simp) ?_
  refine fl_op1 22 (by rfl) (by decide) (wanted_none (by rfl)) (by rw [hK.out]; rfl) (by rfl) (.tmp 21) (.pointer (some ⟨g, 1, none⟩)) (by rfl) (.slice (some ad) l.length c0) (fun ρ h1 kk w1 (hg : Grow _ w1) hb hf => by have c : w1.cell? ⟨g, 1, none⟩ = some (.slice (some ad) l.length c0) := (hBq.grow hg).cell 1; go_simp) ?_
  refine fl_mv 23 (by rfl) (by decide) (wanted_none (by rfl)) (by rw [hK.out]; rfl) (by rfl) _ (Or.inl (by rfl)) (.int .i64 (i : Int)) (by rfl) ?_
  refine fl_op2 24 (by rfl) (by decide) (wanted_none (by rfl)) (by rw [hK.out]; rfl) (by rfl) (.tmp 22) (.tmp 23) (.slice (some ad) l.length c0) (.int .i64 (i : Int)) (by rfl) (by rfl) (.pointer (some (ad.add (i * 3)))) (fun ρ h1 h2 kk w1 (hg : Grow _ w1) hb hf => by go_simp) ?_
  refine fl_op1 25 (by rfl) (by decide) (wanted_none (by rfl)) (by rw [hK.out]; rfl) (by rfl) (.tmp 24) (.pointer (some (ad.add (i * 3)))) (by rfl) (.pointer (some (ad.add (i * 3)))) (fun ρ h1 kk w1 (hg : Grow _ w1) hb hf => by go_simp) ?_
  refine fl_op1 26 (by rfl) (by decide) (wanted_none (by rfl)) (by rw [hK.out]; rfl) (by rfl) (.tmp 25) (.pointer (some (ad.add (i * 3)))) (by rfl) (.int .i64 (fa : Int)) (fun ρ h1 kk w1 (hg : Grow _ w1) hb hf => by have c := (hg.cell (p := ad.add (i * 3)) (by rw [block_add]; exact hadL)).trans ce0; go_simp) ?_
  refine fl_mv 27 (by rfl) (by decide) (wanted_none (by rfl)) (by rw [hK.out]; rfl) (by rfl) _ (Or.inl (by rfl)) (.pointer (some ⟨g, 0, none⟩)) (by rfl) ?_
  refine fl_op1 28 (by rfl) (by decide) (wanted_none (by rfl)) (by rw [hK.out]; rfl) (by rfl) (.tmp 27) (.pointer (some ⟨g, 0, none⟩)) (by rfl) (.pointer (some ⟨g, 0, none⟩)) (fun ρ h1 kk w1 (hg : Grow _ w1) hb hf => by go_simp) ?_
  refine fl_op1 29 (by rfl) (by decide) (wanted_none (by rfl)) (by rw [hK.out]; rfl) (by rfl) (.tmp 28) (.pointer (some ⟨g, 0, none⟩)) (by rfl) (.pointer (some ⟨g, 1, none⟩)) (fun ρ h1 kk w1 (hg : Grow _ w1) hb hf => by go_simp) ?_
  refine fl_op1 30 (by rfl) (by decide) (wanted_none (by rfl)) (by rw [hK.out]; rfl) (by rfl) (.tmp 29) (.pointer (some ⟨g, 1, none⟩)) (by rfl) (.slice (some ad) l.length c0) (fun ρ h1 kk w1 (hg : Grow _ w1) hb hf => by have c : w1.cell? ⟨g, 1, none⟩ = some (.slice (some ad) l.length c0) := (hBq.grow hg).cell 1; go_simp) ?_
  refine fl_mv 31 (by rfl) (by decide) (wanted_none (by rfl)) (by rw [hK.out]; rfl) (by rfl) _ (Or.inl (by rfl)) (.int .i64 (i : Int)) (by rfl) ?_
  refine fl_op2 32 (by rfl) (by decide) (wanted_none (by rfl)) (by rw [hK.out]; rfl) (by rfl) (.tmp 30) (.tmp 31) (.slice (some ad) l.length c0) (.int .i64 (i : Int)) (by rfl) (by rfl) (.pointer (some (ad.add (i * 3)))) (fun ρ h1 h2 kk w1 (hg : Grow _ w1) hb hf => by go_simp) ?_
  refine fl_op1 33 (by rfl) (by decide) (wanted_none (by rfl)) (by rw [hK.out]; rfl) (by rfl) (.tmp 32) (.pointer (some (ad.add (i * 3)))) (by rfl) (.pointer (some ⟨(ad.add (i * 3)).block, (ad.add (i * 3)).off + 1, none⟩)) (fun ρ h1 kk w1 (hg : Grow _ w1) hb hf => by go_simp) ?_
  refine fl_op1 34 (by rfl) (by decide) (wanted_none (by rfl)) (by rw [hK.out]; rfl) (by rfl) (.tmp 33) (.pointer (some ⟨(ad.add (i * 3)).block, (ad.add (i * 3)).off + 1, none⟩)) (by rfl) (.int .i64 (ta : Int)) (fun ρ h1 kk w1 (hg : Grow _ w1) hb hf => by have c := (hg.cell (p := ⟨(ad.add (i * 3)).block, (ad.add (i * 3)).off + 1, none⟩) (by show (ad.add (i * 3)).block < _; rw [block_add]; exact hadL)).trans ce1; go_simp) ?_
  refine fl_op1 35 (by rfl) (by decide) (wanted_none (by rfl)) (by rw [hK.out]; rfl) (by rfl) (.tmp 18) (.pointer (some ⟨g, 0, none⟩)) (by rfl) (.pointer (some ⟨g, 0, none⟩)) (fun ρ h1 kk w1 (hg : Grow _ w1) hb hf => by go_simp) ?_
  refine fl_op1 36 (by rfl) (by decide) (wanted_none (by rfl)) (by rw [hK.out]; rfl) (by rfl) (.tmp 35) (.pointer (some ⟨g, 0, none⟩)) (by rfl) (.pointer (some ⟨g, 2, none⟩)) (fun ρ h1 kk w1 (hg : Grow _ w1) hb hf => by go_simp) ?_
  refine fl_op2 37 (by rfl) (by decide) (wanted_none (by rfl)) (by rw [hK.out]; rfl) (by rfl) (.tmp 36) (.tmp 26) (.pointer (some ⟨g, 2, none⟩)) (.int .i64 (fa : Int)) (by rfl) (by rfl) (.pointer (some ⟨g, 2 + fa * 8, none⟩)) (fun ρ h1 h2 kk w1 (hg : Grow _ w1) hb hf => by go_simp) ?_
  refine fl_op2 38 (by rfl) (by decide) (wanted_none (by rfl)) (by rw [hK.out]; rfl) (by rfl) (.tmp 37) (.tmp 34) (.pointer (some ⟨g, 2 + fa * 8, none⟩)) (.int .i64 (ta : Int)) (by rfl) (by rfl) (.pointer (some ⟨g, 2 + fa * 8 + ta, none⟩)) (fun ρ h1 h2 kk w1 (hg : Grow _ w1) hb hf => by go_simp) ?_
  refine fl_op1 39 (by rfl) (by decide) (wanted_none (by rfl)) (by rw [hK.out]; rfl) (by rfl) (.tmp 38) (.pointer (some ⟨g, 2 + fa * 8 + ta, none⟩)) (by rfl) (.bool true) (fun ρ h1 kk w1 (hg : Grow _ w1) hb hf => by have c := (hBq.grow hg).cell (2 + fa * 8 + ta); rw [Nat.add_assoc, netc_p _ _ _ (by omega), hp] at c; rw [← Nat.add_assoc] at c; go_simp) ?_
  refine fl_end (fun _ _ w1 (hg : Grow _ w1) _ hfacts => hT _ _ ?_)
  clear hops hA' hK hT
  simp only [putsL, Act.put, List.setIfInBounds_toArray, List.set_cons_zero, List.set_cons_succ, List.drop_succ_cons, List.drop_zero]
  have hBx1 := hBx.grow hg
  have f0 := hBx1.frozen 0
  have f1 := hBx1.frozen 1
  have f2 := hBx1.frozen 2
  have x0 := hBx1.cell 0
  have x1 := hBx1.cell 1
  have x2 := hBx1.cell 2
  go_wp2_with fail
  have hE := ((hBx1.put 0 (.int .i64 0)).put 1 (.int .i64 0)).put 2 (.string ⟨#[]⟩)
  have e0 := hE.cell 0
  have e1 := hE.cell 1
  have e2 := hE.cell 2
  have hj : Just (fun b => b = x) w1 (((w1.setCell ⟨x, 0, none⟩ (.int .i64 0)).setCell ⟨x, 1, none⟩ (.int .i64 0)).setCell ⟨x, 2, none⟩ (.string ⟨#[]⟩)) :=
    (((Just.of_grow (Grow.refl w1)).put (V := fun b => b = x) rfl 0 _).put rfl 1 _).put rfl 2 _
  have hgw : Grow w (((w1.setCell ⟨x, 0, none⟩ (.int .i64 0)).setCell ⟨x, 1, none⟩ (.int .i64 0)).setCell ⟨x, 2, none⟩ (.string ⟨#[]⟩)) := Below.trans (hga.trans hg) (hj.below (B := w.heap.size) (fun b hb => by rw [hb]; exact hxw) (hga.trans hg).size)
  refine bodyPost_ret (v := .tuple #[.agg #[.int .i64 0, .int .i64 0, .string ⟨#[]⟩], .int .i64 26]) (by simp [results, Try.results17, go_sem, e0, e1, e2]) rfl ⟨rfl, RNetAt.wide (RNetAt.framed _ _ _ _ w _ V hQ' fun b hb => hgw.block b (hV b hb)) (fun _ => .inl), Just.of_grow hgw⟩
set_option maxRecDepth 20000 in
theorem rDeliver_yes (w : World) (g : Nat) (nodes : Int) (l : List Lb) (P : Nat → Bool) (i : Nat) (h : i < l.length) (hp0 : P (l[i].1.toNat * 8 + l[i].2.1.toNat) = false) :
    Turns Try.prog 17 #[.pointer (some ⟨g, 0, none⟩), .int .i64 (i : Int)] (fun e => e = .returned (.tuple #[.agg #[.int .i64 l[i].1, .int .i64 l[i].2.1, .string ⟨l[i].2.2.toArray⟩], .int .i64 0])) (RNetAt g nodes l P) (RNetAt g nodes (minus l i) P) w := by
  intro V hQ hV
  have hQ' := hQ
  obtain ⟨h1, A0, c0, D, h64, hN, hInv, hB, hI, hnc, hcm, h9⟩ := hQ
  have c1 : w.cell? ⟨g, 1, none⟩ = some (.slice A0 l.length c0) := hB.cell 1
  have hl : ¬ (l.length : Int) ≤ (i : Int) := by omega
  have hi0 : ¬ (i : Int) < 0 := by omega
  obtain ⟨fa, ta, ef, et, hfa, hta⟩ := rnet_at hN hInv h
  have hp : P (fa * 8 + ta) = false := by rw [ef, et] at hp0; simpa using hp0
  have fa8 : ¬ (8 : Int) ≤ (fa : Int) := by omega
  have ta8 : ¬ (8 : Int) ≤ (ta : Int) := by omega
  have hs := fun w1 => rOut_any w1 g nodes l P i h V
  simp only [ef, et] at hs ⊢
  generalize l[i].2.2 = bs at hs ⊢
  obtain ⟨ad, hkq, rfl, _, hadB, e0, e12⟩ := hI.rec_ (by omega) rcell_len h
  have e0 := e0 _ rfl
  have e1 := e12 0 _ rfl
  clear e12 hp0
  have hga : Grow w (w.alloc (.cells #[.int .i64 0, .int .i64 0, .string ⟨#[]⟩] 50)) := (Below.refl w.heap.size w).alloc (Nat.le_refl _) _
  have hBx0 := Blk.made w 50 #[.int .i64 0, .int .i64 0, .string ⟨#[]⟩]
  obtain ⟨x, HX⟩ : ∃ x : Nat, Hid (x = w.heap.size) := ⟨_, rfl⟩
  obtain ⟨wa, HA⟩ : ∃ wa : World, Hid (wa = w.alloc (.cells #[.int .i64 0, .int .i64 0, .string ⟨#[]⟩] 50)) := ⟨_, rfl⟩
  have hwz : wa.heap.size = x + 1 := by rw [HA.out, HX.out]; simp
  have craw := (hga.cell (p := ⟨g, 1, none⟩) hB.lt).trans c1
  rw [← HA.out] at hga
  have hBx : Blk wa x 50 #[.int .i64 0, .int .i64 0, .string ⟨#[]⟩] := by rw [HA.out, HX.out]; exact hBx0
  have hxw : w.heap.size ≤ x := by have := HX.out; omega
  clear hBx0
  have ce0 := (hga.cell (p := ad.add (i * 3)) (by rw [block_add]; exact hadB)).trans e0
  have ce1 := (hga.cell (p := ⟨(ad.add (i * 3)).block, (ad.add (i * 3)).off + (0 + 1), none⟩) (by show (ad.add (i * 3)).block < _; rw [block_add]; exact hadB)).trans e1
  rw [ef] at ce0
  rw [et] at ce1
  have hBq := hB.grow hga
  have cq1 : wa.cell? ⟨g, 1, none⟩ = some (.slice (some ad) l.length c0) := hBq.cell 1
  have hadL : ad.block < wa.heap.size := Nat.lt_of_lt_of_le hadB hga.size
  go_enter Try.func17, Try.ntmps17
  go_wp2_with fail
  rw [← HA.out, ← HX.out]
  go_wp2_with fail
  refine wp_region_flow 22 44 [] rfl rfl (by kernel_rfl) (by kernel_rfl) (by kernel_rfl) ?_ ?_
  · intro x hx φ he
    cases hx
  intro ops' A' K' T hops hA' hK hT
  refine fl_mv 18 (by rfl) (by decide) (wanted_none (by rfl)) (by rw [hK.out]; rfl) (by rfl) _ (Or.inl (by rfl)) (.pointer (some ⟨g, 0, none⟩)) (by rfl) ?_
  refine fl_mv 19 (by rfl) (by decide) (wanted_none (by rfl)) (by rw [hK.out]; rfl) (by rfl) _ (Or.inl (by rfl)) (.pointer (some ⟨g, 0, none⟩)) (by rfl) ?_
  refine fl_op1 20 (by rfl) (by decide) (wanted_none (by rfl)) (by rw [hK.out]; rfl) (by rfl) (.tmp 19) (.pointer (some ⟨g, 0, none⟩)) (by rfl) (.pointer (some ⟨g, 0, none⟩)) (fun ρ h1 kk w1 (hg : Grow _ w1) hb hf => by go_simp) ?_
  refine fl_op1 21 (by rfl) (by decide) (wanted_none (by rfl)) (by rw [hK.out]; rfl) (by rfl) (.tmp 20) (.pointer (some ⟨g, 0, none⟩)) (by rfl) (.pointer (some ⟨g, 1, none⟩)) (fun ρ h1 kk w1 (hg : Grow _ w1) hb hf => by go_simp) ?_
  refine fl_op1 22 (by rfl) (by decide) (wanted_none (by rfl)) (by rw [hK.out]; rfl) (by rfl) (.tmp 21) (.pointer (some ⟨g, 1, none⟩)) (by rfl) (.slice (some ad) l.length c0) (fun ρ h1 kk w1 (hg : Grow _ w1) hb hf => by have c : w1.cell? ⟨g, 1, none⟩ = some (.slice (some ad) l.length c0) := (hBq.grow hg).cell 1; go_simp) ?_
  refine fl_mv 23 (by rfl) (by decide) (wanted_none (by rfl)) (by rw [hK.out]; rfl) (by rfl) _ (Or.inl (by rfl)) (.int .i64 (i : Int)) (by rfl) ?_
  refine fl_op2 24 (by rfl) (by decide) (wanted_none (by rfl)) (by rw [hK.out]; rfl) (by rfl) (.tmp 22) (.tmp 23) (.slice (some ad) l.length c0) (.int .i64 (i : Int)) (by rfl) (by rfl) (.pointer (some (ad.add (i * 3)))) (fun ρ h1 h2 kk w1 (hg : Grow _ w1) hb hf => by go_simp) ?_
  refine fl_op1 25 (by rfl) (by decide) (wanted_none (by rfl)) (by rw [hK.out]; rfl) (by rfl) (.tmp 24) (.pointer (some (ad.add (i * 3)))) (by rfl) (.pointer (some (ad.add (i * 3)))) (fun ρ h1 kk w1 (hg : Grow _ w1) hb hf => by go_simp) ?_
  refine fl_op1 26 (by rfl) (by decide) (wanted_none (by rfl)) (by rw [hK.out]; rfl) (by rfl) (.tmp 25) (.pointer (some (ad.add (i * 3)))) (by rfl) (.int .i64 (fa : Int)) (fun ρ h1 kk w1 (hg : Grow _ w1) hb hf => by have c := (hg.cell (p := ad.add (i * 3)) (by rw [block_add]; exact hadL)).trans ce0; go_simp) ?_
  refine fl_mv 27 (by rfl) (by decide) (wanted_none (by rfl)) (by rw [hK.out]; rfl) (by rfl) _ (Or.inl (by rfl)) (.pointer (some ⟨g, 0, none⟩)) (by rfl) ?_
  refine fl_op1 28 (by rfl) (by decide) (wanted_none (by rfl)) (by rw [hK.out]; rfl) (by rfl) (.tmp 27) (.pointer (some ⟨g, 0, none⟩)) (by rfl) (.pointer (some ⟨g, 0, none⟩)) (fun ρ h1 kk w1 (hg : Grow _ w1) hb hf => by go_simp) ?_
  refine fl_op1 29 (by rfl) (by decide) (wanted_none (by rfl)) (by rw [hK.out]; rfl) (by rfl) (.tmp 28) (.pointer (some ⟨g, 0, none⟩)) (by rfl) (.pointer (some ⟨g, 1, none⟩)) (fun ρ h1 kk w1 (hg : Grow _ w1) hb hf => by go_simp) ?_
  refine fl_op1 30 (by rfl) (by decide) (wanted_none (by rfl)) (by rw [hK.out]; rfl) (by rfl) (.tmp 29) (.pointer (some ⟨g, 1, none⟩)) (by rfl) (.slice (some ad) l.length c0) (fun ρ h1 kk w1 (hg : Grow _ w1) hb hf => by have c : w1.cell? ⟨g, 1, none⟩ = some (.slice (some ad) l.length c0) := (hBq.grow hg).cell 1; go_simp) ?_
  refine fl_mv 31 (by rfl) (by decide) (wanted_none (by rfl)) (by rw [hK.out]; rfl) (by rfl) _ (Or.inl (by rfl)) (.int .i64 (i : Int)) (by rfl) ?_
  refine fl_op2 32 (by rfl) (by decide) (wanted_none (by rfl)) (by rw [hK.out]; rfl) (by rfl) (.tmp 30) (.tmp 31) (.slice (some ad) l.length c0) (.int .i64 (i : Int)) (by rfl) (by rfl) (.pointer (some (ad.add (i * 3)))) (fun ρ h1 h2 kk w1 (hg : Grow _ w1) hb hf => by go_simp) ?_
  refine fl_op1 33 (by rfl) (by decide) (wanted_none (by rfl)) (by rw [hK.out]; rfl) (by rfl) (.tmp 32) (.pointer (some (ad.add (i * 3)))) (by rfl) (.pointer (some ⟨(ad.add (i * 3)).block, (ad.add (i * 3)).off + 1, none⟩)) (fun ρ h1 kk w1 (hg : Grow _ w1) hb hf => by go_simp) ?_
  refine fl_op1 34 (by rfl) (by decide) (wanted_none (by rfl)) (by rw [hK.out]; rfl) (by rfl) (.tmp 33) (.pointer (some ⟨(ad.add (i * 3)).block, (ad.add (i * 3)).off + 1, none⟩)) (by rfl) (.int .i64 (ta : Int)) (fun ρ h1 kk w1 (hg : Grow _ w1) hb hf => by have c := (hg.cell (p := ⟨(ad.add (i * 3)).block, (ad.add (i * 3)).off + 1, none⟩) (by show (ad.add (i * 3)).block < _; rw [block_add]; exact hadL)).trans ce1; go_simp) ?_
  refine fl_op1 35 (by rfl) (by decide) (wanted_none (by rfl)) (by rw [hK.out]; rfl) (by rfl) (.tmp 18) (.pointer (some ⟨g, 0, none⟩)) (by rfl) (.pointer (some ⟨g, 0, none⟩)) (fun ρ h1 kk w1 (hg : Grow _ w1) hb hf => by go_simp) ?_
  refine fl_op1 36 (by rfl) (by decide) (wanted_none (by rfl)) (by rw [hK.out]; rfl) (by rfl) (.tmp 35) (.pointer (some ⟨g, 0, none⟩)) (by rfl) (.pointer (some ⟨g, 2, none⟩)) (fun ρ h1 kk w1 (hg : Grow _ w1) hb hf => by go_simp) ?_
  refine fl_op2 37 (by rfl) (by decide) (wanted_none (by rfl)) (by rw [hK.out]; rfl) (by rfl) (.tmp 36) (.tmp 26) (.pointer (some ⟨g, 2, none⟩)) (.int .i64 (fa : Int)) (by rfl) (by rfl) (.pointer (some ⟨g, 2 + fa * 8, none⟩)) (fun ρ h1 h2 kk w1 (hg : Grow _ w1) hb hf => by go_simp) ?_
  refine fl_op2 38 (by rfl) (by decide) (wanted_none (by rfl)) (by rw [hK.out]; rfl) (by rfl) (.tmp 37) (.tmp 34) (.pointer (some ⟨g, 2 + fa * 8, none⟩)) (.int .i64 (ta : Int)) (by rfl) (by rfl) (.pointer (some ⟨g, 2 + fa * 8 + ta, none⟩)) (fun ρ h1 h2 kk w1 (hg : Grow _ w1) hb hf => by go_simp) ?_
  refine fl_op1 39 (by rfl) (by decide) (wanted_none (by rfl)) (by rw [hK.out]; rfl) (by rfl) (.tmp 38) (.pointer (some ⟨g, 2 + fa * 8 + ta, none⟩)) (by rfl) (.bool false) (fun ρ h1 kk w1 (hg : Grow _ w1) hb hf => by have c := (hBq.grow hg).cell (2 + fa * 8 + ta); rw [Nat.add_assoc, netc_p _ _ _ (by omega), hp] at c; rw [← Nat.add_assoc] at c; go_simp) ?_
  refine fl_end (fun _ _ w1 (hg : Grow _ w1) _ hfacts => hT _ _ ?_)
  clear hops hA' hK hT
  simp only [putsL, Act.put, List.setIfInBounds_toArray, List.set_cons_zero, List.set_cons_succ, List.drop_succ_cons, List.drop_zero]
  have hg1 := hga.trans hg
  have hQ1 : RNetAt g nodes l P w1 V := RNetAt.framed _ _ _ _ w _ V hQ' fun b hb => hg1.block b (hV b hb)
  have hxV : ¬ V x := fun h => by have := hV x h; omega
  have hs1 := hs w1 hQ1 fun b hb => Nat.lt_of_lt_of_le (hV b hb) hg1.size
  clear hs
  go_wp2_with fail
  refine hs1.mono ?_
  rintro e w2 ⟨rfl, hN2, hj2⟩
  have hBx2 := hj2.blk (hBx.grow hg) hxV
  have hxl := hBx2.lt
  have f0 := hBx2.frozen 0
  have f1 := hBx2.frozen 1
  have f2 := hBx2.frozen 2
  have x0 := hBx2.cell 0
  have x1 := hBx2.cell 1
  have x2 := hBx2.cell 2
  go_wp2_with fail
  have hE := ((hBx2.put 0 (.int .i64 (fa : Int))).put 1 (.int .i64 (ta : Int))).put 2 (.string ⟨bs.toArray⟩)
  have e0 := hE.cell 0
  have e1 := hE.cell 1
  have e2 := hE.cell 2
  have hj : Just (fun b => b = x) w2 (((w2.setCell ⟨x, 0, none⟩ (.int .i64 (fa : Int))).setCell ⟨x, 1, none⟩ (.int .i64 (ta : Int))).setCell ⟨x, 2, none⟩ (.string ⟨bs.toArray⟩)) :=
    (((Just.of_grow (Grow.refl w2)).put (V := fun b => b = x) rfl 0 _).put rfl 1 _).put rfl 2 _
  refine bodyPost_ret (v := .tuple #[.agg #[.int .i64 (fa : Int), .int .i64 (ta : Int), .string ⟨bs.toArray⟩], .int .i64 0]) (by simp [results, Try.results17, go_sem, e0, e1, e2]) rfl ⟨rfl, ?_, ?_⟩
  · have hsz : ((((w2.setCell ⟨x, 0, none⟩ (.int .i64 (fa : Int))).setCell ⟨x, 1, none⟩ (.int .i64 (ta : Int))).setCell ⟨x, 2, none⟩ (.string ⟨bs.toArray⟩))).heap.size = w2.heap.size := by rw [setCell_size, setCell_size, setCell_size]
    have hx1 : x < w1.heap.size := by have := hg.size; omega
    have hxU : ¬ Ext V w1 w2 x := fun h => by
      rcases h with h | ⟨h, _⟩
      · exact hxV h
      · omega
    refine RNetAt.wide (RNetAt.framed _ _ _ _ w2 _ _ hN2 fun b hb => hj.block b ?_ fun h => ?_) fun b hb => ?_
    · have h2 := hj2.size
      rcases hb with hb | ⟨_, hb⟩
      · have := hV b hb; have := hg1.size; omega
      · exact hb
    · rw [show b = x from h] at hb; exact hxU hb
    · rcases hb with hb | ⟨hb, hb2⟩
      · exact .inl hb
      · exact .inr ⟨by have := hg1.size; omega, by rw [hsz]; exact hb2⟩
  · have hs12 := hj2.size
    have hg1s := hg1.size
    exact ⟨hj.os.trans (hj2.os.trans hg1.os), hj.tape.trans (hj2.tape.trans hg1.tape), hj.output.trans (hj2.output.trans hg1.output), Nat.le_trans (Nat.le_trans hg1s hs12) hj.size, fun k hk hv => ((hj.block k (by omega) (fun h => by rw [show k = x from h] at hk; omega)).trans (hj2.block k (by omega) hv)).trans (hg1.block k hk)⟩
end Go.Proofs.Ytacigekkfgeipaa
