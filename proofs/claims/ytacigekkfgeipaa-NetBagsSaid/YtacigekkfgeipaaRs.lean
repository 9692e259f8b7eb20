/- The answer's Send. -/
import Derived.Test.YtacigekkfgeipaaRn
namespace Go.Proofs.Ytacigekkfgeipaa
open Go.RowKit Go.Hop
set_option maxRecDepth 20000 in
theorem rSend_a (w : World) (g : Nat) (nodes : Int) (l : List Lb) (P : Nat → Bool) (f t : Int) (bs : List UInt8) (hf : nodeB nodes f = false) :
    Turns Try.prog 22 #[.pointer (some ⟨g, 0, none⟩), .agg #[.int .i64 f, .int .i64 t, .string ⟨bs.toArray⟩]] (fun e => e = .returned (.int .i64 23)) (RNetAt g nodes l P) (RNetAt g nodes l P) w := by
  intro V hQ hV
  have hQ' := hQ
  obtain ⟨h1, A0, c0, D, h64, hN, hInv, hB, hI, hnc, hcm, h9⟩ := hQ
  have hga : Grow w (w.alloc (.cells #[.int .i64 f, .int .i64 t, .string ⟨bs.toArray⟩] 50)) := (Below.refl w.heap.size w).alloc (Nat.le_refl _) _
  have hBx0 := Blk.made w 50 #[.int .i64 f, .int .i64 t, .string ⟨bs.toArray⟩]
  obtain ⟨x, HX⟩ : ∃ x : Nat, Hid (x = w.heap.size) := ⟨_, rfl⟩
  obtain ⟨wa, HA⟩ : ∃ wa : World, Hid (wa = w.alloc (.cells #[.int .i64 f, .int .i64 t, .string ⟨bs.toArray⟩] 50)) := ⟨_, rfl⟩
  have HSA : Hid (wa.heap.size = x + 1) := Lib.hid (by rw [HA.out, HX.out]; simp)
  rw [← HA.out] at hga
  have hBx : Blk wa x 50 #[.int .i64 f, .int .i64 t, .string ⟨bs.toArray⟩] := by rw [HA.out, HX.out]; exact hBx0
  clear hBx0
  have hBq := hB.grow hga
  have x1 := hBx.cell 1
  have cq1 : wa.cell? ⟨g, 1, none⟩ = some (.slice A0 l.length c0) := hBq.cell 1
  go_enter Try.func22, Try.ntmps22
  go_wp2_with fail
  rw [← HA.out, ← HX.out]
  go_wp2_with (go_at_call 30; refine (rin_any wa g nodes _ _ _ hBq).mono ?_; rintro e w2 ⟨rfl, hw2⟩; subst hw2)
  go_ret
  exact ⟨rfl, RNetAt.wide (RNetAt.framed _ _ _ _ w _ V hQ' fun b hb => hga.block b (hV b hb)) (fun _ => .inl), Just.of_grow hga⟩
set_option maxRecDepth 20000 in
theorem rSend_b (w : World) (g : Nat) (nodes : Int) (l : List Lb) (P : Nat → Bool) (f t : Int) (bs : List UInt8) (hf : nodeB nodes f = true) (ht : nodeB nodes t = false) :
    Turns Try.prog 22 #[.pointer (some ⟨g, 0, none⟩), .agg #[.int .i64 f, .int .i64 t, .string ⟨bs.toArray⟩]] (fun e => e = .returned (.int .i64 23)) (RNetAt g nodes l P) (RNetAt g nodes l P) w := by
  intro V hQ hV
  have hQ' := hQ
  obtain ⟨h1, A0, c0, D, h64, hN, hInv, hB, hI, hnc, hcm, h9⟩ := hQ
  have hga : Grow w (w.alloc (.cells #[.int .i64 f, .int .i64 t, .string ⟨bs.toArray⟩] 50)) := (Below.refl w.heap.size w).alloc (Nat.le_refl _) _
  have hBx0 := Blk.made w 50 #[.int .i64 f, .int .i64 t, .string ⟨bs.toArray⟩]
  obtain ⟨x, HX⟩ : ∃ x : Nat, Hid (x = w.heap.size) := ⟨_, rfl⟩
  obtain ⟨wa, HA⟩ : ∃ wa : World, Hid (wa = w.alloc (.cells #[.int .i64 f, .int .i64 t, .string ⟨bs.toArray⟩] 50)) := ⟨_, rfl⟩
  have HSA : Hid (wa.heap.size = x + 1) := Lib.hid (by rw [HA.out, HX.out]; simp)
  rw [← HA.out] at hga
  have hBx : Blk wa x 50 #[.int .i64 f, .int .i64 t, .string ⟨bs.toArray⟩] := by rw [HA.out, HX.out]; exact hBx0
  clear hBx0
  have hBq := hB.grow hga
  have x1 := hBx.cell 1
  have cq1 : wa.cell? ⟨g, 1, none⟩ = some (.slice A0 l.length c0) := hBq.cell 1
  go_enter Try.func22, Try.ntmps22
  go_wp2_with fail
  rw [← HA.out, ← HX.out]
  go_wp2_with (go_at_call 30; refine (rin_any wa g nodes _ _ _ hBq).mono ?_; rintro e w2 ⟨rfl, hw2⟩; subst hw2)
  go_ret
  exact ⟨rfl, RNetAt.wide (RNetAt.framed _ _ _ _ w _ V hQ' fun b hb => hga.block b (hV b hb)) (fun _ => .inl), Just.of_grow hga⟩
set_option maxRecDepth 20000 in
theorem rSend_full (w : World) (g : Nat) (nodes : Int) (l : List Lb) (P : Nat → Bool) (f t : Int) (bs : List UInt8) (hf : nodeB nodes f = true) (ht : nodeB nodes t = true) (hl : 64 ≤ l.length) :
    Turns Try.prog 22 #[.pointer (some ⟨g, 0, none⟩), .agg #[.int .i64 f, .int .i64 t, .string ⟨bs.toArray⟩]] (fun e => e = .returned (.int .i64 24)) (RNetAt g nodes l P) (RNetAt g nodes l P) w := by
  intro V hQ hV
  have hQ' := hQ
  obtain ⟨h1, A0, c0, D, h64, hN, hInv, hB, hI, hnc, hcm, h9⟩ := hQ
  have hga : Grow w (w.alloc (.cells #[.int .i64 f, .int .i64 t, .string ⟨bs.toArray⟩] 50)) := (Below.refl w.heap.size w).alloc (Nat.le_refl _) _
  have hBx0 := Blk.made w 50 #[.int .i64 f, .int .i64 t, .string ⟨bs.toArray⟩]
  obtain ⟨x, HX⟩ : ∃ x : Nat, Hid (x = w.heap.size) := ⟨_, rfl⟩
  obtain ⟨wa, HA⟩ : ∃ wa : World, Hid (wa = w.alloc (.cells #[.int .i64 f, .int .i64 t, .string ⟨bs.toArray⟩] 50)) := ⟨_, rfl⟩
  have HSA : Hid (wa.heap.size = x + 1) := Lib.hid (by rw [HA.out, HX.out]; simp)
  rw [← HA.out] at hga
  have hBx : Blk wa x 50 #[.int .i64 f, .int .i64 t, .string ⟨bs.toArray⟩] := by rw [HA.out, HX.out]; exact hBx0
  clear hBx0
  have hBq := hB.grow hga
  have x1 := hBx.cell 1
  have cq1 : wa.cell? ⟨g, 1, none⟩ = some (.slice A0 l.length c0) := hBq.cell 1
  go_enter Try.func22, Try.ntmps22
  go_wp2_with fail
  rw [← HA.out, ← HX.out]
  go_wp2_with (go_at_call 30; refine (rin_any wa g nodes _ _ _ hBq).mono ?_; rintro e w2 ⟨rfl, hw2⟩; subst hw2)
  go_ret
  exact ⟨rfl, RNetAt.wide (RNetAt.framed _ _ _ _ w _ V hQ' fun b hb => hga.block b (hV b hb)) (fun _ => .inl), Just.of_grow hga⟩
set_option maxRecDepth 20000 in
theorem rSend_ok (w : World) (g : Nat) (nodes : Int) (l : List Lb) (P : Nat → Bool) (f t : Int) (bs : List UInt8) (hf : nodeB nodes f = true) (ht : nodeB nodes t = true) (hl : l.length < 64) :
    Turns Try.prog 22 #[.pointer (some ⟨g, 0, none⟩), .agg #[.int .i64 f, .int .i64 t, .string ⟨bs.toArray⟩]] (fun e => e = .returned (.int .i64 0)) (RNetAt g nodes l P) (RNetAt g nodes (l ++ [(f, t, bs)]) P) w := by
  intro V hQ hV
  have hQ' := hQ
  obtain ⟨h1, A0, c0, D, h64, hN, hInv, hB, hI, hnc, hcm, h9⟩ := hQ
  have hga : Grow w (w.alloc (.cells #[.int .i64 f, .int .i64 t, .string ⟨bs.toArray⟩] 50)) := (Below.refl w.heap.size w).alloc (Nat.le_refl _) _
  have hBx0 := Blk.made w 50 #[.int .i64 f, .int .i64 t, .string ⟨bs.toArray⟩]
  obtain ⟨x, HX⟩ : ∃ x : Nat, Hid (x = w.heap.size) := ⟨_, rfl⟩
  obtain ⟨wa, HA⟩ : ∃ wa : World, Hid (wa = w.alloc (.cells #[.int .i64 f, .int .i64 t, .string ⟨bs.toArray⟩] 50)) := ⟨_, rfl⟩
  have HSA : Hid (wa.heap.size = x + 1) := Lib.hid (by rw [HA.out, HX.out]; simp)
  rw [← HA.out] at hga
  have hBx : Blk wa x 50 #[.int .i64 f, .int .i64 t, .string ⟨bs.toArray⟩] := by rw [HA.out, HX.out]; exact hBx0
  clear hBx0
  have hBq := hB.grow hga
  have x1 := hBx.cell 1
  have cq1 : wa.cell? ⟨g, 1, none⟩ = some (.slice A0 l.length c0) := hBq.cell 1
  go_enter Try.func22, Try.ntmps22
  go_wp2_with fail
  rw [← HA.out, ← HX.out]
  go_wp2_with (go_at_call 30; refine (rin_any wa g nodes _ _ _ hBq).mono ?_; rintro e w2 ⟨rfl, hw2⟩; subst hw2)
  have hIa := hI.grow hga
  have hgas := hga.size
  have hgl := hB.lt
  have hxw : w.heap.size ≤ x := by have := HX.out; omega
  obtain ⟨B, HBd⟩ : ∃ B : Nat, Hid (B = wa.heap.size) := ⟨_, rfl⟩
  have HB : ∀ w1, Just (FromB B) wa w1 → B ≤ w1.heap.size := fun w1 h => HBd.out ▸ h.size
  have hgB : ¬ FromB B g := fun h => by have : B ≤ g := h; have := HBd.out; omega
  have hxB : ¬ FromB B x := fun h => by have h2 : B ≤ x := h; have := HBd.out; have := HSA.out; omega
  have hDB : ∀ b, D b → ¬ FromB B b := fun b hb h => by have := hV b (h9 b hb).1; have : B ≤ b := h; have := HBd.out; omega
  have hI1 : ∀ w1, Just (FromB B) wa w1 → Reads w1 w1.heap.size 3 A0 l.length (l.flatMap rcell) := fun w1 hj => (hIa.just hj hDB).reads
  refine wp_region_reg rfl ?_
  refine reg_flow (MonoSt B 9 [(6, 0)]) (monoSt_ok B 9 [(6, 0)]) 0 10 35 [(1, .inr (KF 0 (EmptyF B 50 3))), (6, .inr (KF 0 (OwnF B 50 3 l.length (l.flatMap rcell)))), (8, .inr (KF 0 (ReadF 3 1 (rcell (f, t, bs))))), (9, .inr (KF 1 (OwnF B 50 3 (l.length + 1) (l.flatMap rcell ++ rcell (f, t, bs)))))] rfl (by kernel_rfl) (by kernel_rfl) (by kernel_rfl) ?_ (Just.of_grow (Grow.refl _).drew) trivial ?_
  · intro x hx φ he
    simp only [List.mem_cons, List.not_mem_nil, or_false] at hx
    rcases hx with rfl | rfl | rfl | rfl <;> cases he
    all_goals first | exact lasts_quiet (lasting_bytes _) | exact kf_lasts (ownF_lasting _ _ _ _ _) _ | exact kf_lasts (emptyF_lasting _ _ _) _ | exact kf_lasts (readF_lasting _ _ _) _
  intro ops' A' K' T hops hA' hK hT
  refine fl_mv 23 (by rfl) (by decide) (wanted_none (by rfl)) (by rw [hK.out]; rfl) (by rfl) _ (Or.inl (by rfl)) (.pointer (some ⟨g, 0, none⟩)) (by rfl) ?_
  refine fl_any 24 (by rfl) (by decide) (wanted_none (by rfl)) (KF 0 (EmptyF B 50 3)) (by rw [hK.out]; rfl) (fun kk w1 (hg : Just (FromB B) _ w1) hb hf => by refine upon_behindAny (φ := KF 0 (EmptyF B 50 3)) (by rfl) ?_; exact upon_imp (empty_made rletterE (HB w1 hg) rfl) fun u w2 h => ⟨h.1, early_of h.2⟩) (fun v24 => ?_)
  refine fl_mv 25 (by rfl) (by decide) (wanted_none (by rfl)) (by rw [hK.out]; rfl) (by rfl) _ (Or.inl (by rfl)) (.pointer (some ⟨g, 0, none⟩)) (by rfl) ?_
  refine fl_op1 26 (by rfl) (by decide) (wanted_none (by rfl)) (by rw [hK.out]; rfl) (by rfl) (.tmp 25) (.pointer (some ⟨g, 0, none⟩)) (by rfl) (.pointer (some ⟨g, 0, none⟩)) (fun ρ h1 kk w1 (hg : Just (FromB B) _ w1) hb hf => by go_simp) ?_
  refine fl_op1 27 (by rfl) (by decide) (wanted_none (by rfl)) (by rw [hK.out]; rfl) (by rfl) (.tmp 26) (.pointer (some ⟨g, 0, none⟩)) (by rfl) (.pointer (some ⟨g, 1, none⟩)) (fun ρ h1 kk w1 (hg : Just (FromB B) _ w1) hb hf => by go_simp) ?_
  refine fl_op1 28 (by rfl) (by decide) (wanted_none (by rfl)) (by rw [hK.out]; rfl) (by rfl) (.tmp 27) (.pointer (some ⟨g, 1, none⟩)) (by rfl) (.slice A0 l.length c0) (fun ρ h1 kk w1 (hg : Just (FromB B) _ w1) hb hf => by have c : w1.cell? ⟨g, 1, none⟩ = some (.slice A0 l.length c0) := (hg.blk hBq (fun h => hgB h)).cell 1; go_simp) ?_
  refine fl_any2 29 (by rfl) (by decide) (wanted_none (by rfl)) (KF 0 (OwnF B 50 3 l.length (l.flatMap rcell))) (by rw [hK.out]; rfl) (.tmp 24) (.tmp 28) (v24) (.slice A0 l.length c0) (by rfl) (by rfl) (fun ρ h1 h2 kk w1 (hg : Just (FromB B) _ w1) hb hf => by obtain rfl := before_some 0 (by rfl) hb; have hI := hb.1; refine upon_behindAny (φ := KF 0 (OwnF B 50 3 l.length (l.flatMap rcell))) (by rfl) ?_; have q1 := (facts_take hf (by rw [hA'.out]; kernel_rfl)); have hu : EmptyF B 50 3 v24 w1 := q1; exact upon_imp (empty_app rletterE hu h1 h2 (hI1 w1 hg) (rcells_one l) (by omega) (HB w1 hg) rfl) fun u w2 h => ⟨h.1, early_of h.2⟩) (fun v29 => ?_)
  refine fl_op1 30 (by rfl) (by decide) (wanted_none (by rfl)) (by rw [hK.out]; rfl) (by rfl) (.tmp 3) (.pointer (some ⟨x, 0, none⟩)) (by rfl) (.agg #[.int .i64 f, .int .i64 t, .string ⟨bs.toArray⟩]) (fun ρ h1 kk w1 (hg : Just (FromB B) _ w1) hb hf => by have hx := hg.blk hBx (fun h => hxB h); have e0 := hx.cell 0; have e1 := hx.cell 1; have e2 := hx.cell 2; go_simp) ?_
  refine fl_any1 31 (by rfl) (by decide) (wanted_none (by rfl)) (KF 0 (ReadF 3 1 (rcell (f, t, bs)))) (by rw [hK.out]; rfl) (.tmp 30) (.agg #[.int .i64 f, .int .i64 t, .string ⟨bs.toArray⟩]) (by rfl) (fun ρ h1 kk w1 (hg : Just (FromB B) _ w1) hb hf => by refine upon_behindAny (φ := KF 0 (ReadF 3 1 (rcell (f, t, bs)))) (by rfl) ?_; exact upon_imp (rrow_made (a := (f, t, bs)) h1 rfl) fun u w2 h => ⟨h.1, early_of h.2⟩) (fun v31 => ?_)
  refine fl_any2 32 (by rfl) (by decide) (wanted_none (by rfl)) (KF 1 (OwnF B 50 3 (l.length + 1) (l.flatMap rcell ++ rcell (f, t, bs)))) (by rw [hK.out]; rfl) (.tmp 29) (.tmp 31) (v29) (v31) (by rfl) (by rfl) (fun ρ h1 h2 kk w1 (hg : Just (FromB B) _ w1) hb hf => by obtain rfl := before_some 0 (by rfl) hb; have hI := hb.1; refine upon_turnAny (φ := KF 1 (OwnF B 50 3 (l.length + 1) (l.flatMap rcell ++ rcell (f, t, bs)))) 0 (by rfl) ?_; have q1 := (facts_take hf (by rw [hA'.out]; kernel_rfl)); have q2 := (facts_take (facts_pass hf) (by rw [hA'.out]; kernel_rfl)); have q3 : ReadF 3 1 (rcell (f, t, bs)) v31 w1 := q1; have q4 : OwnF B 50 3 l.length (l.flatMap rcell) v29 w1 := q2; obtain ⟨Ar, cr, er, hr⟩ := q3; exact two_app rletterE q4 h1 (h2.trans er) hr (rcell_one _) (by omega) (HB w1 hg) rfl) (fun v32 => ?_)
  refine fl_end (fun _ _ w1 (hg : Just (FromB B) _ w1) hend hfacts => hT _ _ ?_)
  clear hops hA' hK hT
  simp only [putsL, Act.put, List.setIfInBounds_toArray, List.set_cons_zero, List.set_cons_succ]
  have hF : OwnF B 50 3 (l.length + 1) (l.flatMap rcell ++ rcell (f, t, bs)) v32 w1 := hfacts.1
  clear hend hfacts
  obtain ⟨A4, c4, hv4, hI4, hn4, hm4⟩ := Own.in_ hF
  subst hv4
  have hB1 := hg.blk hBq (fun h => hgB h)
  have f1 := hB1.frozen 1
  have c1 : w1.cell? ⟨g, 1, none⟩ = some (.slice A0 l.length c0) := hB1.cell 1
  refine reg_line 10 13 (by kernel_rfl) (by kernel_rfl) ?_
  simp only [List.take_succ_cons, List.take_zero, List.drop_succ_cons, List.drop_zero]
  go_wp2_with fail
  refine reg_end ?_
  go_wp2_with fail
  go_ret
  have hBw : B = wa.heap.size := HBd.out
  have hjs := just_at w1 g 1 (.slice A4 (l.length + 1) c4)
  refine ⟨rfl, ⟨.inl h1, A4, c4, fun b => B ≤ b ∧ b < w1.heap.size, ?_, hN, fun a ha => ?_, ?_, ?_, ?_, hm4, fun b hb => ?_⟩, ?_⟩
  · rw [List.length_append, List.length_singleton]; omega
  · rcases List.mem_append.1 ha with h | h
    · exact hInv a h
    · rw [List.mem_singleton.1 h]; exact ⟨nodeB_is hf, nodeB_is ht⟩
  · rw [List.length_append, List.length_singleton]
    have := hB1.put 1 (.slice A4 (l.length + 1) c4)
    rwa [netc_set1] at this
  · rw [List.length_append, List.length_singleton, List.flatMap_append, List.flatMap_cons, List.flatMap_nil, List.append_nil]
    exact In.just hI4 hjs fun b hb h => by have := hb.1; rw [show b = g from h] at this; omega
  · rw [List.length_append, List.length_singleton]; exact hn4
  · exact ⟨.inr ⟨by have := hb.1; omega, by rw [setCell_size]; exact hb.2⟩, by have := hb.1; omega⟩
  · refine Just.trans (Just.of_grow hga) (Just.trans ?_ (hjs.imp fun x hx => by rw [show x = g from hx]; exact h1))
    exact ⟨hg.os, hg.tape, hg.output, hg.size, fun i hi _ => hg.block i hi fun h => by have : B ≤ i := h; omega⟩
theorem rSend_any (w : World) (g : Nat) (nodes : Int) (l : List Lb) (P : Nat → Bool) (f t : Int) (bs : List UInt8) :
    Turns Try.prog 22 #[.pointer (some ⟨g, 0, none⟩), .agg #[.int .i64 f, .int .i64 t, .string ⟨bs.toArray⟩]] (fun e => e = .returned (.int .i64 (sendE nodes l f t))) (RNetAt g nodes l P) (RNetAt g nodes (sendL nodes l (f, t, bs)) P) w := by
  unfold sendL sendE
  cases hf : nodeB nodes f with
  | false => simp only [if_true]; exact rSend_a w g nodes l P f t bs hf
  | true =>
    cases ht : nodeB nodes t with
    | false => simp only [Bool.true_eq_false, if_true, if_false]; exact rSend_b w g nodes l P f t bs hf ht
    | true =>
      by_cases h : 64 ≤ l.length
      · simp only [Bool.true_eq_false, if_false, if_pos h]; exact rSend_full w g nodes l P f t bs hf ht h
      · simp only [Bool.true_eq_false, if_false, if_neg h, if_true]; exact rSend_ok w g nodes l P f t bs hf ht (by omega)
end Go.Proofs.Ytacigekkfgeipaa
