/- The answer's net: what is taken out. -/
import Derived.Test.YtacigekkfgeipaaRs
namespace Go.Proofs.Ytacigekkfgeipaa
open Go.RowKit Go.Hop
set_option maxRecDepth 20000 in
theorem rOut_any (w : World) (g : Nat) (nodes : Int) (l : List Lb) (P : Nat → Bool) (k : Nat) (hk : k < l.length) :
    Turns Try.prog 29 #[.pointer (some ⟨g, 0, none⟩), .int .i64 (k : Int)] (fun e => e = .returned (.agg #[.int .i64 l[k].1, .int .i64 l[k].2.1, .string ⟨l[k].2.2.toArray⟩])) (RNetAt g nodes l P) (RNetAt g nodes (minus l k) P) w := by
  intro V ⟨h1, A0, c0, D, h64, hN, hInv, hB, hI, hnc, hcm, h9⟩ hV
  have cq1 : w.cell? ⟨g, 1, none⟩ = some (.slice A0 l.length c0) := hB.cell 1
  obtain ⟨ad, hkq, rfl, _, hadB, e0, e12⟩ := hI.rec_ (by omega) rcell_len hk
  have e0 := e0 _ rfl
  have e1 := e12 0 _ rfl
  have e2 := e12 1 _ rfl
  clear e12
  have hg0 : Grow w (w.alloc (.cells #[.int .i64 0, .int .i64 0, .string ⟨#[]⟩] 50)) := (Below.refl w.heap.size w).alloc (Nat.le_refl _) _
  generalize hla : l[k] = la at e0 e1 e2 ⊢
  clear hla
  obtain ⟨f, t, bs⟩ := la
  dsimp only at e0 e1 e2 ⊢
  have ce0 := (hg0.cell (p := ad.add (k * 3)) (by rw [block_add]; assumption)).trans e0
  have ce1 := (hg0.cell (p := ⟨(ad.add (k * 3)).block, (ad.add (k * 3)).off + (0 + 1), none⟩) (by show (ad.add (k * 3)).block < _; rw [block_add]; assumption)).trans e1
  have ce2 := (hg0.cell (p := ⟨(ad.add (k * 3)).block, (ad.add (k * 3)).off + (1 + 1), none⟩) (by show (ad.add (k * 3)).block < _; rw [block_add]; assumption)).trans e2
  have cq2 := (hg0.cell (p := ⟨g, 1, none⟩) hB.lt).trans cq1
  have hga : Grow w ((w.alloc (.cells #[.int .i64 0, .int .i64 0, .string ⟨#[]⟩] 50)).alloc (.cells #[.int .i64 f, .int .i64 t, .string ⟨bs.toArray⟩] 50)) := ((Below.refl w.heap.size w).alloc (Nat.le_refl _) _).alloc (by simp) _
  have hBx0 := (Blk.made w 50 #[.int .i64 0, .int .i64 0, .string ⟨#[]⟩]).alloc (.cells #[.int .i64 f, .int .i64 t, .string ⟨bs.toArray⟩] 50)
  have hBy0 := Blk.made (w.alloc (.cells #[.int .i64 0, .int .i64 0, .string ⟨#[]⟩] 50)) 50 #[.int .i64 f, .int .i64 t, .string ⟨bs.toArray⟩]
  obtain ⟨x, HX⟩ : ∃ x : Nat, Hid (x = w.heap.size) := ⟨_, rfl⟩
  have hx1 : (w.alloc (.cells #[.int .i64 0, .int .i64 0, .string ⟨#[]⟩] 50)).heap.size = x + 1 := by rw [HX.out]; simp
  rw [hx1] at hBy0
  rw [← HX.out] at hBx0
  obtain ⟨wa, HA⟩ : ∃ wa : World, Hid (wa = (w.alloc (.cells #[.int .i64 0, .int .i64 0, .string ⟨#[]⟩] 50)).alloc (.cells #[.int .i64 f, .int .i64 t, .string ⟨bs.toArray⟩] 50)) := ⟨_, rfl⟩
  have hsa : wa.heap.size = x + 2 := by rw [HA.out, HX.out]; simp
  rw [← HA.out] at hga hBx0 hBy0
  have hgas := hga.size
  have hgl := hB.lt
  have hxw : w.heap.size ≤ x := by have := HX.out; omega
  have hBq := hB.grow hga
  have hIa := hI.grow hga
  obtain ⟨B, HBd⟩ : ∃ B : Nat, Hid (B = wa.heap.size) := ⟨_, rfl⟩
  have HB : ∀ w1, Just (FromB B) wa w1 → B ≤ w1.heap.size := fun w1 h => HBd.out ▸ h.size
  have hgB : ¬ FromB B g := fun h => by have : B ≤ g := h; have := HBd.out; omega
  have hxB : ¬ FromB B x := fun h => by have h2 : B ≤ x := h; have := HBd.out; omega
  have hyB : ¬ FromB B (x + 1) := fun h => by have h2 : B ≤ x + 1 := h; have := HBd.out; omega
  have hDB : ∀ b, D b → ¬ FromB B b := fun b hb h => by have := hV b (h9 b hb).1; have : B ≤ b := h; have := HBd.out; omega
  obtain ⟨A2, HA2⟩ : ∃ A2 : Option Addr, Hid (A2 = if c0 = k + 1 then some ad else some (ad.add ((k + 1) * 3))) := ⟨_, rfl⟩
  have hI1 : ∀ w1, Just (FromB B) wa w1 → Reads w1 w1.heap.size 3 (some ad) k ((l.flatMap rcell).take (k * 3)) := fun w1 hj => ((hIa.just hj hDB).take (by omega)).reads
  have hI2 : ∀ w1, Just (FromB B) wa w1 → Reads w1 w1.heap.size 3 A2 (l.length - (k + 1)) ((l.flatMap rcell).drop ((k + 1) * 3)) := fun w1 hj => by
    have := (hIa.just hj hDB).reads.cut (k := k + 1) (by omega) hnc
    rwa [Option.map_some, ← HA2.out] at this
  have hone1 : ∀ u ∈ (l.flatMap rcell).take (k * 3), u.oneCell' = true := fun u hu => rcells_one l u (List.mem_of_mem_take hu)
  have hone2 : ∀ u ∈ (l.flatMap rcell).drop ((k + 1) * 3), u.oneCell' = true := fun u hu => rcells_one l u (List.mem_of_mem_drop hu)
  have hck : ¬ c0 < k := by omega
  have hnk : ¬ l.length < k + 1 := by omega
  have hnk2 : ¬ (l.length : Int) < (k : Int) + 1 := by omega
  have hnk3 : ¬ (k : Int) + 1 < 0 := by omega
  have hkw : IntKind.i64.wrap ((k : Int) + 1) = (k : Int) + 1 := by rw [IntKind.wrap_i64]; omega
  go_enter Try.func29, Try.ntmps29
  go_wp2_with fail
  rw [← HA.out, ← HX.out]
  clear hsa hx1 cq1 cq2 e0 e1 e2 ce0 ce1 ce2
  refine wp_region_reg rfl ?_
  refine reg_flow (TwoSt B 8 16) (twoSt_ok B 8 16) 0 17 33 [(1, .inr (KF 0 (OwnF B 50 3 0 []))), (8, .inr (KF 1 (OwnF B 50 3 k ((l.flatMap rcell).take (k * 3))))), (16, .inr (KF 2 (OwnF B 50 3 (k + (l.length - (k + 1))) ((l.flatMap rcell).take (k * 3) ++ (l.flatMap rcell).drop ((k + 1) * 3)))))] rfl (by kernel_rfl) (by kernel_rfl) (by kernel_rfl) ?_ (Just.of_grow (Grow.refl _).drew) trivial ?_
  · intro x hx φ he
    simp only [List.mem_cons, List.not_mem_nil, or_false] at hx
    rcases hx with rfl | rfl | rfl <;> cases he
    all_goals first | exact lasts_quiet (lasting_bytes _) | exact kf_lasts (ownF_lasting _ _ _ _ _) _
  intro ops' A' K' T hops hA' hK hT
  refine fl_mv 13 (by rfl) (by decide) (wanted_none (by rfl)) (by rw [hK.out]; rfl) (by rfl) _ (Or.inl (by rfl)) (.pointer (some ⟨g, 0, none⟩)) (by rfl) ?_
  refine fl_any 14 (by rfl) (by decide) (wanted_none (by rfl)) (KF 0 (OwnF B 50 3 0 [])) (by rw [hK.out]; rfl) (fun kk w1 (hg : Just (FromB B) _ w1) hb hf => by refine upon_behindAny (φ := KF 0 (OwnF B 50 3 0 [])) (by rfl) ?_; exact upon_imp (two_made rletterE (HB w1 hg) rfl) fun u w2 h => ⟨h.1, early_of h.2⟩) (fun v14 => ?_)
  refine fl_mv 15 (by rfl) (by decide) (wanted_none (by rfl)) (by rw [hK.out]; rfl) (by rfl) _ (Or.inl (by rfl)) (.pointer (some ⟨g, 0, none⟩)) (by rfl) ?_
  refine fl_op1 16 (by rfl) (by decide) (wanted_none (by rfl)) (by rw [hK.out]; rfl) (by rfl) (.tmp 15) (.pointer (some ⟨g, 0, none⟩)) (by rfl) (.pointer (some ⟨g, 0, none⟩)) (fun ρ h1 kk w1 (hg : Just (FromB B) _ w1) hb hf => by go_simp) ?_
  refine fl_op1 17 (by rfl) (by decide) (wanted_none (by rfl)) (by rw [hK.out]; rfl) (by rfl) (.tmp 16) (.pointer (some ⟨g, 0, none⟩)) (by rfl) (.pointer (some ⟨g, 1, none⟩)) (fun ρ h1 kk w1 (hg : Just (FromB B) _ w1) hb hf => by go_simp) ?_
  refine fl_op1 18 (by rfl) (by decide) (wanted_none (by rfl)) (by rw [hK.out]; rfl) (by rfl) (.tmp 17) (.pointer (some ⟨g, 1, none⟩)) (by rfl) (.slice (some ad) l.length c0) (fun ρ h1 kk w1 (hg : Just (FromB B) _ w1) hb hf => by have c : w1.cell? ⟨g, 1, none⟩ = some (.slice (some ad) l.length c0) := (hg.blk hBq (fun h => hgB h)).cell 1; go_simp) ?_
  refine fl_mv 19 (by rfl) (by decide) (wanted_none (by rfl)) (by rw [hK.out]; rfl) (by rfl) _ (Or.inl (by rfl)) (.int .i64 (k : Int)) (by rfl) ?_
  refine fl_op2 20 (by rfl) (by decide) (wanted_none (by rfl)) (by rw [hK.out]; rfl) (by rfl) (.tmp 18) (.tmp 19) (.slice (some ad) l.length c0) (.int .i64 (k : Int)) (by rfl) (by rfl) (.slice (some ad) k c0) (fun ρ h1 h2 kk w1 (hg : Just (FromB B) _ w1) hb hf => by go_simp) ?_
  refine fl_any2 21 (by rfl) (by decide) (wanted_none (by rfl)) (KF 1 (OwnF B 50 3 k ((l.flatMap rcell).take (k * 3)))) (by rw [hK.out]; rfl) (.tmp 14) (.tmp 20) (v14) (.slice (some ad) k c0) (by rfl) (by rfl) (fun ρ h1 h2 kk w1 (hg : Just (FromB B) _ w1) hb hf => by obtain rfl := before_some 0 (by rfl) hb; have hI := hb.1; refine upon_turnAny (φ := KF 1 (OwnF B 50 3 k ((l.flatMap rcell).take (k * 3)))) 0 (by rfl) ?_; have q1 := (facts_take hf (by rw [hA'.out]; kernel_rfl)); have hu : OwnF B 50 3 0 [] v14 w1 := q1; exact upon_imp (two_app rletterE hu h1 h2 (hI1 w1 hg) hone1 (by omega) (HB w1 hg) rfl) fun u w2 h => ⟨h.1, trivial, by have h3 := h.2.2; simp only [Nat.zero_add, List.nil_append] at h3; exact h3⟩) (fun v21 => ?_)
  refine fl_mv 22 (by rfl) (by decide) (wanted_none (by rfl)) (by rw [hK.out]; rfl) (by rfl) _ (Or.inl (by rfl)) (.pointer (some ⟨g, 0, none⟩)) (by rfl) ?_
  refine fl_op1 23 (by rfl) (by decide) (wanted_none (by rfl)) (by rw [hK.out]; rfl) (by rfl) (.tmp 22) (.pointer (some ⟨g, 0, none⟩)) (by rfl) (.pointer (some ⟨g, 0, none⟩)) (fun ρ h1 kk w1 (hg : Just (FromB B) _ w1) hb hf => by go_simp) ?_
  refine fl_op1 24 (by rfl) (by decide) (wanted_none (by rfl)) (by rw [hK.out]; rfl) (by rfl) (.tmp 23) (.pointer (some ⟨g, 0, none⟩)) (by rfl) (.pointer (some ⟨g, 1, none⟩)) (fun ρ h1 kk w1 (hg : Just (FromB B) _ w1) hb hf => by go_simp) ?_
  refine fl_op1 25 (by rfl) (by decide) (wanted_none (by rfl)) (by rw [hK.out]; rfl) (by rfl) (.tmp 24) (.pointer (some ⟨g, 1, none⟩)) (by rfl) (.slice (some ad) l.length c0) (fun ρ h1 kk w1 (hg : Just (FromB B) _ w1) hb hf => by have c : w1.cell? ⟨g, 1, none⟩ = some (.slice (some ad) l.length c0) := (hg.blk hBq (fun h => hgB h)).cell 1; go_simp) ?_
  refine fl_mv 26 (by rfl) (by decide) (wanted_none (by rfl)) (by rw [hK.out]; rfl) (by rfl) _ (Or.inl (by rfl)) (.int .i64 (k : Int)) (by rfl) ?_
  refine fl_op2 27 (by rfl) (by decide) (wanted_none (by rfl)) (by rw [hK.out]; rfl) (by rfl) (.tmp 26) (.const (.int .i64 1)) (.int .i64 (k : Int)) (.int .i64 1) (by rfl) (by rfl) (.int .i64 ((k : Int) + 1)) (fun ρ h1 h2 kk w1 (hg : Just (FromB B) _ w1) hb hf => by go_simp) ?_
  refine fl_op2 28 (by rfl) (by decide) (wanted_none (by rfl)) (by rw [hK.out]; rfl) (by rfl) (.tmp 25) (.tmp 27) (.slice (some ad) l.length c0) (.int .i64 ((k : Int) + 1)) (by rfl) (by rfl) (.slice A2 (l.length - (k + 1)) (c0 - (k + 1))) (fun ρ h1 h2 kk w1 (hg : Just (FromB B) _ w1) hb hf => by have hA := HA2.out; go_simp) ?_
  refine fl_any2 29 (by rfl) (by decide) (wanted_none (by rfl)) (KF 2 (OwnF B 50 3 (k + (l.length - (k + 1))) ((l.flatMap rcell).take (k * 3) ++ (l.flatMap rcell).drop ((k + 1) * 3)))) (by rw [hK.out]; rfl) (.tmp 21) (.tmp 28) (v21) (.slice A2 (l.length - (k + 1)) (c0 - (k + 1))) (by rfl) (by rfl) (fun ρ h1 h2 kk w1 (hg : Just (FromB B) _ w1) hb hf => by obtain rfl := before_some 1 (by rfl) hb; have hI := hb.1; refine upon_turnAny (φ := KF 2 (OwnF B 50 3 (k + (l.length - (k + 1))) ((l.flatMap rcell).take (k * 3) ++ (l.flatMap rcell).drop ((k + 1) * 3)))) 1 (by rfl) ?_; have q1 := (facts_take hf (by rw [hA'.out]; kernel_rfl)); have hu : OwnF B 50 3 k ((l.flatMap rcell).take (k * 3)) v21 w1 := q1; exact two_app rletterE hu h1 h2 (hI2 w1 hg) hone2 (by omega) (HB w1 hg) rfl) (fun v29 => ?_)
  refine fl_end (fun _ _ w1 (hg : Just (FromB B) _ w1) hend hfacts => hT _ _ ?_)
  clear hops hA' hK hT
  simp only [putsL, Act.put, List.setIfInBounds_toArray, List.set_cons_zero, List.set_cons_succ]
  have hF : OwnF B 50 3 (k + (l.length - (k + 1))) ((l.flatMap rcell).take (k * 3) ++ (l.flatMap rcell).drop ((k + 1) * 3)) v29 w1 := hfacts.1
  clear hend hfacts
  obtain ⟨A4, c4, hv4, hI4, hn4, hm4⟩ := Own.in_ hF
  subst hv4
  have hB1 := hg.blk hBq (fun h => hgB h)
  have hBx1 := hg.blk hBx0 (fun h => hxB h)
  have hBy1 := hg.blk hBy0 (fun h => hyB h)
  have f1 := hB1.frozen 1
  have c1 : w1.cell? ⟨g, 1, none⟩ = some (.slice (some ad) l.length c0) := hB1.cell 1
  have hgx : x ≠ g := by omega
  have hgy : x + 1 ≠ g := by omega
  have hjs := just_at w1 g 1 (.slice A4 (k + (l.length - (k + 1))) c4)
  have hBx2 := hBx1.far (p := ⟨g, 1, none⟩) hgx (.slice A4 (k + (l.length - (k + 1))) c4)
  have hBy2 := hBy1.far (p := ⟨g, 1, none⟩) hgy (.slice A4 (k + (l.length - (k + 1))) c4)
  have x0 := hBx2.cell 0
  have x1 := hBx2.cell 1
  have x2 := hBx2.cell 2
  have g0 := hBx2.frozen 0
  have g1 := hBx2.frozen 1
  have g2 := hBx2.frozen 2
  have y0 := hBy2.cell 0
  have y1 := hBy2.cell 1
  have y2 := hBy2.cell 2
  refine reg_line 17 20 (by kernel_rfl) (by kernel_rfl) ?_
  simp only [List.take_succ_cons, List.take_zero, List.drop_succ_cons, List.drop_zero]
  go_wp2_with fail
  refine reg_end ?_
  go_wp2_with fail
  have hE := ((hBx2.put 0 (.int .i64 f)).put 1 (.int .i64 t)).put 2 (.string ⟨bs.toArray⟩)
  have e0 := hE.cell 0
  have e1 := hE.cell 1
  have e2 := hE.cell 2
  have hjx : Just (fun b => b = x) (w1.setCell ⟨g, 1, none⟩ (.slice A4 (k + (l.length - (k + 1))) c4)) ((((w1.setCell ⟨g, 1, none⟩ (.slice A4 (k + (l.length - (k + 1))) c4)).setCell ⟨x, 0, none⟩ (.int .i64 f)).setCell ⟨x, 1, none⟩ (.int .i64 t)).setCell ⟨x, 2, none⟩ (.string ⟨bs.toArray⟩)) :=
    (((Just.of_grow (Grow.refl _)).put (V := fun b => b = x) rfl 0 _).put rfl 1 _).put rfl 2 _
  have hBw : B = wa.heap.size := HBd.out
  have hkl : k + (l.length - (k + 1)) = l.length - 1 := by omega
  have hml : (minus l k).length = l.length - 1 := by unfold minus; rw [List.length_append, List.length_take, List.length_drop]; omega
  have hcs : (minus l k).flatMap rcell = (l.flatMap rcell).take (k * 3) ++ (l.flatMap rcell).drop ((k + 1) * 3) := by
    unfold minus; rw [List.flatMap_append, flat_take rcell 3 rcell_len, flat_drop rcell 3 rcell_len]
  have hsz : ((((w1.setCell ⟨g, 1, none⟩ (.slice A4 (k + (l.length - (k + 1))) c4)).setCell ⟨x, 0, none⟩ (.int .i64 f)).setCell ⟨x, 1, none⟩ (.int .i64 t)).setCell ⟨x, 2, none⟩ (.string ⟨bs.toArray⟩)).heap.size = w1.heap.size := by rw [setCell_size, setCell_size, setCell_size, setCell_size]
  have hsw : w.heap.size ≤ w1.heap.size := Nat.le_trans hgas hg.size
  refine bodyPost_ret (v := .agg #[.int .i64 f, .int .i64 t, .string ⟨bs.toArray⟩]) (by simp [results, Try.results29, go_sem, e0, e1, e2]) rfl ⟨rfl, ⟨.inl h1, A4, c4, fun b => B ≤ b ∧ b < w1.heap.size, by omega, hN, fun a ha => hInv a ?_, ?_, ?_, by rw [hml]; omega, hm4, fun b hb => ?_⟩, ?_⟩
  · unfold minus at ha
    rcases List.mem_append.1 ha with h | h
    · exact List.mem_of_mem_take h
    · exact List.mem_of_mem_drop h
  · have := hB1.put 1 (.slice A4 (k + (l.length - (k + 1))) c4)
    rw [netc_set1] at this
    rw [hml, ← hkl]
    exact hjx.blk this fun h => hgx h.symm
  · rw [hml, hcs, ← hkl]
    exact In.just (In.just hI4 hjs fun b hb h => by have := hb.1; rw [show b = g from h] at this; omega) hjx fun b hb h => by have := hb.1; rw [show b = x from h] at this; exact hxB this
  · exact ⟨.inr ⟨by have := hb.1; omega, by rw [hsz]; exact hb.2⟩, by have := hb.1; omega⟩
  · have hjA := hjx.block
    refine ⟨hjx.os.trans (hjs.os.trans (hg.os.trans hga.os)), hjx.tape.trans (hjs.tape.trans (hg.tape.trans hga.tape)), hjx.output.trans (hjs.output.trans (hg.output.trans hga.output)), by rw [hsz]; exact hsw, fun i hi hv => ?_⟩
    have hig : i ≠ g := fun h => hv (by rw [h]; exact h1)
    rw [hjx.block i (by rw [setCell_size]; omega) (fun h => by rw [show i = x from h] at hi; omega), hjs.block i (by omega) hig, hg.block i (by omega) (fun h => by have : B ≤ i := h; omega), hga.block i hi]
end Go.Proofs.Ytacigekkfgeipaa
