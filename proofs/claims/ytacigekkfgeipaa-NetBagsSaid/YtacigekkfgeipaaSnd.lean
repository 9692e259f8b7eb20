/- Net.Send. -/
import Derived.Test.YtacigekkfgeipaaNt
namespace Go.Proofs.Ytacigekkfgeipaa
open Go.RowKit Go.Hop
theorem ltIn_just : GoodJust LtIn := fun _ _ _ _ _ h hj hd => h.just hj hd
theorem lt_built {w : World} {u : Value} {ρ : Operand → Value} {o : Oper} {x : Operand} {b : Lt} (h1 : ρ x = u) (hu : u = .agg (Lt.cells b).toArray) (ho : o.op = .buildSlice 40 1 #[(0, x)]) :
    (execOp ρ o).run Try.prog w = .ok (.value (.slice (some ⟨w.heap.size, 0, none⟩) 1 1)) (w.alloc (.cells (Lt.cells b).toArray 35)) := by
  obtain ⟨dst, op, ty, pos, after, guard⟩ := o
  simp only at ho
  subst ho hu
  unfold Lt.cells at h1 ⊢
  go_simp
theorem own_newG {w : World} {b : Lt} (a : Lb) {B : Nat} {args : Array Value} (h : Calls Try.prog 26 args w fun e w' => ∃ A' c', e = .returned (.agg #[.int .i64 b.f, .int .i64 b.t, .slice A' b.m c']) ∧ LtIn w' (New w w') ⟨b.f, b.t, A', b.m, c', b.bs⟩ ∧ Grow w w') (hs : B ≤ w.heap.size) (hB : b.abs = a := by rfl) :
    Calls Try.prog 26 args w fun e w' => ∃ u, e = .returned u ∧ Grow w w' ∧ NewG Lt.cells LtIn B (fun b => b.abs = a) u w' := by
  refine h.mono fun e w' ⟨A', c', he, hb1, hg⟩ => ⟨_, he, hg, ⟨⟨b.f, b.t, A', b.m, c', b.bs⟩, w'.heap.size, hB, rfl, hb1.mono fun x hx => ⟨Nat.le_trans hs hx.1, hx.2⟩, Nat.le_refl _⟩⟩
set_option maxRecDepth 20000 in
theorem Send_a (w : World) (g : Nat) (nodes : Int) (l : List Lb) (P : Nat → Bool) (f t : Int) (A : Option Addr) (m c : Nat) (hf : nodeB nodes f = false) :
    Turns Try.prog 12 #[.pointer (some ⟨g, 0, none⟩), .agg #[.int .i64 f, .int .i64 t, .slice A m c]] (fun e => e = .returned (.int .i64 23)) (NetAt g nodes l P) (NetAt g nodes l P) w := by
  intro V hQ hV
  have hQ' := hQ
  obtain ⟨h1, v, q, R, D, hql, h64, hN, hInv, hB, hRow, h6, h7, h8⟩ := hQ
  obtain ⟨A0, c0, rfl, hI, hnc, hm0⟩ := hRow.in_
  have hga : Grow w (w.alloc (.cells #[.int .i64 f, .int .i64 t, .slice A m c] 35)) := (Below.refl w.heap.size w).alloc (Nat.le_refl _) _
  have hBx0 := Blk.made w 35 #[.int .i64 f, .int .i64 t, .slice A m c]
  obtain ⟨x, HX⟩ : ∃ x : Nat, Hid (x = w.heap.size) := ⟨_, rfl⟩
  obtain ⟨wa, HA⟩ : ∃ wa : World, Hid (wa = w.alloc (.cells #[.int .i64 f, .int .i64 t, .slice A m c] 35)) := ⟨_, rfl⟩
  have HSA : Hid (wa.heap.size = x + 1) := Lib.hid (by rw [HA.out, HX.out]; simp)
  rw [← HA.out] at hga
  have hBx : Blk wa x 35 #[.int .i64 f, .int .i64 t, .slice A m c] := by rw [HA.out, HX.out]; exact hBx0
  clear hBx0
  have hBq := hB.grow hga
  have x1 := hBx.cell 1
  have cq1 : wa.cell? ⟨g, 1, none⟩ = some (.slice A0 q.length c0) := hBq.cell 1
  go_enter Try.func12, Try.ntmps12
  go_wp2_with fail
  rw [← HA.out, ← HX.out]
  go_wp2_with (go_at_call 25; refine (node_any wa g nodes _ _ _ hBq).mono ?_; rintro e w2 ⟨rfl, hw2⟩; subst hw2)
  go_ret
  exact ⟨rfl, NetAt.wide (NetAt.framed _ _ _ _ w _ V hQ' fun b hb => hga.block b (hV b hb)) (fun _ => .inl), Just.of_grow hga⟩
set_option maxRecDepth 20000 in
theorem Send_b (w : World) (g : Nat) (nodes : Int) (l : List Lb) (P : Nat → Bool) (f t : Int) (A : Option Addr) (m c : Nat) (hf : nodeB nodes f = true) (ht : nodeB nodes t = false) :
    Turns Try.prog 12 #[.pointer (some ⟨g, 0, none⟩), .agg #[.int .i64 f, .int .i64 t, .slice A m c]] (fun e => e = .returned (.int .i64 23)) (NetAt g nodes l P) (NetAt g nodes l P) w := by
  intro V hQ hV
  have hQ' := hQ
  obtain ⟨h1, v, q, R, D, hql, h64, hN, hInv, hB, hRow, h6, h7, h8⟩ := hQ
  obtain ⟨A0, c0, rfl, hI, hnc, hm0⟩ := hRow.in_
  have hga : Grow w (w.alloc (.cells #[.int .i64 f, .int .i64 t, .slice A m c] 35)) := (Below.refl w.heap.size w).alloc (Nat.le_refl _) _
  have hBx0 := Blk.made w 35 #[.int .i64 f, .int .i64 t, .slice A m c]
  obtain ⟨x, HX⟩ : ∃ x : Nat, Hid (x = w.heap.size) := ⟨_, rfl⟩
  obtain ⟨wa, HA⟩ : ∃ wa : World, Hid (wa = w.alloc (.cells #[.int .i64 f, .int .i64 t, .slice A m c] 35)) := ⟨_, rfl⟩
  have HSA : Hid (wa.heap.size = x + 1) := Lib.hid (by rw [HA.out, HX.out]; simp)
  rw [← HA.out] at hga
  have hBx : Blk wa x 35 #[.int .i64 f, .int .i64 t, .slice A m c] := by rw [HA.out, HX.out]; exact hBx0
  clear hBx0
  have hBq := hB.grow hga
  have x1 := hBx.cell 1
  have cq1 : wa.cell? ⟨g, 1, none⟩ = some (.slice A0 q.length c0) := hBq.cell 1
  go_enter Try.func12, Try.ntmps12
  go_wp2_with fail
  rw [← HA.out, ← HX.out]
  go_wp2_with (go_at_call 25; refine (node_any wa g nodes _ _ _ hBq).mono ?_; rintro e w2 ⟨rfl, hw2⟩; subst hw2)
  go_ret
  exact ⟨rfl, NetAt.wide (NetAt.framed _ _ _ _ w _ V hQ' fun b hb => hga.block b (hV b hb)) (fun _ => .inl), Just.of_grow hga⟩
set_option maxRecDepth 20000 in
theorem Send_full (w : World) (g : Nat) (nodes : Int) (l : List Lb) (P : Nat → Bool) (f t : Int) (A : Option Addr) (m c : Nat) (hf : nodeB nodes f = true) (ht : nodeB nodes t = true) (hl : 64 ≤ l.length) :
    Turns Try.prog 12 #[.pointer (some ⟨g, 0, none⟩), .agg #[.int .i64 f, .int .i64 t, .slice A m c]] (fun e => e = .returned (.int .i64 24)) (NetAt g nodes l P) (NetAt g nodes l P) w := by
  intro V hQ hV
  have hQ' := hQ
  obtain ⟨h1, v, q, R, D, hql, h64, hN, hInv, hB, hRow, h6, h7, h8⟩ := hQ
  obtain ⟨A0, c0, rfl, hI, hnc, hm0⟩ := hRow.in_
  have hga : Grow w (w.alloc (.cells #[.int .i64 f, .int .i64 t, .slice A m c] 35)) := (Below.refl w.heap.size w).alloc (Nat.le_refl _) _
  have hBx0 := Blk.made w 35 #[.int .i64 f, .int .i64 t, .slice A m c]
  obtain ⟨x, HX⟩ : ∃ x : Nat, Hid (x = w.heap.size) := ⟨_, rfl⟩
  obtain ⟨wa, HA⟩ : ∃ wa : World, Hid (wa = w.alloc (.cells #[.int .i64 f, .int .i64 t, .slice A m c] 35)) := ⟨_, rfl⟩
  have HSA : Hid (wa.heap.size = x + 1) := Lib.hid (by rw [HA.out, HX.out]; simp)
  rw [← HA.out] at hga
  have hBx : Blk wa x 35 #[.int .i64 f, .int .i64 t, .slice A m c] := by rw [HA.out, HX.out]; exact hBx0
  clear hBx0
  have hBq := hB.grow hga
  have x1 := hBx.cell 1
  have cq1 : wa.cell? ⟨g, 1, none⟩ = some (.slice A0 q.length c0) := hBq.cell 1
  have hq64 : 64 ≤ q.length := by rw [← hql, List.length_map] at hl; exact hl
  clear hql hl
  go_enter Try.func12, Try.ntmps12
  go_wp2_with fail
  rw [← HA.out, ← HX.out]
  go_wp2_with (go_at_call 25; refine (node_any wa g nodes _ _ _ hBq).mono ?_; rintro e w2 ⟨rfl, hw2⟩; subst hw2)
  go_ret
  exact ⟨rfl, NetAt.wide (NetAt.framed _ _ _ _ w _ V hQ' fun b hb => hga.block b (hV b hb)) (fun _ => .inl), Just.of_grow hga⟩

set_option maxRecDepth 20000 in
theorem Send_ok (w : World) (Z : Nat → Prop) (g : Nat) (nodes : Int) (l : List Lb) (P : Nat → Bool) (f t : Int) (A : Option Addr) (m c : Nat) (bs : List UInt8) (hd0 : BIn w Z A m bs) (hmc : m ≤ c) (hcm : c ≤ maxLen) (hsm : m ≤ 1048576) (hf : nodeB nodes f = true) (ht : nodeB nodes t = true) (hl : l.length < 64) :
    Turns Try.prog 12 #[.pointer (some ⟨g, 0, none⟩), .agg #[.int .i64 f, .int .i64 t, .slice A m c]] (fun e => e = .returned (.int .i64 0)) (NetAt g nodes l P) (NetAt g nodes (l ++ [(f, t, bs)]) P) w := by
  intro V hQ hV
  have hQ' := hQ
  obtain ⟨h1, v, q, R, D, hql, h64, hN, hInv, hB, hRow, h6, h7, h8⟩ := hQ
  obtain ⟨A0, c0, rfl, hI, hnc, hm0⟩ := hRow.in_
  have hga : Grow w (w.alloc (.cells #[.int .i64 f, .int .i64 t, .slice A m c] 35)) := (Below.refl w.heap.size w).alloc (Nat.le_refl _) _
  have hBx0 := Blk.made w 35 #[.int .i64 f, .int .i64 t, .slice A m c]
  obtain ⟨x, HX⟩ : ∃ x : Nat, Hid (x = w.heap.size) := ⟨_, rfl⟩
  obtain ⟨wa, HA⟩ : ∃ wa : World, Hid (wa = w.alloc (.cells #[.int .i64 f, .int .i64 t, .slice A m c] 35)) := ⟨_, rfl⟩
  have HSA : Hid (wa.heap.size = x + 1) := Lib.hid (by rw [HA.out, HX.out]; simp)
  rw [← HA.out] at hga
  have hBx : Blk wa x 35 #[.int .i64 f, .int .i64 t, .slice A m c] := by rw [HA.out, HX.out]; exact hBx0
  clear hBx0
  have hBq := hB.grow hga
  have x1 := hBx.cell 1
  have cq1 : wa.cell? ⟨g, 1, none⟩ = some (.slice A0 q.length c0) := hBq.cell 1
  have hq16 : q.length < 64 := by rw [← hql, List.length_map] at hl; exact hl
  have HQL := Lib.hid hql
  clear hql
  go_enter Try.func12, Try.ntmps12
  go_wp2_with fail
  rw [← HA.out, ← HX.out]
  go_wp2_with (go_at_call 25; refine (node_any wa g nodes _ _ _ hBq).mono ?_; rintro e w2 ⟨rfl, hw2⟩; subst hw2)
  have hRow1 := hRow.grow hga
  have hin1 : ∀ b ∈ q, LtIn wa D b := fun b hb => (h6 b hb).grow hga
  have hd1 := In.grow hd0 hga
  have hgB : g < wa.heap.size := hBq.lt
  have hgR : ¬ R g := fun h => (h7 g h).2.1 rfl
  have hxw : w.heap.size ≤ x := by have := HX.out; omega
  have hRw : ∀ x, R x → x < w.heap.size := fun b hb => hV b (h7 b hb).1
  obtain ⟨B, HBd⟩ : ∃ B : Nat, Hid (B = wa.heap.size) := ⟨_, rfl⟩
  have hRB : ∀ x, R x → x < B := fun b hb => by have := hRw b hb; have := HBd.out; have := hga.size; omega
  have hxn : ¬ R x := fun h => by have := hRw x h; omega
  have HB : ∀ w2, Just R wa w2 → B ≤ w2.heap.size := fun w2 h => HBd.out ▸ h.size
  have k26 : ∀ (vs : Array Value) (w : World), (callFunc 26 vs).run Try.prog w = .ok (.enter 26 vs) w := fun vs w => by go_simp
  refine wp_region_reg rfl ?_
  refine reg_flow (AppRow R (fun w => Row w R 35 3 (.slice A0 q.length c0) q.length (q.flatMap Lt.cells) ∧ Blk w g 57 (netc nodes (.slice A0 q.length c0) P) ∧ BIn w Z A m bs) 8 [(4, 0), (6, 0)]) (appRow_ok fun a b h hg => ⟨h.1.grow hg, h.2.1.grow hg, In.grow h.2.2 hg⟩) 0 9 36 [(6, .inr (fun _ u w => NewG Lt.cells LtIn B (fun b => b.abs = (f, t, bs)) u w)), (7, .inr (fun _ u w => RowG 3 Lt.cells LtIn B (fun b => b.abs = (f, t, bs)) u w)), (8, .inr (Once (FinG 35 3 Lt.cells LtIn R B q (fun b => b.abs = (f, t, bs)))))] rfl (by kernel_rfl) (by kernel_rfl) (by kernel_rfl) ?_ (Just.of_grow (Grow.refl _).drew) ⟨hRow1, hBq, hd1⟩ ?_
  · intro x hx φ he
    simp only [List.mem_cons, List.not_mem_nil, or_false] at hx
    rcases hx with rfl | rfl | rfl <;> cases he
    all_goals first | exact lasts_quiet (lasting_bytes _) | exact lasts_row hRB (newG_past ltIn_just) | exact lasts_row hRB (rowG_past ltIn_just) | exact lasts_row_once (finG_lasting ltIn_just)
  intro ops' A' K' T hops hA' hK hT
  refine fl_mv 25 (by rfl) (by decide) (wanted_none (by rfl)) (by rw [hK.out]; rfl) (by rfl) _ (Or.inl (by rfl)) (.pointer (some ⟨g, 0, none⟩)) (by rfl) ?_
  refine fl_mv 26 (by rfl) (by decide) (wanted_none (by rfl)) (by rw [hK.out]; rfl) (by rfl) _ (Or.inl (by rfl)) (.pointer (some ⟨g, 0, none⟩)) (by rfl) ?_
  refine fl_op1 27 (by rfl) (by decide) (wanted_none (by rfl)) (by rw [hK.out]; rfl) (by rfl) (.tmp 26) (.pointer (some ⟨g, 0, none⟩)) (by rfl) (.pointer (some ⟨g, 0, none⟩)) (fun ρ h1 kk w1 (hg : Just R _ w1) hb hf => by go_simp) ?_
  refine fl_op1 28 (by rfl) (by decide) (wanted_none (by rfl)) (by rw [hK.out]; rfl) (by rfl) (.tmp 27) (.pointer (some ⟨g, 0, none⟩)) (by rfl) (.pointer (some ⟨g, 1, none⟩)) (fun ρ h1 kk w1 (hg : Just R _ w1) hb hf => by go_simp) ?_
  refine fl_op1 29 (by rfl) (by decide) (wanted_none (by rfl)) (by rw [hK.out]; rfl) (by rfl) (.tmp 28) (.pointer (some ⟨g, 1, none⟩)) (by rfl) (.slice A0 q.length c0) (fun ρ h1 kk w1 (hg : Just R _ w1) hb hf => by obtain rfl := before_some 0 (by rfl) hb; have hI := hb.1; have c : w1.cell? ⟨g, 1, none⟩ = some (.slice A0 q.length c0) := hI.2.1.cell 1; go_simp) ?_
  refine fl_op1 30 (by rfl) (by decide) (wanted_none (by rfl)) (by rw [hK.out]; rfl) (by rfl) (.tmp 3) (.pointer (some ⟨x, 0, none⟩)) (by rfl) (.agg #[.int .i64 f, .int .i64 t, .slice A m c]) (fun ρ h1 kk w1 (hg : Just R _ w1) hb hf => by have hx := hg.blk hBx (fun h => hxn h); have e0 := hx.cell 0; have e1 := hx.cell 1; have e2 := hx.cell 2; go_simp) ?_
  refine fl_callAny 31 (by rfl) (by decide) (wanted_none (by rfl)) (fun _ u w => NewG Lt.cells LtIn B (fun b => b.abs = (f, t, bs)) u w) (by rw [hK.out]; rfl) 26 _ _ (by rfl) [.agg #[.int .i64 f, .int .i64 t, .slice A m c]] (by rfl) k26 (fun kk w1 (hg : Just R _ w1) hb hf => calls_behindAny (φ := fun _ u w => NewG Lt.cells LtIn B (fun b => b.abs = (f, t, bs)) u w) (by rfl) (by obtain rfl := before_some 0 (by rfl) hb; have hI := hb.1; exact own_newG (f, t, bs) (own_any w1 Z ⟨f, t, A, m, c, bs⟩ ⟨hI.2.2, hmc, hcm, hsm⟩) (HB w1 hg))) (fun v31 => ?_)
  refine fl_any1 32 (by rfl) (by decide) (wanted_none (by rfl)) (fun _ u w => RowG 3 Lt.cells LtIn B (fun b => b.abs = (f, t, bs)) u w) (by rw [hK.out]; rfl) (.tmp 31) (v31) (by rfl) (fun ρ h1 kk w1 (hg : Just R _ w1) hb hf => by refine upon_behindAny (φ := fun _ u w => RowG 3 Lt.cells LtIn B (fun b => b.abs = (f, t, bs)) u w) (by rfl) ?_; exact rowG_made (e := 35) ltIn_just lt_len (facts_take hf (by rw [hA'.out]; kernel_rfl)) (HB w1 hg) (fun b hb => lt_built h1 hb rfl)) (fun v32 => ?_)
  refine fl_any2 33 (by rfl) (by decide) (wanted_none (by rfl)) (Once (FinG 35 3 Lt.cells LtIn R B q (fun b => b.abs = (f, t, bs)))) (by rw [hK.out]; rfl) (.tmp 29) (.tmp 32) (.slice A0 q.length c0) (v32) (by rfl) (by rfl) (fun ρ h1 h2 kk w1 (hg : Just R _ w1) hb hf => by obtain rfl := before_some 0 (by rfl) hb; have hI := hb.1; refine upon_turnAny (φ := Once (FinG 35 3 Lt.cells LtIn R B q (fun b => b.abs = (f, t, bs)))) 0 (by rfl) ?_; exact upon_imp (finG_append (X := fun b : Lt => b.abs = (f, t, bs)) letterE ltIn_just lt_one hRB hI.1 (facts_take hf (by rw [hA'.out]; kernel_rfl)) (HB w1 hg) (by omega) h1 h2 rfl) fun u w2 h => ⟨h.1, trivial, h.2⟩) (fun v33 => ?_)
  refine fl_end (fun _ _ w1 (hg : Just R _ w1) hend hfacts => hT _ _ ?_)
  clear hops hA' hK hT
  simp only [putsL, Act.put, List.setIfInBounds_toArray, List.set_cons_zero, List.set_cons_succ]
  have hE : (FinG 35 3 Lt.cells LtIn R B q (fun b => b.abs = (f, t, bs))) v33 w1 := hfacts.1
  clear hend hfacts
  obtain ⟨b, R', D', e1, hR', hb', hRx, hDx⟩ := hE
  obtain ⟨A3, c3, hv3, _⟩ := hR'.in_
  subst hv3
  have hB1 := hg.blk hBq hgR
  have f1 := hB1.frozen 1
  have c11 : w1.cell? ⟨g, 1, none⟩ = some (.slice A0 q.length c0) := hB1.cell 1
  refine reg_line 9 12 (by kernel_rfl) (by kernel_rfl) ?_
  simp only [List.take_succ_cons, List.take_zero, List.drop_succ_cons, List.drop_zero]
  go_wp2_with fail
  refine reg_end ?_
  go_wp2_with fail
  go_ret
  have hBw : B = wa.heap.size := HBd.out
  have hgas := hga.size
  have hjs := just_at w1 g 1 (.slice A3 (q.length + 1) c3)
  have hBg : g < B := by omega
  refine ⟨rfl, ⟨.inl h1, .slice A3 (q.length + 1) c3, q ++ [b], R', fun x => D x ∨ D' x, ?_, ?_, hN, ?_, ?_, ?_, fun b' hb => ?_, fun x hx => ?_, fun x hx => ?_⟩, ?_⟩
  · rw [List.map_append, HQL.out, List.map_cons, List.map_nil, e1]
  · rw [List.length_append, List.length_singleton]; omega
  · intro a ha
    rcases List.mem_append.1 ha with h | h
    · exact hInv a h
    · rw [List.mem_singleton.1 h]; exact ⟨nodeB_is hf, nodeB_is ht⟩
  · have := hB1.put 1 (.slice A3 (q.length + 1) c3)
    rwa [netc_set1] at this
  · rw [List.length_append, List.length_singleton]
    exact hR'.just hjs fun b hb h => by
      have h2 := hRx b hb
      rw [show b = g from h] at h2
      rcases h2.1 with h3 | h3
      · exact hgR h3
      · omega
  · rcases List.mem_append.1 hb with h | h
    · exact (((hin1 b' h).just hg fun x hx hr => (h7 x hr).2.2 hx).just hjs fun x hx h => (h8 x hx).2 h).mono fun _ => .inl
    · rw [List.mem_singleton.1 h]; exact (hb'.just hjs fun x hx h => by have := (hDx x hx).1; rw [show x = g from h] at this; omega).mono fun _ => .inr
  · have h2 := hRx x hx
    refine ⟨?_, ?_, fun h => ?_⟩
    · rcases h2.1 with h | h
      · exact .inl (h7 x h).1
      · exact .inr ⟨by omega, by rw [setCell_size]; exact h2.2.1⟩
    · rcases h2.1 with h | h
      · exact (h7 x h).2.1
      · omega
    · rcases h with h | h
      · rcases h2.1 with h3 | h3
        · exact (h7 x h3).2.2 h
        · have := hV x (h8 x h).1; omega
      · exact h2.2.2 h
  · rcases hx with h | h
    · exact ⟨.inl (h8 x h).1, (h8 x h).2⟩
    · have h2 := hDx x h
      exact ⟨.inr ⟨by omega, by rw [setCell_size]; exact h2.2⟩, by have := h2.1; omega⟩
  · exact ((Just.of_grow hga).trans (hg.imp fun x hx => (h7 x hx).1)).trans (hjs.imp fun x hx => by rw [show x = g from hx]; exact h1)
end Go.Proofs.Ytacigekkfgeipaa
