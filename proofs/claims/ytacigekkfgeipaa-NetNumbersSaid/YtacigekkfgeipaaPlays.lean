/- NetPlays: its walk. -/
import Derived.Test.YtacigekkfgeipaaWithin
namespace Go.Proofs.Ytacigekkfgeipaa
open Go.RowKit Go.Hop
theorem ask_info : (Try.prog.info? 25).map (fun i => (i.zero, i.size, i.bytes)) = some (some (.agg #[.int .i64 0, .int .i64 0, .int .i64 0, .int .i64 0, .slice none 0 0]), 5, 56) := by kernel_rfl
theorem askE : Elem Try.prog 22 25 5 56 (.agg #[.int .i64 0, .int .i64 0, .int .i64 0, .int .i64 0, .slice none 0 0]) := ⟨Try.underlying22, info_parts ask_info, rfl, by decide, by decide⟩
theorem and15 (z : Int) : bits .and .i64 z 15 = z % 16 := and_low z 15 4 (by decide) (by decide)
theorem and3 (z : Int) : bits .and .i64 z 3 = z % 4 := and_low z 3 2 (by decide) (by decide)
def AskSt (t : TypeId) (x : Nat) (c0 c1 c2 c3 c4 : Array Value) : Stages where
  G := Just fun b => b = x
  T := fun _ => Just fun b => b = x
  I := fun k w => match k with
    | 0 => Blk w x t c0
    | 1 => Blk w x t c1
    | 2 => Blk w x t c2
    | 3 => Blk w x t c3
    | _ => Blk w x t c4
  muts := [13, 15, 17, 19]
  stage := fun j => if j = 13 then some 0 else if j = 15 then some 1 else if j = 17 then some 2 else if j = 19 then some 3 else [(1, 0), (4, 0), (7, 0), (10, 0)].lookup j
theorem askSt_ok (t : TypeId) (x : Nat) (c0 c1 c2 c3 c4 : Array Value) : (AskSt t x c0 c1 c2 c3 c4).Ok := by
  refine ⟨fun _ _ _ => Just.trans, fun _ _ h => Just.of_grow h, fun _ _ _ h => h, fun k a b h hg => ?_⟩
  rcases k with _ | _ | _ | _ | k <;> exact Blk.grow h hg
theorem ask_store {w : World} {t : TypeId} {x j : Nat} {cs : Array Value} {z v : Int} {ρ : Operand → Value} {o : Oper} {a b : Operand} (h : Blk w x t cs) (h1 : ρ a = .pointer (some ⟨x, j, none⟩)) (h2 : ρ b = .int .i64 v) (hc : cs[j]? = some (.int .i64 z)) (ho : o.op = .store 3 a b) :
    flowUpon Try.prog (fun u w' => u = undef ∧ Just (fun c => c = x) w w' ∧ Blk w' x t (cs.setIfInBounds j (.int .i64 v))) ((execOp ρ o).run Try.prog w) := by
  obtain ⟨dst, op, ty, pos, after, guard⟩ := o
  simp only at ho
  subst ho
  have f0 := h.frozen j
  have c0 := h.cell j
  rw [hc] at c0
  exact flowUpon_skip (w' := w.setCell ⟨x, j, none⟩ (.int .i64 v)) (by go_simp) ⟨rfl, just_at w x _ _, h.put j (.int .i64 v)⟩
theorem ask_store64 {w : World} {t : TypeId} {x j : Nat} {cs : Array Value} {z v : Int} {ρ : Operand → Value} {o : Oper} {a b : Operand} (h : Blk w x t cs) (h1 : ρ a = .pointer (some ⟨x, j, none⟩)) (h2 : ρ b = .int .i64 v) (hc : cs[j]? = some (.int .i64 z)) (ho : o.op = .store 2 a b) :
    flowUpon Try.prog (fun u w' => u = undef ∧ Just (fun c => c = x) w w' ∧ Blk w' x t (cs.setIfInBounds j (.int .i64 v))) ((execOp ρ o).run Try.prog w) := by
  obtain ⟨dst, op, ty, pos, after, guard⟩ := o
  simp only at ho
  subst ho
  have f0 := h.frozen j
  have c0 := h.cell j
  rw [hc] at c0
  exact flowUpon_skip (w' := w.setCell ⟨x, j, none⟩ (.int .i64 v)) (by go_simp) ⟨rfl, just_at w x _ _, h.put j (.int .i64 v)⟩
/-- a row of asks that is being made; D: where those that came in hold their texts -/
def Rel (w : World) (D : Nat → Prop) (s : Value) (k : Nat) (wr : World) : Prop := ∃ (qs : List Ask) (R D' : Nat → Prop), Own wr R 25 5 s k (qs.flatMap Ask.cells) ∧ (∀ a ∈ qs, AskIn wr D' a) ∧ (∀ b, R b → New w wr b ∧ ¬ D' b) ∧ (∀ b, D' b → b < wr.heap.size) ∧ (∀ b, D b → D' b) ∧ Grow w wr
theorem rel_next {w wr wf wg w3 : World} {D R D' : Nat → Prop} {v : Value} {k m : Nat} {qs zs : List Ask} (hR : ∀ b, R b → New w wr b ∧ ¬ D' b) (hDl : ∀ b, D' b → b < wr.heap.size) (hDD : ∀ b, D b → D' b) (hgw : Grow w wr) (hin : ∀ a ∈ qs, AskIn wr D' a)
    (hgf : Grow wr wf) (hai : ∀ a ∈ zs, AskIn wf (fun b => D b ∨ (wr.heap.size ≤ b ∧ b < wf.heap.size)) a) (hgB : Grow wf wg) (hO : Own w3 (Ext R wg w3) 25 5 v (k + m) (qs.flatMap Ask.cells ++ zs.flatMap Ask.cells)) (hj : Just R wg w3) : Rel w D v (k + m) w3 := by
  have hs1 := hgw.size
  have hs2 := hgf.size
  have hs3 := hgB.size
  have hs4 := hj.size
  have hoff : ∀ b, (D' b ∨ (wr.heap.size ≤ b ∧ b < wf.heap.size)) → ¬ R b := fun b hb h => by
    rcases hb with hb | hb
    · exact (hR b h).2 hb
    · have := (hR b h).1.2; omega
  refine ⟨qs ++ zs, Ext R wg w3, fun b => D' b ∨ (wr.heap.size ≤ b ∧ b < wf.heap.size), ?_, fun a' ha => ?_, fun b hb => ?_, fun b hb => ?_, fun b hb => .inl (hDD b hb), ?_⟩
  · rw [List.flatMap_append]; exact hO
  · rcases List.mem_append.1 ha with h | h
    · exact ((((hin a' h).grow (hgf.trans hgB)).mono fun b hb => Or.inl hb).just (U := R) (D := fun b => D' b ∨ (wr.heap.size ≤ b ∧ b < wf.heap.size)) hj hoff)
    · refine (((hai a' h).grow hgB).mono fun b hb => ?_).just (D := fun b => D' b ∨ (wr.heap.size ≤ b ∧ b < wf.heap.size)) hj hoff
      rcases hb with hb | hb
      · exact .inl (hDD b hb)
      · exact .inr hb
  · rcases hb with hb | hb
    · exact ⟨⟨(hR b hb).1.1, by have := (hR b hb).1.2; omega⟩, fun h => hoff b h hb⟩
    · have h1 := hb.1
      refine ⟨⟨by omega, hb.2⟩, fun h => ?_⟩
      rcases h with h | h
      · have := hDl b h; omega
      · omega
  · rcases hb with hb | hb
    · have := hDl b hb; omega
    · omega
  · exact Below.trans ((hgw.trans hgf).trans hgB) (hj.below (B := w.heap.size) (fun b hb => (hR b hb).1.1) (by omega))
set_option maxRecDepth 100000 in
set_option maxHeartbeats 4000000 in
theorem plays_any (w : World) (V D : Nat → Prop) (A : Option Addr) (n c : Nat) (q : List Ask) (hq : Asks w V D A n q) (hV : ∀ b, V b → b < w.heap.size) (hD : ∀ b, D b → b < w.heap.size) (hn : n ≤ 1048576) (nodes : Int) :
    Calls Try.prog 4 #[.int .i64 nodes, .slice A n c] w fun e w' => e = .returned (.bool true) ∧ Grow w w' := by
  have k9 : ∀ (vs : Array Value) (w : World), (callFunc 9 vs).run Try.prog w = .ok (.enter 9 vs) w := fun vs w => by go_simp
  go_enter Try.func4, Try.ntmps4
  go_wp2_with fail
  go_loopw [5, 10] (fun s i wr => ∃ k : Nat, k ≤ n ∧ i = .int .i64 k ∧ Rel w D s k wr) (fun _ i _ => n - (intOf i).toNat)
  case atStart => exact ⟨0, by omega, rfl, [], fun _ => False, D, Own.nil, by simp, fun _ h => h.elim, hD, fun _ h => h, Grow.refl _⟩
  case round =>
    obtain ⟨k, hkn, rfl, qs, R, D', hO, hin, hR, hDl, hDD, hgw⟩ := hrel
    obtain ⟨A1, c1, rfl, hI1, hn1, hm1⟩ := hO.in_
    by_cases hk : k < n
    · obtain ⟨ad, hqk, rfl, hVa, hba, e0, e12⟩ := (hq.row.grow hgw).rec_ (by omega) ask_len hk
      have hai0 := hq.all _ (List.getElem_mem hqk)
      have e0 := e0 _ rfl
      have e1 := e12 0 _ rfl
      have e2 := e12 1 _ rfl
      have e3 := e12 2 _ rfl
      have e4 := e12 3 _ rfl
      clear e12
      generalize q[k] = a at hai0 e0 e1 e2 e3 e4
      obtain ⟨kd, aa, bb, ii, Ab, mb, cb, bs⟩ := a
      obtain ⟨hds, hle, hmx, hsm, hkd, haa, hbb, hii⟩ := hai0
      dsimp only at hds hle hmx hsm hkd haa hbb hii e0 e1 e2 e3 e4
      have hga : Grow wr (wr.alloc (.cells #[.int .i64 kd, .int .i64 aa, .int .i64 bb, .int .i64 ii, .slice Ab mb cb] 25)) := (Below.refl wr.heap.size wr).alloc (Nat.le_refl _) _
      have hBx0 := Blk.made wr 25 #[.int .i64 kd, .int .i64 aa, .int .i64 bb, .int .i64 ii, .slice Ab mb cb]
      obtain ⟨x, HX⟩ : ∃ x : Nat, Hid (x = wr.heap.size) := ⟨_, rfl⟩
      have hxr : wr.heap.size ≤ x := by have := HX.out; omega
      obtain ⟨wa, HA⟩ : ∃ wa : World, Hid (wa = wr.alloc (.cells #[.int .i64 kd, .int .i64 aa, .int .i64 bb, .int .i64 ii, .slice Ab mb cb] 25)) := ⟨_, rfl⟩
      rw [← HA.out] at hga
      have hBx : Blk wa x 25 #[.int .i64 kd, .int .i64 aa, .int .i64 bb, .int .i64 ii, .slice Ab mb cb] := by rw [HA.out, HX.out]; exact hBx0
      clear hBx0
      have hRlt : ∀ b, R b → b < wr.heap.size := fun b hb => (hR b hb).1.2
      go_wp2_with fail
      rw [← HA.out, ← HX.out]
      refine wp_region_reg rfl ?_
      refine reg_flow (AskSt 25 x #[.int .i64 kd, .int .i64 aa, .int .i64 bb, .int .i64 ii, .slice Ab mb cb] #[.int .i64 (withinF kd 0 6), .int .i64 aa, .int .i64 bb, .int .i64 ii, .slice Ab mb cb] #[.int .i64 (withinF kd 0 6), .int .i64 (withinF aa (-1) 4), .int .i64 bb, .int .i64 ii, .slice Ab mb cb] #[.int .i64 (withinF kd 0 6), .int .i64 (withinF aa (-1) 4), .int .i64 (withinF bb (-1) 4), .int .i64 ii, .slice Ab mb cb] #[.int .i64 (withinF kd 0 6), .int .i64 (withinF aa (-1) 4), .int .i64 (withinF bb (-1) 4), .int .i64 (ii % 16), .slice Ab mb cb]) (askSt_ok _ _ _ _ _ _ _) 0 20 55 [(2, .inl (.int .i64 (withinF kd 0 6))), (5, .inl (.int .i64 (withinF aa (-1) 4))), (8, .inl (.int .i64 (withinF bb (-1) 4))), (13, .inl (undef)), (15, .inl (undef)), (17, .inl (undef)), (19, .inl (undef))] rfl (by kernel_rfl) (by kernel_rfl) (by kernel_rfl) ?_ (Just.of_grow (Grow.refl _).drew) hBx ?_
      · intro x hx φ he
        simp only [List.mem_cons, List.not_mem_nil, or_false] at hx
        rcases hx with rfl | rfl | rfl | rfl | rfl | rfl | rfl <;> cases he
      intro ops' A' K' T hops hA' hK hT
      refine fl_op1 17 (by rfl) (by decide) (wanted_none (by rfl)) (by rw [hK.out]; rfl) (by rfl) (.tmp 7) (.pointer (some ⟨x, 0, none⟩)) (by rfl) (.pointer (some ⟨x, 0, none⟩)) (fun ρ h1 kk w1 (hg : Just (fun b => b = x) _ w1) hb hf => by go_simp) ?_
      refine fl_op1 18 (by rfl) (by decide) (wanted_none (by rfl)) (by rw [hK.out]; rfl) (by rfl) (.tmp 17) (.pointer (some ⟨x, 0, none⟩)) (by rfl) (.int .i64 kd) (fun ρ h1 kk w1 (hg : Just (fun b => b = x) _ w1) hb hf => by obtain rfl := before_some 0 (by rfl) hb; have hI := hb.1; have c := hI.cell 0; go_simp) ?_
      refine fl_call 19 (by rfl) (by decide) (wanted_none (by rfl)) (.int .i64 (withinF kd 0 6)) (by rw [hK.out]; rfl) 9 _ _ (by rfl) [.int .i64 kd, .int .i64 0, .int .i64 6] (by rfl) k9 (fun kk w1 (hg : Just (fun b => b = x) _ w1) hb hf => calls_behind (by rfl) (by exact grew_same (within_is w1 kd 0 6 hkd (by omega) (by omega) (by omega)))) ?_
      refine fl_op1 20 (by rfl) (by decide) (wanted_none (by rfl)) (by rw [hK.out]; rfl) (by rfl) (.tmp 7) (.pointer (some ⟨x, 0, none⟩)) (by rfl) (.pointer (some ⟨x, 1, none⟩)) (fun ρ h1 kk w1 (hg : Just (fun b => b = x) _ w1) hb hf => by go_simp) ?_
      refine fl_op1 21 (by rfl) (by decide) (wanted_none (by rfl)) (by rw [hK.out]; rfl) (by rfl) (.tmp 20) (.pointer (some ⟨x, 1, none⟩)) (by rfl) (.int .i64 aa) (fun ρ h1 kk w1 (hg : Just (fun b => b = x) _ w1) hb hf => by obtain rfl := before_some 0 (by rfl) hb; have hI := hb.1; have c := hI.cell 1; go_simp) ?_
      refine fl_call 22 (by rfl) (by decide) (wanted_none (by rfl)) (.int .i64 (withinF aa (-1) 4)) (by rw [hK.out]; rfl) 9 _ _ (by rfl) [.int .i64 aa, .int IntKind.i64 (-1), .int .i64 4] (by rfl) k9 (fun kk w1 (hg : Just (fun b => b = x) _ w1) hb hf => calls_behind (by rfl) (by exact grew_same (within_is w1 aa (-1) 4 haa (by omega) (by omega) (by omega)))) ?_
      refine fl_op1 23 (by rfl) (by decide) (wanted_none (by rfl)) (by rw [hK.out]; rfl) (by rfl) (.tmp 7) (.pointer (some ⟨x, 0, none⟩)) (by rfl) (.pointer (some ⟨x, 2, none⟩)) (fun ρ h1 kk w1 (hg : Just (fun b => b = x) _ w1) hb hf => by go_simp) ?_
      refine fl_op1 24 (by rfl) (by decide) (wanted_none (by rfl)) (by rw [hK.out]; rfl) (by rfl) (.tmp 23) (.pointer (some ⟨x, 2, none⟩)) (by rfl) (.int .i64 bb) (fun ρ h1 kk w1 (hg : Just (fun b => b = x) _ w1) hb hf => by obtain rfl := before_some 0 (by rfl) hb; have hI := hb.1; have c := hI.cell 2; go_simp) ?_
      refine fl_call 25 (by rfl) (by decide) (wanted_none (by rfl)) (.int .i64 (withinF bb (-1) 4)) (by rw [hK.out]; rfl) 9 _ _ (by rfl) [.int .i64 bb, .int IntKind.i64 (-1), .int .i64 4] (by rfl) k9 (fun kk w1 (hg : Just (fun b => b = x) _ w1) hb hf => calls_behind (by rfl) (by exact grew_same (within_is w1 bb (-1) 4 hbb (by omega) (by omega) (by omega)))) ?_
      refine fl_op1 26 (by rfl) (by decide) (wanted_none (by rfl)) (by rw [hK.out]; rfl) (by rfl) (.tmp 7) (.pointer (some ⟨x, 0, none⟩)) (by rfl) (.pointer (some ⟨x, 3, none⟩)) (fun ρ h1 kk w1 (hg : Just (fun b => b = x) _ w1) hb hf => by go_simp) ?_
      refine fl_op1 27 (by rfl) (by decide) (wanted_none (by rfl)) (by rw [hK.out]; rfl) (by rfl) (.tmp 26) (.pointer (some ⟨x, 3, none⟩)) (by rfl) (.int .i64 ii) (fun ρ h1 kk w1 (hg : Just (fun b => b = x) _ w1) hb hf => by obtain rfl := before_some 0 (by rfl) hb; have hI := hb.1; have c := hI.cell 3; go_simp) ?_
      refine fl_op2 28 (by rfl) (by decide) (wanted_none (by rfl)) (by rw [hK.out]; rfl) (by rfl) (.tmp 27) (.const (.int .i64 15)) (.int .i64 ii) (.int .i64 15) (by rfl) (by rfl) (.int .i64 (ii % 16)) (fun ρ h1 h2 kk w1 (hg : Just (fun b => b = x) _ w1) hb hf => by have e15 := and15 ii; go_simp) ?_
      refine fl_op1 29 (by rfl) (by decide) (wanted_none (by rfl)) (by rw [hK.out]; rfl) (by rfl) (.tmp 7) (.pointer (some ⟨x, 0, none⟩)) (by rfl) (.pointer (some ⟨x, 0, none⟩)) (fun ρ h1 kk w1 (hg : Just (fun b => b = x) _ w1) hb hf => by go_simp) ?_
      refine fl_do2 (by rfl) (wanted_none (by rfl)) (undef) (by rw [hK.out]; rfl) (.tmp 29) (.tmp 19) (.pointer (some ⟨x, 0, none⟩)) (.int .i64 (withinF kd 0 6)) (by rfl) (by rfl) (fun ρ h1 h2 kk w1 (hg : Just (fun b => b = x) _ w1) hb hf => by obtain rfl := before_some 0 (by rfl) hb; have hI := hb.1; refine upon_turn 0 (by rfl) ?_; exact ask_store hI h1 h2 rfl rfl) ?_
      refine fl_op1 30 (by rfl) (by decide) (wanted_none (by rfl)) (by rw [hK.out]; rfl) (by rfl) (.tmp 7) (.pointer (some ⟨x, 0, none⟩)) (by rfl) (.pointer (some ⟨x, 1, none⟩)) (fun ρ h1 kk w1 (hg : Just (fun b => b = x) _ w1) hb hf => by go_simp) ?_
      refine fl_do2 (by rfl) (wanted_none (by rfl)) (undef) (by rw [hK.out]; rfl) (.tmp 30) (.tmp 22) (.pointer (some ⟨x, 1, none⟩)) (.int .i64 (withinF aa (-1) 4)) (by rfl) (by rfl) (fun ρ h1 h2 kk w1 (hg : Just (fun b => b = x) _ w1) hb hf => by obtain rfl := before_some 1 (by rfl) hb; have hI := hb.1; refine upon_turn 1 (by rfl) ?_; exact ask_store hI h1 h2 rfl rfl) ?_
      refine fl_op1 31 (by rfl) (by decide) (wanted_none (by rfl)) (by rw [hK.out]; rfl) (by rfl) (.tmp 7) (.pointer (some ⟨x, 0, none⟩)) (by rfl) (.pointer (some ⟨x, 2, none⟩)) (fun ρ h1 kk w1 (hg : Just (fun b => b = x) _ w1) hb hf => by go_simp) ?_
      refine fl_do2 (by rfl) (wanted_none (by rfl)) (undef) (by rw [hK.out]; rfl) (.tmp 31) (.tmp 25) (.pointer (some ⟨x, 2, none⟩)) (.int .i64 (withinF bb (-1) 4)) (by rfl) (by rfl) (fun ρ h1 h2 kk w1 (hg : Just (fun b => b = x) _ w1) hb hf => by obtain rfl := before_some 2 (by rfl) hb; have hI := hb.1; refine upon_turn 2 (by rfl) ?_; exact ask_store hI h1 h2 rfl rfl) ?_
      refine fl_op1 32 (by rfl) (by decide) (wanted_none (by rfl)) (by rw [hK.out]; rfl) (by rfl) (.tmp 7) (.pointer (some ⟨x, 0, none⟩)) (by rfl) (.pointer (some ⟨x, 3, none⟩)) (fun ρ h1 kk w1 (hg : Just (fun b => b = x) _ w1) hb hf => by go_simp) ?_
      refine fl_do2 (by rfl) (wanted_none (by rfl)) (undef) (by rw [hK.out]; rfl) (.tmp 32) (.tmp 28) (.pointer (some ⟨x, 3, none⟩)) (.int .i64 (ii % 16)) (by rfl) (by rfl) (fun ρ h1 h2 kk w1 (hg : Just (fun b => b = x) _ w1) hb hf => by obtain rfl := before_some 3 (by rfl) hb; have hI := hb.1; refine upon_turn 3 (by rfl) ?_; exact ask_store64 hI h1 h2 rfl rfl) ?_
      refine fl_end (fun _ _ w1 (hg : Just (fun b => b = x) _ w1) hend hfacts => hT _ _ ?_)
      clear hops hA' hK hT
      simp only [putsL, Act.put, List.setIfInBounds_toArray, List.set_cons_zero, List.set_cons_succ]
      refine reg_end ?_
      have hE : Blk w1 x 25 #[.int .i64 (withinF kd 0 6), .int .i64 (withinF aa (-1) 4), .int .i64 (withinF bb (-1) 4), .int .i64 (ii % 16), .slice Ab mb cb] := hend
      have hgf : Grow wr w1 := Below.trans hga (hg.below (B := wr.heap.size) (fun b hb => by rw [show b = x from hb]; exact hxr) hga.size)
      clear hend hfacts hg hga hBx HA
      have g0 := hE.cell 0
      have g1 := hE.cell 1
      have g2 := hE.cell 2
      have g3 := hE.cell 3
      have g4 := hE.cell 4
      have q1 := withinF_in (n := kd) (lo := 0) (hi := 6) (by omega)
      have q2 := withinF_in (n := aa) (lo := -1) (hi := 4) (by omega)
      have q3 := withinF_in (n := bb) (lo := -1) (hi := 4) (by omega)
      generalize withinF kd 0 6 = v0 at g0 q1
      generalize withinF aa (-1) 4 = v1 at g1 q2
      generalize withinF bb (-1) 4 = v2 at g2 q3
      have hai : AskIn w1 (fun b => D b ∨ (wr.heap.size ≤ b ∧ b < w1.heap.size)) ⟨v0, v1, v2, ii % 16, Ab, mb, cb, bs⟩ := ⟨In.mono (V := D) (In.grow (In.grow hds hgw) hgf) fun b hb => .inl hb, hle, hmx, hsm, by show I64 v0; unfold I64; omega, by show I64 v1; unfold I64; omega, by show I64 v2; unfold I64; omega, by show I64 (ii % 16); unfold I64; omega⟩
      generalize ii % 16 = v3 at g3 hai
      clear hE q1 q2 q3
      have hgB : Grow w1 (w1.alloc (.cells #[.int .i64 v0, .int .i64 v1, .int .i64 v2, .int .i64 v3, .slice Ab mb cb] 25)) := (Below.refl _ _).alloc (Nat.le_refl _) _
      go_wp2_with (at_builtin; refine stay ?_)
      refine stay_out ?_
      refine wpList_own (V := R) askE _ rfl (.tmp 33) (.tmp 35) rfl (.slice A1 k c1) k (qs.flatMap Ask.cells) rfl ((hO.grow hRlt hgf).grow (fun b hb => by have := hRlt b hb; have := hgf.size; omega) hgB) (w1.heap.size + 1) (some ⟨w1.heap.size, 0, none⟩) 1 1 ([(⟨v0, v1, v2, v3, Ab, mb, cb, bs⟩ : Ask)].flatMap Ask.cells) rfl (reads_laid w1 _ 25 _ rfl _ rfl) (ask_one _) (by omega) ?_
      intro v3' w3 hO3 hj3
      have hrel := rel_next (zs := [⟨v0, v1, v2, v3, Ab, mb, cb, bs⟩]) hR hDl hDD hgw hin hgf (fun a ha => by rw [List.mem_singleton.1 ha]; exact hai) hgB hO3 hj3
      clear hO3 hj3 hO hin hgB hai
      go_wp2_with fail
      go_roundw
      case rel => exact ⟨k + 1, by omega, by go_num, hrel⟩
      case measure => simp [intOf]; omega
    · obtain rfl : k = n := by omega
      have hAs : Asks wr R D' A1 k qs := ⟨hI1, hin⟩
      have hgr : ∀ w7, Grow wr w7 → Asks w7 V D A k q := fun w7 hg => hq.grow (hgw.trans hg)
      have e3 := and3 nodes
      have hp1 := fun nd => play_any wr R D' A1 k c1 qs hAs (fun b hb => (hR b hb).1.2) hDl nd
      clear hO hI1 hin
      go_wp2_with fail
      go_at_call 7
      refine (hp1 _).mono ?_
      rintro e w7 ⟨rfl, hg7⟩
      clear hp1 hAs
      have hs7 := (hgw.trans hg7).size
      have hp2 := play_any w7 V D A k c q (hgr w7 hg7) (fun b hb => Nat.lt_of_lt_of_le (hV b hb) hs7) (fun b hb => Nat.lt_of_lt_of_le (hD b hb) hs7) nodes
      go_wp2_with fail
      go_at_call 7
      refine hp2.mono ?_
      rintro e w8 ⟨rfl, hg8⟩
      clear hp2
      have hs8 := ((hgw.trans hg7).trans hg8).size
      have hp3 := play_any w8 V D A k c q (hgr w8 (hg7.trans hg8)) (fun b hb => Nat.lt_of_lt_of_le (hV b hb) hs8) (fun b hb => Nat.lt_of_lt_of_le (hD b hb) hs8) 4
      go_wp2_with fail
      go_at_call 7
      refine hp3.mono ?_
      rintro e w9 ⟨rfl, hg9⟩
      clear hp3 hgr
      go_wp2_with fail
      go_at_call 8
      refine (known_any _).mono ?_
      rintro e w10 ⟨rfl, hg10⟩
      go_wp2_with fail
      go_ret
      exact ⟨rfl, (((hgw.trans hg7).trans hg8).trans hg9).trans hg10⟩
end Go.Proofs.Ytacigekkfgeipaa
