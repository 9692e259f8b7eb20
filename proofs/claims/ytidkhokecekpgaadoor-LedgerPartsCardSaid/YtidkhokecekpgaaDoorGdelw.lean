/- entry.Deltas: its walk. -/
import Derived.Test.YtidkhokecekpgaaDoorGdel
namespace Go.Proofs.YtidkhokecekpgaaDoor
open Go.RowKit Go.Hop
theorem clip_del (w : World) (A : Option Addr) (n c : Nat) (hn : n ≤ c) :
    Calls Tryd.prog 26 #[.slice A n c] w fun e w' => e = .returned (.slice A n n) ∧ w = w' := by
  go_enter Tryd.func26, Tryd.ntmps26
  go_wp2_with fail
  go_ret
  exact ⟨rfl, rfl⟩
theorem join_take {q : List Dl} {k : Nat} (hk : k < q.length) : joinD (q.take (k + 1)) = putD (joinD (q.take k)) q[k] := by
  unfold joinD
  rw [List.take_succ_eq_append_getElem hk, List.foldl_append]
  rfl
theorem putD_len (r : List Dl) (d : Dl) : (putD r d).length ≤ r.length + 1 := by
  unfold putD
  split
  · rw [List.length_set]; omega
  · simp
theorem joinD_num : ∀ (q r : List Dl), (∀ d ∈ q, d.2 ≤ M64) → (∀ d ∈ r, d.2 ≤ M64) → ∀ d ∈ q.foldl putD r, d.2 ≤ M64
  | [], r, _, h => h
  | x :: q, r, hq, h => by
    refine joinD_num q (putD r x) (fun d hd => hq d (List.mem_cons_of_mem _ hd)) fun d hd => ?_
    unfold putD at hd
    split at hd
    · rcases List.mem_or_eq_of_mem_set hd with hd | hd
      · exact h d hd
      · rw [hd]; exact Nat.min_le_right _ _
    · rcases List.mem_append.1 hd with hd | hd
      · exact h d hd
      · rw [List.mem_singleton.1 hd]; exact hq x List.mem_cons_self
set_option maxRecDepth 100000 in
set_option maxHeartbeats 1000000 in
theorem eDeltas_any (w : World) (V : Nat → Prop) (A : Option Addr) (n c : Nat) (q : List Dl) (h : In w V 2 A n (dcells q)) (hn : n ≤ 1000000) (hf : ∀ d ∈ q, d.2 ≤ M64) :
    Calls Tryd.prog 17 #[.slice A n c] w fun e w' => ∃ A', e = .returned (.slice A' (joinD q).length (joinD q).length) ∧ Own w' (New w w') 30 2 (.slice A' (joinD q).length (joinD q).length) (joinD q).length (dcells (joinD q)) ∧ Grow w w' := by
  have hll := DIn.len' h
  have HLL := Lib.hid hll
  clear hll
  go_enter Tryd.func17, Tryd.ntmps17
  go_wp2_with fail
  go_loopw [3, 9] (fun o i wr => ∃ (k : Nat) (r : List Dl), k ≤ n ∧ i = .int .i64 (k : Int) ∧ r = joinD (q.take k) ∧ r.length ≤ k ∧ Own wr (New w wr) 30 2 o r.length (dcells r) ∧ Grow w wr) (fun _ i _ => n - (intOf i).toNat)
  case atStart => exact ⟨0, [], by omega, rfl, rfl, by simp, Own.nil, Grow.refl _⟩
  case round =>
    obtain ⟨k, r, hkn, rfl, hr, hrk, hO, hgr⟩ := hrel
    obtain ⟨A1, c1, rfl, hI1, hn1, hm1⟩ := hO.in_
    by_cases hk : k < n
    · have hd : decide ((k : Int) < (n : Int)) = true := decide_eq_true (by omega)
      obtain ⟨ad, hq, rfl, f0, f1⟩ := del_at (h.grow hgr) hk
      have e0 := f0 wr (Grow.refl _)
      have e1 := f1 wr (Grow.refl _)
      have hk' : ¬ n ≤ k := by omega
      have hjt := join_take hq
      rw [← hr] at hjt
      have HJT := Lib.hid hjt
      have hd2 := hf _ (List.getElem_mem hq)
      have hrn : ∀ e ∈ r, e.2 ≤ M64 := by
        rw [hr]
        exact joinD_num _ [] (fun d hd => hf d (List.mem_of_mem_take hd)) fun d hd => absurd hd List.not_mem_nil
      generalize q[k] = d at e0 e1 hjt HJT hd2
      clear f0 f1 hr hjt
      obtain ⟨x, HX⟩ : ∃ x : Nat, Hid (x = wr.heap.size) := ⟨_, rfl⟩
      obtain ⟨w2, HW⟩ : ∃ w2 : World, Hid (w2 = wr.alloc (.cells #[.string d.1, .int .u64 (d.2 : Int)] 30)) := ⟨_, rfl⟩
      have hg2 : Grow wr w2 := by rw [HW.out]; exact (Below.refl _ _).alloc (Nat.le_refl _) _
      have hB2 : Blk w2 x 30 #[.string d.1, .int .u64 (d.2 : Int)] := by rw [HW.out, HX.out]; exact Blk.made wr _ _
      have hIF := IndexFunc_any w2 (New w wr) A1 r.length c1 r d x hB2 (hI1.grow hg2) (by omega)
      obtain ⟨V, HV⟩ : ∃ V : Nat → Prop, Hid (V = New w wr) := ⟨_, rfl⟩
      have hxV : ¬ V x := fun h => by rw [HV.out] at h; have := h.2; have := HX.out; omega
      have hVb : ∀ b, V b → w.heap.size ≤ b ∧ b < wr.heap.size := fun b hb => by rw [HV.out] at hb; exact hb
      have hO2 : Own w2 V 30 2 (.slice A1 r.length c1) r.length (dcells r) := by rw [HV.out]; exact hO.grows hg2
      have hgs := hgr.size
      go_wp2_with fail
      rw [← HX.out, ← HW.out]
      clear e0 e1 hI1 hO HV
      go_wp2_with fail
      refine hIF.mono ?_
      rintro e w3 ⟨z, rfl, hz, hg3⟩
      clear hIF
      have hO3 : Own w3 V 30 2 (.slice A1 r.length c1) r.length (dcells r) := hO2.grows hg3
      have hB3 := hB2.grow hg3
      have hgw3 := (hgr.trans hg2).trans hg3
      have hs23 : wr.heap.size ≤ w3.heap.size := Nat.le_trans hg2.size hg3.size
      have hszw := hgw3.size
      clear hO2 hB2 hg2 hg3
      rcases hz with ⟨rfl, hz⟩ | ⟨rfl, hz⟩
      · have c0 := hB3.cell 0
        have c1' := hB3.cell 1
        have hput : putD r d = r ++ [d] := by unfold putD; rw [dif_neg hz]
        rw [hput] at HJT
        clear hz hput
        go_wp2_with (at_builtin; refine stay ?_)
        refine stay_out ?_
        have hga : Grow w3 (w3.alloc (.cells #[.string d.1, .int .u64 (d.2 : Int)] 30)) := (Below.refl _ _).alloc (Nat.le_refl _) _
        refine wpList_own (V := V) deltaE _ rfl (.tmp 18) (.tmp 20) rfl (.slice A1 r.length c1) r.length (dcells r) rfl (hO3.grows hga) (w3.heap.size + 1) (some ⟨w3.heap.size, 0, none⟩) 1 1 (dcells [d]) rfl (reads_laid w3 #[.string d.1, .int .u64 (d.2 : Int)] 30 (0, 0) (n := 1) (size := 2) rfl w3.heap.size rfl) (dcells_one _) (by omega) ?_
        intro v5 w5 hO5 hj5
        have hs5 := hj5.size
        simp at hs5
        have hO6 : Own w5 (New w w5) 30 2 v5 (r ++ [d]).length (dcells (r ++ [d])) := by
          rw [List.length_append, show dcells (r ++ [d]) = dcells r ++ dcells [d] by unfold dcells; rw [List.flatMap_append]]
          refine hO5.mono fun b hb => ?_
          rcases hb with hb | hb
          · have := hVb b hb; exact ⟨this.1, by omega⟩
          · have h6 := hb.1
            simp at h6
            exact ⟨by omega, hb.2⟩
        have hg6 : Grow w w5 := Below.trans (hgw3.trans hga) (hj5.below (B := w.heap.size) (fun b hb => (hVb b hb).1) (by simp; omega))
        have hl6 : (r ++ [d]).length ≤ k + 1 := by simp; omega
        clear hO5 hj5 hO3 hga c0 c1'
        have hjt := HJT.out
        clear HJT
        generalize r ++ [d] = r6 at hO6 hl6 hjt
        have HJT := Lib.hid hjt
        clear hjt
        go_wp2_with fail
        go_roundw
        case rel => exact ⟨k + 1, r6, by omega, by go_num, HJT.out.symm, hl6, hO6, hg6⟩
        case measure => simp [intOf]; omega
      · obtain ⟨i, HI⟩ : ∃ i : Nat, Hid (i = r.findIdx fun e => decide (e.1 = d.1)) := ⟨_, Lib.hid rfl⟩
        have hput : putD r d = r.set (r.findIdx fun e => decide (e.1 = d.1)) (r[r.findIdx fun e => decide (e.1 = d.1)].1, min (r[r.findIdx fun e => decide (e.1 = d.1)].2 + d.2) M64) := by unfold putD; rw [dif_pos hz]
        rw [hput] at HJT
        simp only [← HI.out] at hz HJT ⊢
        clear hput
        have hir := hz
        have hri := hrn _ (List.getElem_mem hir)
        obtain ⟨g, c9, hsl, hVg, _, _, _⟩ := own_shape hO3 (by omega)
        injection hsl with e1 e2 e3
        subst e1; subst e3
        have hi' : ¬ r.length ≤ i := by omega
        have hi0 : ¬ (i : Int) < 0 := by omega
        have hid : decide ((i : Int) < 0) = false := decide_eq_false (by omega)
        have k39 : ∀ (vs : Array Value) (w : World), (callFunc 39 vs).run Tryd.prog w = .ok (.enter 39 vs) w := fun vs w => by go_simp
        clear hz
        go_wp2_with fail
        refine wp_region_reg rfl ?_
        refine reg_flow (SetSt V (.slice (some ⟨g, 0, none⟩) r.length c1) r.length r i (r[i].1, min (r[i].2 + d.2) M64)) setSt_ok 0 13 37 [(9, .inl (.int .u64 ((min (r[i].2 + d.2) M64 : Nat) : Int))), (12, .inl (undef))] rfl (by kernel_rfl) (by kernel_rfl) (by kernel_rfl) ?_ (Just.of_grow (Grow.refl _).drew) hO3 ?_
        · intro x hx φ he
          simp only [List.mem_cons, List.not_mem_nil, or_false] at hx
          rcases hx with rfl | rfl <;> cases he
        intro ops' A' K' T hops hA' hK hT
        refine fl_mv 22 (by rfl) (by decide) (wanted_none (by rfl)) (by rw [hK.out]; rfl) (by rfl) _ (Or.inl (by rfl)) (.slice (some ⟨g, 0, none⟩) r.length c1) (by rfl) ?_
        refine fl_mv 23 (by rfl) (by decide) (wanted_none (by rfl)) (by rw [hK.out]; rfl) (by rfl) _ (Or.inl (by rfl)) (.int .i64 (i : Int)) (by rfl) ?_
        refine fl_mv 24 (by rfl) (by decide) (wanted_none (by rfl)) (by rw [hK.out]; rfl) (by rfl) _ (Or.inl (by rfl)) (.slice (some ⟨g, 0, none⟩) r.length c1) (by rfl) ?_
        refine fl_mv 25 (by rfl) (by decide) (wanted_none (by rfl)) (by rw [hK.out]; rfl) (by rfl) _ (Or.inl (by rfl)) (.int .i64 (i : Int)) (by rfl) ?_
        refine fl_op2 26 (by rfl) (by decide) (wanted_none (by rfl)) (by rw [hK.out]; rfl) (by rfl) (.tmp 24) (.tmp 25) (.slice (some ⟨g, 0, none⟩) r.length c1) (.int .i64 (i : Int)) (by rfl) (by rfl) (.pointer (some ⟨g, i * 2, none⟩)) (fun ρ h1 h2 kk w1 (hg : Just V _ w1) hb hf => by go_simp; try (intro hlt; omega)) ?_
        refine fl_op1 27 (by rfl) (by decide) (wanted_none (by rfl)) (by rw [hK.out]; rfl) (by rfl) (.tmp 26) (.pointer (some ⟨g, i * 2, none⟩)) (by rfl) (.pointer (some ⟨g, i * 2 + 1, none⟩)) (fun ρ h1 kk w1 (hg : Just V _ w1) hb hf => by go_simp) ?_
        refine fl_op1 28 (by rfl) (by decide) (wanted_none (by rfl)) (by rw [hK.out]; rfl) (by rfl) (.tmp 27) (.pointer (some ⟨g, i * 2 + 1, none⟩)) (by rfl) (.int .u64 (r[i].2 : Int)) (fun ρ h1 kk w1 (hg : Just V _ w1) hb hf => by obtain rfl := before_some 0 (by rfl) hb; have hI := hb.1; have q := del_own hI hir; have c1 := q.2.1; go_simp) ?_
        refine fl_op1 29 (by rfl) (by decide) (wanted_none (by rfl)) (by rw [hK.out]; rfl) (by rfl) (.tmp 5) (.pointer (some ⟨x, 0, none⟩)) (by rfl) (.pointer (some ⟨x, 1, none⟩)) (fun ρ h1 kk w1 (hg : Just V _ w1) hb hf => by go_simp) ?_
        refine fl_op1 30 (by rfl) (by decide) (wanted_none (by rfl)) (by rw [hK.out]; rfl) (by rfl) (.tmp 29) (.pointer (some ⟨x, 1, none⟩)) (by rfl) (.int .u64 (d.2 : Int)) (fun ρ h1 kk w1 (hg : Just V _ w1) hb hf => by have c1 := (hg.blk hB3 hxV).cell 1; go_simp) ?_
        refine fl_call 31 (by rfl) (by decide) (wanted_none (by rfl)) (.int .u64 ((min (r[i].2 + d.2) M64 : Nat) : Int)) (by rw [hK.out]; rfl) 39 _ _ (by rfl) [.int .u64 (r[i].2 : Int), .int .u64 (d.2 : Int)] (by rfl) k39 (fun kk w1 (hg : Just V _ w1) hb hf => calls_behind (by rfl) (by exact grew_eq (eAdd_any w1 r[i].2 d.2 hri hd2))) ?_
        refine fl_op2 32 (by rfl) (by decide) (wanted_none (by rfl)) (by rw [hK.out]; rfl) (by rfl) (.tmp 22) (.tmp 23) (.slice (some ⟨g, 0, none⟩) r.length c1) (.int .i64 (i : Int)) (by rfl) (by rfl) (.pointer (some ⟨g, i * 2, none⟩)) (fun ρ h1 h2 kk w1 (hg : Just V _ w1) hb hf => by go_simp; try (intro hlt; omega)) ?_
        refine fl_op1 33 (by rfl) (by decide) (wanted_none (by rfl)) (by rw [hK.out]; rfl) (by rfl) (.tmp 32) (.pointer (some ⟨g, i * 2, none⟩)) (by rfl) (.pointer (some ⟨g, i * 2 + 1, none⟩)) (fun ρ h1 kk w1 (hg : Just V _ w1) hb hf => by go_simp) ?_
        refine fl_do2 (by rfl) (wanted_none (by rfl)) (undef) (by rw [hK.out]; rfl) (.tmp 33) (.tmp 31) (.pointer (some ⟨g, i * 2 + 1, none⟩)) (.int .u64 ((min (r[i].2 + d.2) M64 : Nat) : Int)) (by rfl) (by rfl) (fun ρ h1 h2 kk w1 (hg : Just V _ w1) hb hf => by obtain rfl := before_some 0 (by rfl) hb; have hI := hb.1; refine upon_turn 0 (by rfl) ?_; exact del_store1 hI hir h1 h2 rfl) ?_
        refine fl_end (fun _ _ w1 (hg : Just V _ w1) hend hfacts => hT _ _ ?_)
        clear hops hA' hK hT
        simp only [putsL, Act.put, List.setIfInBounds_toArray, List.set_cons_zero, List.set_cons_succ]
        have hO4 : Own w1 V 30 2 (.slice (some ⟨g, 0, none⟩) r.length c1) r.length (dcells (r.set i (r[i].1, min (r[i].2 + d.2) M64))) := hend
        clear hend hfacts hO3
        have hs1 := hg.size
        have hO6 : Own w1 (New w w1) 30 2 (.slice (some ⟨g, 0, none⟩) r.length c1) r.length (dcells (r.set i (r[i].1, min (r[i].2 + d.2) M64))) := hO4.mono fun b hb => by have := hVb b hb; exact ⟨this.1, by omega⟩
        have hg6 : Grow w w1 := Below.trans hgw3 (hg.below (B := w.heap.size) (fun b hb => (hVb b hb).1) hszw)
        have hl6 : (r.set i (r[i].1, min (r[i].2 + d.2) M64)).length = r.length := by simp
        have hjt := HJT.out
        clear HJT hO4
        generalize r.set i (r[i].1, min (r[i].2 + d.2) M64) = r6 at hO6 hl6 hjt
        rw [← hl6] at hO6
        have HJT := Lib.hid hjt
        have HL6 := Lib.hid hl6
        rw [← hl6]
        clear hjt hl6
        refine reg_end ?_
        go_wp2_with fail
        go_roundw
        case rel => exact ⟨k + 1, r6, by omega, by go_num, HJT.out.symm, by have := HL6.out; omega, hO6, hg6⟩
        case measure => simp [intOf]; omega
    · obtain rfl : k = n := by omega
      have hd : decide ((k : Int) < (k : Int)) = false := decide_eq_false (by omega)
      rw [List.take_of_length_le (by have := HLL.out; omega)] at hr
      have HR := Lib.hid hr
      clear hr
      go_wp2_with fail
      refine (clip_del _ _ _ _ hn1).mono ?_
      rintro e w' ⟨rfl, rfl⟩
      go_wp2_with fail
      go_ret
      have hr := HR.out
      subst hr
      refine ⟨A1, rfl, ?_, hgr⟩
      have := Own.cut hO (Nat.le_refl _)
      rwa [List.take_of_length_le (by rw [dcells_len]; exact Nat.le_refl _)] at this
end Go.Proofs.YtidkhokecekpgaaDoor
