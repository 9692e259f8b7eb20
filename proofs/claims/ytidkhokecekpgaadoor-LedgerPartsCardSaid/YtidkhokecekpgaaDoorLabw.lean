/- Tape.Labels: its walk. -/
import Derived.Test.YtidkhokecekpgaaDoorLabs
namespace Go.Proofs.YtidkhokecekpgaaDoor
open Go.RowKit Go.Hop
theorem flat_set : ∀ (h : List Lb) (k : Nat) (a : Lb), ((lcells h).set (k * 2) (.string a.1)).set (k * 2 + 1) (.string a.2) = lcells (h.set k a)
  | [], k, a => by simp [lcells]
  | b :: l, 0, a => rfl
  | b :: l, k + 1, a => by
    rw [show (k + 1) * 2 = k * 2 + 1 + 1 by omega, show lcells (b :: l) = .string b.1 :: .string b.2 :: lcells l from rfl]
    rw [List.set_cons_succ, List.set_cons_succ, List.set_cons_succ, List.set_cons_succ, flat_set l k a]
    rfl
set_option maxRecDepth 20000 in
theorem lab_own {w : World} {R : Nat → Prop} {g n c m : Nat} {h : List Lb} (hI : Own w R 36 2 (.slice (some ⟨g, 0, none⟩) n c) m (lcells h)) {k : Nat} (hk : k < h.length) :
    w.cell? ⟨g, k * 2, none⟩ = some (.string h[k].1) ∧ w.cell? ⟨g, k * 2 + 1, none⟩ = some (.string h[k].2) ∧ w.frozen? ⟨g, k * 2, none⟩ = false ∧ w.frozen? ⟨g, k * 2 + 1, none⟩ = false ∧
      ∀ a : Lb, Own ((w.setCell ⟨g, k * 2, none⟩ (.string a.1)).setCell ⟨g, k * 2 + 1, none⟩ (.string a.2)) R 36 2 (.slice (some ⟨g, 0, none⟩) n c) m (lcells (h.set k a)) ∧ Just R w ((w.setCell ⟨g, k * 2, none⟩ (.string a.1)).setCell ⟨g, k * 2 + 1, none⟩ (.string a.2)) := by
  obtain ⟨hlen, h0 | ⟨g', cap, cur, e1, hV, hg, hnc, hm, hsz, htk⟩⟩ := hI
  · rw [lcells_len] at hlen; omega
  injection e1 with e1 e2 e3
  injection e1 with e1
  injection e1 with e1 _ _
  subst e1 e2 e3
  rw [lcells_len] at hlen
  have hB : Blk w g 36 cur := hg
  have hget : ∀ j, j < 2 → cur[k * 2 + j]? = (lcell h[k])[j]? := fun j hj => by
    have h1 := flat_get lcell 2 lcell_len h k j hk hj
    change (lcells h)[k * 2 + j]? = _ at h1
    rw [← htk, List.getElem?_take, if_pos (by omega)] at h1
    simpa using h1
  have h0 := hget 0 (by omega)
  have h1 := hget 1 (by omega)
  refine ⟨(hB.cell _).trans h0, (hB.cell _).trans h1, hB.frozen _, hB.frozen _, fun a => ⟨⟨by rw [lcells_len, List.length_set]; exact hlen, .inr ⟨g, c, (cur.setIfInBounds (k * 2) (.string a.1)).setIfInBounds (k * 2 + 1) (.string a.2), rfl, hV, (hB.put _ _).put _ _, hnc, hm, by rw [Array.size_setIfInBounds, Array.size_setIfInBounds]; exact hsz, ?_⟩⟩, ?_⟩⟩
  · rw [Array.toList_setIfInBounds, Array.toList_setIfInBounds, List.take_set, List.take_set, htk, flat_set]
  · exact ((Just.of_grow (Grow.refl w)).put hV _ _).put hV _ _
set_option maxRecDepth 20000 in
theorem lab_store {w : World} {R : Nat → Prop} {g n c k m : Nat} {h : List Lb} {a : Lb} {ρ : Operand → Value} {o : Oper} {x y : Operand} (hI : Own w R 36 2 (.slice (some ⟨g, 0, none⟩) n c) m (lcells h)) (hk : k < h.length)
    (h1 : ρ x = .pointer (some ⟨g, k * 2, none⟩)) (h2 : ρ y = .agg #[.string a.1, .string a.2]) (ho : o.op = .store 36 x y) :
    flowUpon Tryd.prog (fun u w' => u = undef ∧ Just R w w' ∧ Own w' R 36 2 (.slice (some ⟨g, 0, none⟩) n c) m (lcells (h.set k a))) ((execOp ρ o).run Tryd.prog w) := by
  obtain ⟨dst, op, ty, pos, after, guard⟩ := o
  simp only at ho
  subst ho
  obtain ⟨c0, c1, f0, f1, hput⟩ := lab_own hI hk
  obtain ⟨p1, p2⟩ := hput a
  exact flowUpon_skip (w' := (w.setCell ⟨g, k * 2, none⟩ (.string a.1)).setCell ⟨g, k * 2 + 1, none⟩ (.string a.2)) (by go_simp) ⟨rfl, p2, p1⟩
def SwSt (R : Nat → Prop) (v : Value) (m : Nat) (h : List Lb) (i j : Nat) (hi : i < h.length) (hj : j < h.length) : Stages where
  G := Just R
  T := fun _ => Just R
  I := fun k w => match k with
    | 0 => Own w R 36 2 v m (lcells h)
    | 1 => Own w R 36 2 v m (lcells (h.set i h[j]))
    | _ => Own w R 36 2 v m (lcells ((h.set i h[j]).set j h[i]))
  muts := [13, 15]
  stage := fun q => if q = 7 then some 0 else if q = 11 then some 0 else if q = 13 then some 0 else if q = 15 then some 1 else none
theorem swSt_ok {R : Nat → Prop} {v : Value} {m : Nat} {h : List Lb} {i j : Nat} {hi : i < h.length} {hj : j < h.length} : (SwSt R v m h i j hi hj).Ok := by
  refine ⟨fun _ _ _ => Just.trans, fun _ _ h => Just.of_grow h, fun _ _ _ h => h, fun k a b hh hg => ?_⟩
  rcases k with _ | _ | k
  · exact Own.grows hh hg
  · exact Own.grows hh hg
  · exact Own.grows hh hg
set_option maxRecDepth 100000 in
set_option maxHeartbeats 1000000 in
theorem Labels_any (w : World) (x : Nat) (D : Nat → Prop) (h : TapeAt x D w) (hDw : ∀ b, D b → b < w.heap.size) :
    Calls Tryd.prog 13 #[.pointer (some ⟨x, 0, none⟩)] w fun e w' => ∃ (v : Value) (l : List Lb), e = .returned v ∧ Own w' (New w w') 36 2 v l.length (lcells l) ∧ Made l ∧ TapeAt x D w' ∧ Just (fun b => b = x) w w' := by
  have hxw := h.lt
  have k27 : ∀ (vs : Array Value) (w : World), (callFunc 27 vs).run Tryd.prog w = .ok (.enter 27 vs) w := fun vs w => by go_simp
  have hg0 : Grow w (w.alloc (.cells labNA 9)) := (Below.refl _ _).alloc (Nat.le_refl _) _
  have hT0 := h.grow hg0
  have hB0 : Blk (w.alloc (.cells labNA 9)) w.heap.size 9 labNA := Blk.made w _ _
  have hs0 := hB0.lt
  go_enter Tryd.func13, Tryd.ntmps13
  go_wp2_with fail
  have hlab : w.alloc (.cells #[.string { data := #[97] }, .string { data := #[122, 111, 110, 101] }, .string { data := #[98, 95, 49] }, .string { data := #[106, 111, 98] }, .string { data := #[120] }] 9) = w.alloc (.cells labNA 9) := rfl
  rw [hlab]
  clear hlab
  generalize (w.alloc (.cells labNA 9)) = w0 at hg0 hT0 hB0 hs0
  have hxr0 := hT0.lt
  have hgx : w.heap.size ≠ x := by omega
  have hs00 := hg0.size
  go_loopw [3, 11] (fun o i wr => ∃ (i' : Nat) (l : List Lb), i' ≤ 5 ∧ i = .int .i64 (i' : Int) ∧ (l.map (·.1)).Sublist (labN.take i') ∧ (∀ d ∈ l, d.2 ∈ labV) ∧ Own wr (New w0 wr) 36 2 o l.length (lcells l) ∧ TapeAt x D wr ∧ Just (fun b => b = x) w0 wr) (fun _ i _ => 5 - (intOf i).toNat)
  case atStart => exact ⟨0, [], by omega, rfl, List.Sublist.refl _, fun d hd => absurd hd List.not_mem_nil, Own.nil, hT0, Just.of_grow (Grow.refl _)⟩
  case round =>
    clear hT0
    obtain ⟨i, l, hi5, rfl, hsub, hval, hO, hT, hj⟩ := hrel
    obtain ⟨A1, c1, rfl, hI1, hn1, hm1⟩ := hO.in_
    have hsr := hj.size
    by_cases hi : i < 5
    · have hd0 : decide ((i : Int) < 5) = true := decide_eq_true (by omega)
      have hn2 := Next_any wr x D hT 2 (by omega) (by omega)
      rw [show ((2 : Nat) : Int) = 2 from rfl] at hn2
      go_wp2_with fail
      refine hn2.mono ?_
      rintro e w2 ⟨k0, hk0, rfl, hT2, hj2⟩
      clear hn2
      have hsub1 : (l.map (·.1)).Sublist (labN.take (i + 1)) := hsub.trans (List.take_sublist_take_left (by omega))
      have hO2 : Own w2 (New w0 w2) 36 2 (.slice A1 l.length c1) l.length (lcells l) := (hO.keep fun b hb => hj2.block b hb.2 (fun e => by have := hb.1; omega)).mono fun b hb => ⟨hb.1, by have := hb.2; have := hj2.size; omega⟩
      have hj02 := hj.trans hj2
      by_cases hk : k0 = 0
      · subst hk
        obtain ⟨nm, hnm, hni⟩ := labNA_at hi
        have hBN := hj02.blk hB0 hgx
        have hxr := hT2.lt
        have hi5' : ¬ 5 ≤ i := by omega
        clear hI1 hO hT hj hj2
        go_wp2_with fail
        refine wp_region_reg rfl ?_
        refine reg_flow (TapeSt x D 7) tapeSt_ok 0 12 56 [(5, .inr (fun _ u w => TxtsAt x u w)), (7, .inr (fun _ u _ => ∃ k : Nat, k < 4 ∧ u = .int .i64 (k : Int))), (8, .inr (fun _ u w => ValAt x u w)), (9, .inr (fun _ u _ => ∃ s ∈ labV, u = .string s)), (10, .inr (fun _ u _ => ∃ s ∈ labV, u = .agg #[.string nm, .string s])), (11, .inr (fun _ u w => LabAt x nm u w))] rfl (by kernel_rfl) (by kernel_rfl) (by kernel_rfl) ?_ (Just.of_grow (Grow.refl _).drew) hT2 ?_
        · intro x hx φ he
          simp only [List.mem_cons, List.not_mem_nil, or_false] at hx
          rcases hx with rfl | rfl | rfl | rfl | rfl | rfl <;> cases he
          all_goals first | exact lasts_quiet (lasting_bytes _) | exact txts_lasts | exact num_lasts _ | exact val_lasts | exact labAt_lasts
        intro ops' A' K' T hops hA' hK hT
        refine fl_mv 17 (by rfl) (by decide) (wanted_none (by rfl)) (by rw [hK.out]; rfl) (by rfl) _ (Or.inl (by rfl)) (.slice A1 l.length c1) (by rfl) ?_
        refine fl_mv 18 (by rfl) (by decide) (wanted_none (by rfl)) (by rw [hK.out]; rfl) (by rfl) _ (Or.inl (by rfl)) (.slice (some ⟨w.heap.size, 0, none⟩) 5 5) (by rfl) ?_
        refine fl_mv 19 (by rfl) (by decide) (wanted_none (by rfl)) (by rw [hK.out]; rfl) (by rfl) _ (Or.inl (by rfl)) (.int .i64 (i : Int)) (by rfl) ?_
        refine fl_op2 20 (by rfl) (by decide) (wanted_none (by rfl)) (by rw [hK.out]; rfl) (by rfl) (.tmp 18) (.tmp 19) (.slice (some ⟨w.heap.size, 0, none⟩) 5 5) (.int .i64 (i : Int)) (by rfl) (by rfl) (.pointer (some ⟨w.heap.size, i, none⟩)) (fun ρ h1 h2 kk w1 (hg : Just (fun b => b = x) _ w1) hb hf => by go_simp; try (intro hlt; omega)) ?_
        refine fl_op1 21 (by rfl) (by decide) (wanted_none (by rfl)) (by rw [hK.out]; rfl) (by rfl) (.tmp 20) (.pointer (some ⟨w.heap.size, i, none⟩)) (by rfl) (.string nm) (fun ρ h1 kk w1 (hg : Just (fun b => b = x) _ w1) hb hf => by have c := ((hg.blk hBN hgx).cell i).trans hni; go_simp) ?_
        refine fl_any 22 (by rfl) (by decide) (wanted_none (by rfl)) (fun _ u w => TxtsAt x u w) (by rw [hK.out]; rfl) (fun kk w1 (hg : Just (fun b => b = x) _ w1) hb hf => by refine upon_behindAny (φ := fun _ u w => TxtsAt x u w) (by rfl) ?_; exact txts_made (Nat.lt_of_lt_of_le hxr hg.size) rfl fun _ => rfl) (fun v22 => ?_)
        refine fl_mv 23 (by rfl) (by decide) (wanted_none (by rfl)) (by rw [hK.out]; rfl) (by rfl) _ (Or.inl (by rfl)) (.pointer (some ⟨x, 0, none⟩)) (by rfl) ?_
        refine fl_callAny 24 (by rfl) (by decide) (wanted_none (by rfl)) (fun _ u _ => ∃ k : Nat, k < 4 ∧ u = .int .i64 (k : Int)) (by rw [hK.out]; rfl) 27 _ _ (by rfl) [.pointer (some ⟨x, 0, none⟩), .int .i64 4] (by rfl) k27 (fun kk w1 (hg : Just (fun b => b = x) _ w1) hb hf => calls_turnAny (φ := fun _ u _ => ∃ k : Nat, k < 4 ∧ u = .int .i64 (k : Int)) 0 (by rfl) (by obtain rfl := before_some 0 (by rfl) hb; have hI := hb.1; exact next_four hI)) (fun v24 => ?_)
        refine fl_any2 25 (by rfl) (by decide) (wanted_none (by rfl)) (fun _ u w => ValAt x u w) (by rw [hK.out]; rfl) (.tmp 22) (.tmp 24) (v22) (v24) (by rfl) (by rfl) (fun ρ h1 h2 kk w1 (hg : Just (fun b => b = x) _ w1) hb hf => by refine upon_behindAny (φ := fun _ u w => ValAt x u w) (by rfl) ?_; have q1 := (facts_take hf (by rw [hA'.out]; kernel_rfl)); have q2 := (facts_take (facts_pass hf) (by rw [hA'.out]; kernel_rfl)); exact val_at (u := v22) (v := v24) q2 q1 h1 h2 rfl) (fun v25 => ?_)
        refine fl_any1 26 (by rfl) (by decide) (wanted_none (by rfl)) (fun _ u _ => ∃ s ∈ labV, u = .string s) (by rw [hK.out]; rfl) (.tmp 25) (v25) (by rfl) (fun ρ h1 kk w1 (hg : Just (fun b => b = x) _ w1) hb hf => by refine upon_behindAny (φ := fun _ u _ => ∃ s ∈ labV, u = .string s) (by rfl) ?_; have q1 := (facts_take hf (by rw [hA'.out]; kernel_rfl)); exact val_load (u := v25) q1 h1 rfl) (fun v26 => ?_)
        refine fl_any 27 (by rfl) (by decide) (wanted_none (by rfl)) (fun _ u _ => ∃ s ∈ labV, u = .agg #[.string nm, .string s]) (by rw [hK.out]; rfl) (fun kk w1 (hg : Just (fun b => b = x) _ w1) hb hf => by refine upon_behindAny (φ := fun _ u _ => ∃ s ∈ labV, u = .agg #[.string nm, .string s]) (by rfl) ?_; have q1 := (facts_take hf (by rw [hA'.out]; kernel_rfl)); exact lab_build (u := v26) (x := .tmp 21) (y := .tmp 26) q1 rfl rfl rfl) (fun v27 => ?_)
        refine fl_any1 28 (by rfl) (by decide) (wanted_none (by rfl)) (fun _ u w => LabAt x nm u w) (by rw [hK.out]; rfl) (.tmp 27) (v27) (by rfl) (fun ρ h1 kk w1 (hg : Just (fun b => b = x) _ w1) hb hf => by refine upon_behindAny (φ := fun _ u w => LabAt x nm u w) (by rfl) ?_; have q1 := (facts_take hf (by rw [hA'.out]; kernel_rfl)); exact lab_row (Nat.lt_of_lt_of_le hxr hg.size) (u := v27) q1 h1 rfl) (fun v28 => ?_)
        refine fl_end (fun _ _ w1 (hg : Just (fun b => b = x) _ w1) hend hfacts => hT _ _ ?_)
        clear hops hA' hK hT
        simp only [putsL, Act.put, List.setIfInBounds_toArray, List.set_cons_zero, List.set_cons_succ]
        have hF : LabAt x nm v28 w1 := hfacts.1
        have hT3 : TapeAt x D w1 := hend
        clear hend hfacts
        obtain ⟨g9, s9, hg9x, hs9, rfl, hB9⟩ := hF
        have hs1 := hg.size
        have hO3 : Own w1 (New w0 w1) 36 2 (.slice A1 l.length c1) l.length (lcells l) := (hO2.keep fun b hb => hg.block b hb.2 (fun e => by have := hb.1; omega)).mono fun b hb => ⟨hb.1, by have := hb.2; omega⟩
        have hj03 := hj02.trans hg
        have hlen5 := hsub.length_le
        rw [List.length_map, List.length_take] at hlen5
        refine reg_line 12 14 (by kernel_rfl) (by kernel_rfl) ?_
        simp only [List.take_succ_cons, List.take_zero, List.drop_succ_cons, List.drop_zero]
        refine wpList_own (V := New w0 w1) labelE _ rfl (.tmp 17) (.tmp 28) rfl (.slice A1 l.length c1) l.length (lcells l) rfl hO3 w1.heap.size (some ⟨g9, 0, none⟩) 1 1 (lcells [(nm, s9)]) rfl ⟨rfl, fun _ => ⟨_, rfl, hB9.lt, fun j u hu => by rw [Addr.add_lit, Nat.zero_add]; exact (hB9.cell j).trans (by simpa [lcells, lcell] using hu)⟩⟩ (lcells_one _) (by omega) ?_
        intro v5 w5 hO5 hj5
        have hs5 := hj5.size
        have hs03 := hj03.size
        have hO6 : Own w5 (New w0 w5) 36 2 v5 (l ++ [(nm, s9)]).length (lcells (l ++ [(nm, s9)])) := by
          rw [List.length_append]
          have : lcells (l ++ [(nm, s9)]) = lcells l ++ lcells [(nm, s9)] := by unfold lcells; rw [List.flatMap_append]
          rw [this]
          refine hO5.mono fun b hb => ?_
          rcases hb with hb | hb
          · exact ⟨hb.1, by have := hb.2; omega⟩
          · exact ⟨by have := hb.1; omega, hb.2⟩
        have hj06 : Just (fun b => b = x) w0 w5 := just_new hj03 hj5 (fun b hb => .inl hb.1)
        have hT6 : TapeAt x D w5 := hT3.keep (hj5.block x hT3.lt fun e => by have := e.1; omega) fun b hb hbl => hj5.block b hbl fun e => by have := e.1; have := hDw b hb; omega
        have hsub6 : ((l ++ [(nm, s9)]).map (·.1)).Sublist (labN.take (i + 1)) := by
          rw [List.map_append, List.take_add_one, hnm]
          exact hsub.append (List.Sublist.refl _)
        have hval6 : ∀ d ∈ l ++ [(nm, s9)], d.2 ∈ labV := fun d hd => by
          rcases List.mem_append.1 hd with hd | hd
          · exact hval d hd
          · rw [List.mem_singleton.1 hd]; exact hs9
        clear hO5 hj5 hO3 hT3 hO2 hB9 hsub hval hsub1
        generalize l ++ [(nm, s9)] = l6 at hO6 hsub6 hval6
        go_wp2_with fail
        refine reg_end ?_
        go_wp2_with fail
        go_roundw
        case rel => exact ⟨i + 1, l6, by omega, by go_num, hsub6, hval6, hO6, hT6, hj06⟩
        case measure => simp [intOf]; omega
      · have hke : k0 = 1 := by omega
        subst hke
        go_wp2_with fail
        go_roundw
        case rel => exact ⟨i + 1, l, by omega, by go_num, hsub1, hval, hO2, hT2, hj02⟩
        case measure => simp [intOf]; omega
    · obtain rfl : i = 5 := by omega
      have hd0 : decide (((5 : Nat) : Int) < 5) = false := by decide
      have hM := made_of_sub hsub hval
      clear hsub hval hI1
      obtain ⟨n, HN⟩ : ∃ n : Nat, Hid (n = l.length) := ⟨_, rfl⟩
      rw [← HN.out] at hO hn1
      have hn5 : n ≤ 5 := by rw [HN.out]; exact hM.few
      obtain ⟨w9, HW9⟩ : ∃ w9 : World, Hid (w9 = wr) := ⟨_, rfl⟩
      rw [show l.length = n from HN.out.symm]
      go_wp2_with fail
      go_loopw [33] (fun i wr => ∃ (i' : Nat) (l' : List Lb), i' ≤ n ∧ i = .int .i64 (i' : Int) ∧ l.Perm l' ∧ Own wr (New w0 wr) 36 2 (.slice A1 n c1) n (lcells l') ∧ TapeAt x D wr ∧ Just (fun b => b = x) w0 wr) (fun i _ => n - (intOf i).toNat)
      case atStart => exact ⟨0, l, by omega, rfl, List.Perm.refl _, hO, hT, hj⟩
      case round =>
        clear hO hT hj
        obtain ⟨i, l', hin, rfl, hp, hO, hT, hj⟩ := hrel
        have hpl := hp.length_eq
        by_cases hi : i < n
        · have hd1 : decide ((i : Int) < (n : Int)) = true := decide_eq_true (by omega)
          have hn2 := Next_any wr x D hT n (by omega) (by omega)
          go_wp2_with fail
          refine hn2.mono ?_
          rintro e w2 ⟨j, hjn, rfl, hT2, hj2⟩
          clear hn2
          have hO2 : Own w2 (New w0 wr) 36 2 (.slice A1 n c1) n (lcells l') := hO.keep fun b hb => hj2.block b hb.2 (fun e => by have := hb.1; omega)
          obtain ⟨g, c, hsl, hVg, hgl, hnc, hcm⟩ := own_shape hO2 (by omega)
          injection hsl with e1 e2 e3
          subst e1; subst e3
          have hil : i < l'.length := by rw [← hpl, ← HN.out]; exact hi
          have hjl : j < l'.length := by rw [← hpl, ← HN.out]; exact hjn
          have hin' : ¬ n ≤ i := by omega
          have hjn' : ¬ n ≤ j := by omega
          have hj02 := hj.trans hj2
          have hs2 := hj2.size
          clear hO hT hj2
          go_wp2_with fail
          refine wp_region_reg rfl ?_
          refine reg_flow (SwSt (New w0 wr) (.slice (some ⟨g, 0, none⟩) n c1) n l' i j hil hjl) swSt_ok 0 16 56 [(13, .inl (undef)), (15, .inl (undef))] rfl (by kernel_rfl) (by kernel_rfl) (by kernel_rfl) ?_ (Just.of_grow (Grow.refl _).drew) hO2 ?_
          · intro x hx φ he
            simp only [List.mem_cons, List.not_mem_nil, or_false] at hx
            rcases hx with rfl | rfl <;> cases he
          intro ops' A' K' T hops hA' hK hT
          refine fl_mv 40 (by rfl) (by decide) (wanted_none (by rfl)) (by rw [hK.out]; rfl) (by rfl) _ (Or.inl (by rfl)) (.slice (some ⟨g, 0, none⟩) n c1) (by rfl) ?_
          refine fl_mv 41 (by rfl) (by decide) (wanted_none (by rfl)) (by rw [hK.out]; rfl) (by rfl) _ (Or.inl (by rfl)) (.int .i64 (i : Int)) (by rfl) ?_
          refine fl_mv 42 (by rfl) (by decide) (wanted_none (by rfl)) (by rw [hK.out]; rfl) (by rfl) _ (Or.inl (by rfl)) (.slice (some ⟨g, 0, none⟩) n c1) (by rfl) ?_
          refine fl_mv 43 (by rfl) (by decide) (wanted_none (by rfl)) (by rw [hK.out]; rfl) (by rfl) _ (Or.inl (by rfl)) (.int .i64 (j : Int)) (by rfl) ?_
          refine fl_mv 44 (by rfl) (by decide) (wanted_none (by rfl)) (by rw [hK.out]; rfl) (by rfl) _ (Or.inl (by rfl)) (.slice (some ⟨g, 0, none⟩) n c1) (by rfl) ?_
          refine fl_mv 45 (by rfl) (by decide) (wanted_none (by rfl)) (by rw [hK.out]; rfl) (by rfl) _ (Or.inl (by rfl)) (.int .i64 (j : Int)) (by rfl) ?_
          refine fl_op2 46 (by rfl) (by decide) (wanted_none (by rfl)) (by rw [hK.out]; rfl) (by rfl) (.tmp 44) (.tmp 45) (.slice (some ⟨g, 0, none⟩) n c1) (.int .i64 (j : Int)) (by rfl) (by rfl) (.pointer (some ⟨g, j * 2, none⟩)) (fun ρ h1 h2 kk w1 (hg : Just (New w0 wr) _ w1) hb hf => by go_simp; try (intro hlt; omega)) ?_
          refine fl_op1 47 (by rfl) (by decide) (wanted_none (by rfl)) (by rw [hK.out]; rfl) (by rfl) (.tmp 46) (.pointer (some ⟨g, j * 2, none⟩)) (by rfl) (.agg #[.string l'[j].1, .string l'[j].2]) (fun ρ h1 kk w1 (hg : Just (New w0 wr) _ w1) hb hf => by obtain rfl := before_some 0 (by rfl) hb; have hI := hb.1; have q := lab_own hI hjl; have c0 := q.1; have c1 := q.2.1; go_simp) ?_
          refine fl_mv 48 (by rfl) (by decide) (wanted_none (by rfl)) (by rw [hK.out]; rfl) (by rfl) _ (Or.inl (by rfl)) (.slice (some ⟨g, 0, none⟩) n c1) (by rfl) ?_
          refine fl_mv 49 (by rfl) (by decide) (wanted_none (by rfl)) (by rw [hK.out]; rfl) (by rfl) _ (Or.inl (by rfl)) (.int .i64 (i : Int)) (by rfl) ?_
          refine fl_op2 50 (by rfl) (by decide) (wanted_none (by rfl)) (by rw [hK.out]; rfl) (by rfl) (.tmp 48) (.tmp 49) (.slice (some ⟨g, 0, none⟩) n c1) (.int .i64 (i : Int)) (by rfl) (by rfl) (.pointer (some ⟨g, i * 2, none⟩)) (fun ρ h1 h2 kk w1 (hg : Just (New w0 wr) _ w1) hb hf => by go_simp; try (intro hlt; omega)) ?_
          refine fl_op1 51 (by rfl) (by decide) (wanted_none (by rfl)) (by rw [hK.out]; rfl) (by rfl) (.tmp 50) (.pointer (some ⟨g, i * 2, none⟩)) (by rfl) (.agg #[.string l'[i].1, .string l'[i].2]) (fun ρ h1 kk w1 (hg : Just (New w0 wr) _ w1) hb hf => by obtain rfl := before_some 0 (by rfl) hb; have hI := hb.1; have q := lab_own hI hil; have c0 := q.1; have c1 := q.2.1; go_simp) ?_
          refine fl_op2 52 (by rfl) (by decide) (wanted_none (by rfl)) (by rw [hK.out]; rfl) (by rfl) (.tmp 40) (.tmp 41) (.slice (some ⟨g, 0, none⟩) n c1) (.int .i64 (i : Int)) (by rfl) (by rfl) (.pointer (some ⟨g, i * 2, none⟩)) (fun ρ h1 h2 kk w1 (hg : Just (New w0 wr) _ w1) hb hf => by go_simp; try (intro hlt; omega)) ?_
          refine fl_do2 (by rfl) (wanted_none (by rfl)) (undef) (by rw [hK.out]; rfl) (.tmp 52) (.tmp 47) (.pointer (some ⟨g, i * 2, none⟩)) (.agg #[.string l'[j].1, .string l'[j].2]) (by rfl) (by rfl) (fun ρ h1 h2 kk w1 (hg : Just (New w0 wr) _ w1) hb hf => by obtain rfl := before_some 0 (by rfl) hb; have hI := hb.1; refine upon_turn 0 (by rfl) ?_; exact lab_store hI hil h1 h2 rfl) ?_
          refine fl_op2 53 (by rfl) (by decide) (wanted_none (by rfl)) (by rw [hK.out]; rfl) (by rfl) (.tmp 42) (.tmp 43) (.slice (some ⟨g, 0, none⟩) n c1) (.int .i64 (j : Int)) (by rfl) (by rfl) (.pointer (some ⟨g, j * 2, none⟩)) (fun ρ h1 h2 kk w1 (hg : Just (New w0 wr) _ w1) hb hf => by go_simp; try (intro hlt; omega)) ?_
          refine fl_do2 (by rfl) (wanted_none (by rfl)) (undef) (by rw [hK.out]; rfl) (.tmp 53) (.tmp 51) (.pointer (some ⟨g, j * 2, none⟩)) (.agg #[.string l'[i].1, .string l'[i].2]) (by rfl) (by rfl) (fun ρ h1 h2 kk w1 (hg : Just (New w0 wr) _ w1) hb hf => by obtain rfl := before_some 1 (by rfl) hb; have hI := hb.1; refine upon_turn 1 (by rfl) ?_; exact lab_store hI (by rw [List.length_set]; exact hjl) h1 h2 rfl) ?_
          refine fl_end (fun _ _ w1 (hg : Just (New w0 wr) _ w1) hend hfacts => hT _ _ ?_)
          clear hops hA' hK hT
          simp only [putsL, Act.put, List.setIfInBounds_toArray, List.set_cons_zero, List.set_cons_succ]
          have hO3 : Own w1 (New w0 wr) 36 2 (.slice (some ⟨g, 0, none⟩) n c1) n (lcells ((l'.set i l'[j]).set j l'[i])) := hend
          clear hend hfacts hO2
          have hs1 := hg.size
          have hT3 : TapeAt x D w1 := hT2.keep (hg.block x hT2.lt fun e => by have := e.1; omega) fun b hb hbl => hg.block b hbl fun e => by have := e.1; have := hDw b hb; omega
          have hO6 : Own w1 (New w0 w1) 36 2 (.slice (some ⟨g, 0, none⟩) n c1) n (lcells ((l'.set i l'[j]).set j l'[i])) := hO3.mono fun b hb => ⟨hb.1, by have := hb.2; omega⟩
          have hj06 : Just (fun b => b = x) w0 w1 := just_new hj02 hg (fun b hb => .inl hb.1)
          have hp6 : l.Perm ((l'.set i l'[j]).set j l'[i]) := hp.trans (List.set_set_perm hil hjl).symm
          generalize (l'.set i l'[j]).set j l'[i] = l6 at hO6 hp6
          refine reg_end ?_
          go_wp2_with fail
          go_roundw
          case rel => exact ⟨_, _, .int .i64 ((i : Int) + 1), ⟨i + 1, by omega, by go_num, l6, hp6, hO6⟩, rfl, rfl, rfl⟩
          case measure => simp [intOf]; omega
        · obtain rfl : n = i := by omega
          have hd1 : decide ((n : Int) < (n : Int)) = false := decide_eq_false (by omega)
          go_wp2_with fail
          go_ret
          refine ⟨_, l', rfl, ?_, hM.perm hp, hT, (Just.of_grow hg0).trans hj⟩
          rw [← hpl, ← HN.out]
          exact hO.mono fun b hb => ⟨by have := hb.1; omega, hb.2⟩
end Go.Proofs.YtidkhokecekpgaaDoor
