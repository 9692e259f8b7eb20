/- The answer's Sort. -/
import Derived.Test.YthkkfdnechmddaaDoorLright
namespace Go.Proofs.YthkkfdnechmddaaDoor
open Go.RowKit Go.Hop
theorem lread_made {w : World} {a : Lb} {o : Oper} {ρ : Operand → Value} {x : Operand} (ho : o.op = .buildSlice 26 1 #[(0, x)]) (hx : ρ x = .agg #[.string a.1, .string a.2]) :
    flowUpon Tryd.prog (fun u w' => Grow w w' ∧ ReadF 2 1 (lcell a) u w') ((execOp ρ o).run Tryd.prog w) := by
  obtain ⟨dst, op, ty, pos, after, guard⟩ := o
  simp only at ho
  subst ho
  have hg : Grow w (w.alloc (.cells #[.string a.1, .string a.2] 25)) := (Below.refl _ w).alloc (Nat.le_refl _) _
  refine flowUpon_value (u := .slice (some ⟨w.heap.size, 0, none⟩) 1 1) (w := w.alloc (.cells #[.string a.1, .string a.2] 25)) (by go_simp) ⟨hg, some ⟨w.heap.size, 0, none⟩, 1, rfl, ?_⟩
  exact Reads.more (reads_laid w #[.string a.1, .string a.2] 25 (0, 0) (n := 1) (size := 2) rfl _ rfl) (by simp)
def TwoStL (B m1 m2 : Nat) (st : List (Nat × Nat)) : Stages where
  G := Just (FromB B)
  T := fun _ => Just (FromB B)
  I := fun _ _ => True
  muts := [m1, m2]
  stage := fun j => if j = m1 then some 0 else if j = m2 then some 1 else st.lookup j
theorem twoStL_ok (B m1 m2 : Nat) (st : List (Nat × Nat)) : (TwoStL B m1 m2 st).Ok := ⟨fun _ _ _ => Just.trans, fun _ _ h => Just.of_grow h, fun _ _ _ h => h, fun _ _ _ _ _ => trivial⟩
/-- one more, at its place -/
theorem ByName.ins {Q l : List Lb} (h : ByName Q l) {d : Lb} {C : Nat} (hC : C ≤ Q.length) (h1 : ∀ j (hj : j < Q.length), C ≤ j → slt d.1 Q[j].1 = true) (h2 : ∀ j (hj : j < Q.length), j + 1 = C → slt d.1 Q[j].1 = false) : ByName (Q.take C ++ d :: Q.drop C) (l ++ [d]) := by
  refine ⟨?_, ?_⟩
  · refine (List.perm_middle).trans ?_
    rw [List.take_append_drop]
    exact ((List.perm_cons d).2 h.perm).trans (List.perm_append_singleton d l).symm
  · have hs := List.pairwise_iff_getElem.1 h.srt
    have ha : ∀ a ∈ Q.take C, slt d.1 a.1 = false := fun a ha => by
      obtain ⟨i, hi, rfl⟩ := List.getElem_of_mem ha
      rw [List.length_take] at hi
      rw [List.getElem_take]
      by_cases e : i + 1 = C
      · exact h2 i (by omega) e
      · exact slt_ntr (h2 (C - 1) (by omega) (by omega)) (hs i (C - 1) (by omega) (by omega) (by omega))
    have hb : ∀ b ∈ Q.drop C, slt b.1 d.1 = false := fun b hb => by
      obtain ⟨i, hi, rfl⟩ := List.getElem_of_mem hb
      rw [List.length_drop] at hi
      rw [List.getElem_drop]
      exact slt_no (h1 (C + i) (by omega) (by omega))
    have hsp := h.srt
    rw [← List.take_append_drop C Q] at hsp
    obtain ⟨p1, p2, p3⟩ := List.pairwise_append.1 hsp
    refine List.pairwise_append.2 ⟨p1, List.pairwise_cons.2 ⟨hb, p2⟩, fun a haa b hbb => ?_⟩
    rcases List.mem_cons.1 hbb with rfl | hbb
    · exact ha a haa
    · exact p3 a haa b hbb
theorem not_bool {b : Bool} (h : ¬ b = true) : b = false := by cases b <;> simp_all
set_option maxRecDepth 100000 in
set_option maxHeartbeats 1000000 in
theorem rSort_any (w : World) (V : Nat → Prop) (A : Option Addr) (n c : Nat) (l : List Lb) (h : In w V 2 A n (lcells l)) (hn : n ≤ 1000000) :
    Calls Tryd.prog 27 #[.slice A n c] w fun e w' => ∃ A' c' q, e = .returned (.slice A' n c') ∧ ByName q l ∧ In w' (New w w') 2 A' n (lcells q) ∧ Grow w w' := by
  have hll := LIn.len h
  have HLL := Lib.hid hll
  clear hll
  go_enter Tryd.func27, Tryd.ntmps27
  go_wp2_with fail
  go_loopw [3, 9] (fun o i wr => ∃ (k : Nat) (Q : List Lb), k ≤ n ∧ i = .int .i64 (k : Int) ∧ ByName Q (l.take k) ∧ Own wr (New w wr) 25 2 o Q.length (lcells Q) ∧ Grow w wr) (fun _ i _ => n - (intOf i).toNat)
  case atStart => exact ⟨0, [], by omega, rfl, ⟨List.Perm.refl _, List.Pairwise.nil⟩, Own.nil, Grow.refl _⟩
  case round =>
    obtain ⟨i, Q, hin, rfl, hQ, hO, hgr⟩ := hrel
    obtain ⟨wO, rfl⟩ : ∃ wO : World, wO = wr := ⟨_, rfl⟩
    obtain ⟨A0, c0, rfl, hI0, hnc, hcm⟩ := hO.in_
    have hQl : Q.length = i := by rw [hQ.len, List.length_take]; have := HLL.out; omega
    by_cases hi : i < n
    · have hit : decide ((i : Int) < (n : Int)) = true := decide_eq_true (by omega)
      obtain ⟨adl, hqi, rfl, e0, e1⟩ := lab_at (h.grow hgr) hi
      have ce0 := e0 wO (Grow.refl _)
      have ce1 := e1 wO (Grow.refl _)
      have htk : Hid (l.take (i + 1) = l.take i ++ [l[i]]) := Lib.hid (List.take_succ_eq_append_getElem hqi)
      generalize l[i] = d at ce0 ce1 htk
      obtain ⟨x, HX⟩ : ∃ x : Nat, Hid (x = wO.heap.size) := ⟨_, rfl⟩
      have hB : Blk (wO.alloc (.cells #[.string d.1, .string d.2] 25)) x 25 #[.string d.1, .string d.2] := by rw [HX.out]; exact Blk.made wO _ _
      have hgx : Grow wO (wO.alloc (.cells #[.string d.1, .string d.2] 25)) := (Below.refl _ _).alloc (Nat.le_refl _) _
      have hin2 : ¬ n ≤ i := by omega
      obtain ⟨N, HN⟩ : ∃ N : Nat, Hid (N = Q.length) := ⟨_, rfl⟩
      rw [← HN.out] at hO hI0 hnc hQl ⊢
      clear e0 e1
      have hN20 : N ≤ 1000000 := by omega
      have hNi : Hid (N = i) := Lib.hid hQl
      clear hQl
      go_wp2_with fail
      rw [← HX.out]
      generalize hwb : wO.alloc (.cells #[.string d.1, .string d.2] 25) = wb at hB hgx ⊢
      clear hwb ce0 ce1
      have hgb := hgr.trans hgx
      go_loopw [6] (fun k wz => ∃ k' : Nat, k' ≤ N ∧ k = .int .i64 (k' : Int) ∧ (∀ j (hj : j < Q.length), k' ≤ j → slt d.1 Q[j].1 = true) ∧ Grow wb wz) (fun k _ => (intOf k).toNat)
      case atStart => exact ⟨N, by omega, rfl, fun j hj hn => absurd hn (by have := HN.out; omega), Grow.refl _⟩
      case round =>
        obtain ⟨k, hkN, rfl, hlt, hgz⟩ := hrel
        have HLT := Lib.hid hlt
        clear hlt
        have hBz := hB.grow hgz
        have stop : (∀ j (hj : j < Q.length), j + 1 = k → slt d.1 Q[j].1 = false) → Hid (ByName (Q.take k ++ d :: Q.drop k) (l.take (i + 1))) := fun hs => Lib.hid (by rw [htk.out]; exact hQ.ins (by have := HN.out; omega) HLT.out hs)
        have HST := Lib.hid stop
        clear stop
        have hI0z := hI0.grow (hgx.trans hgz)
        by_cases hk0 : k = 0
        · have hkt : decide ((0 : Int) < (k : Int)) = false := decide_eq_false (by omega)
          have HBY := HST.out fun j hj e => absurd e (by omega)
          have hk1 : ¬ 0 < k := by omega
          have HK0 := Lib.hid hk0
          clear hk0
          have hB := hBz
          go_wp2_with fail
          refine wp_region_flow 13 44 [] rfl rfl (by kernel_rfl) (by kernel_rfl) (by kernel_rfl) ?_ ?_
          · intro x hx φ he
            cases hx
          intro ops' A' K' T hops hA' hK hT
          refine fl_mv 15 (by rfl) (by decide) (wanted_none (by rfl)) (by rw [hK.out]; rfl) (by rfl) _ (Or.inl (by rfl)) (.int .i64 (k : Int)) (by rfl) ?_
          refine fl_op2 16 (by rfl) (by decide) (wanted_none (by rfl)) (by rw [hK.out]; rfl) (by rfl) (.tmp 15) (.const (.int .i64 0)) (.int .i64 (k : Int)) (.int .i64 0) (by rfl) (by rfl) (.bool false) (fun ρ h1 h2 kk w1 (hg : Grow _ w1) hb hf => by go_simp) ?_
          refine fl_mv 17 (by rfl) (by decide) (wanted_none (by rfl)) (by rw [hK.out]; rfl) (by rfl) _ (Or.inl (by rfl)) (.bool false) (by rfl) ?_
          refine fl_skip 18 (by rfl) (by decide) (wanted_if hops 2 true (by rfl) 17 (by rfl) false (by rfl)) (by rfl) ?_
          refine fl_skip 19 (by rfl) (by decide) (wanted_if hops 2 true (by rfl) 17 (by rfl) false (by rfl)) (by rfl) ?_
          refine fl_skip 20 (by rfl) (by decide) (wanted_if hops 2 true (by rfl) 17 (by rfl) false (by rfl)) (by rfl) ?_
          refine fl_skip 21 (by rfl) (by decide) (wanted_if hops 2 true (by rfl) 17 (by rfl) false (by rfl)) (by rfl) ?_
          refine fl_skip 22 (by rfl) (by decide) (wanted_if hops 2 true (by rfl) 17 (by rfl) false (by rfl)) (by rfl) ?_
          refine fl_skip 23 (by rfl) (by decide) (wanted_if hops 2 true (by rfl) 17 (by rfl) false (by rfl)) (by rfl) ?_
          refine fl_skip 24 (by rfl) (by decide) (wanted_if hops 2 true (by rfl) 17 (by rfl) false (by rfl)) (by rfl) ?_
          refine fl_skip 25 (by rfl) (by decide) (wanted_if hops 2 true (by rfl) 17 (by rfl) false (by rfl)) (by rfl) ?_
          refine fl_skip 26 (by rfl) (by decide) (wanted_if hops 2 true (by rfl) 17 (by rfl) false (by rfl)) (by rfl) ?_
          refine fl_pick 27 (by rfl) (by decide) (wanted_none (by rfl)) (by rw [hK.out]; rfl) (by rfl) _ _ _ (by rfl) false (by rfl) (.bool false) (by rfl) ?_
          refine fl_end (fun _ _ w1 (hg : Grow _ w1) _ hfacts => hT _ _ ?_)
          clear hops hA' hK hT
          simp only [putsL, Act.put, List.setIfInBounds_toArray, List.set_cons_zero, List.set_cons_succ, List.drop_succ_cons, List.drop_zero]
          clear hfacts
          obtain ⟨w2, rfl⟩ : ∃ w2 : World, w2 = w1 := ⟨_, rfl⟩
          have hB2 := hB.grow hg
          have hI2 := hI0z.grow hg
          have hgw2 := hgb.trans (hgz.trans hg)
          obtain ⟨B, HBd⟩ : ∃ B : Nat, Hid (B = w2.heap.size) := ⟨_, rfl⟩
          have HB : ∀ w1, Just (FromB B) w2 w1 → B ≤ w1.heap.size := fun w1 h => HBd.out ▸ h.size
          have hxl := hB2.lt
          have hxB : ¬ FromB B x := fun h => by have h2 : B ≤ x := h; have := HBd.out; omega
          have hBd2 := hB2
          have hswr := (hgx.trans (hgz.trans hg)).size
          have hDB : ∀ b, New w wO b → ¬ FromB B b := fun b hb h => by have := hb.2; have h2 : B ≤ b := h; have := HBd.out; omega
          obtain ⟨A2, HA2⟩ : ∃ A2 : Option Addr, Hid (A2 = if c0 = k then A0 else A0.map (·.add (k * 2))) := ⟨_, rfl⟩
          have hI3 := hI2
          have hI2 : ∀ w1, Just (FromB B) w2 w1 → Reads w1 w1.heap.size 2 A2 (N - k) ((lcells Q).drop (k * 2)) := fun w1 hj => by
            have := (hI3.just hj hDB).reads.cut (k := k) (by omega) hnc
            rwa [← HA2.out] at this
          have hI1 : ∀ w1, Just (FromB B) w2 w1 → Reads w1 w1.heap.size 2 A0 k ((lcells Q).take (k * 2)) := fun w1 hj => ((hI3.just hj hDB).take (by omega)).reads
          have hone1 : ∀ u ∈ (lcells Q).take (k * 2), u.oneCell' = true := fun u hu => lcells_one Q u (List.mem_of_mem_take hu)
          have hone2 : ∀ u ∈ (lcells Q).drop (k * 2), u.oneCell' = true := fun u hu => lcells_one Q u (List.mem_of_mem_drop hu)
          have hck : ¬ c0 < k := by omega
          have hnk : ¬ N < k := by omega
          clear hI3
          go_wp2_with fail
          refine wp_region_reg rfl ?_
          refine reg_flow (TwoStL B 7 11 [(4, 0)]) (twoStL_ok B 7 11 _) 0 13 44 [(0, .inr (KF 0 (EmptyF B 25 2))), (4, .inr (KF 0 (OwnF B 25 2 k ((lcells Q).take (k * 2))))), (6, .inr (KF 0 (ReadF 2 1 (lcell d)))), (7, .inr (KF 1 (OwnF B 25 2 (k + 1) ((lcells Q).take (k * 2) ++ lcell d)))), (11, .inr (KF 2 (OwnF B 25 2 (k + 1 + (N - k)) ((lcells Q).take (k * 2) ++ lcell d ++ (lcells Q).drop (k * 2)))))] rfl (by kernel_rfl) (by kernel_rfl) (by kernel_rfl) ?_ (Just.of_grow (Grow.refl _).drew) trivial ?_
          · intro x hx φ he
            simp only [List.mem_cons, List.not_mem_nil, or_false] at hx
            rcases hx with rfl | rfl | rfl | rfl | rfl <;> cases he
            all_goals first | exact lasts_quiet (lasting_bytes _) | exact kf_lasts (ownF_lasting _ _ _ _ _) _ | exact kf_lasts (emptyF_lasting _ _ _) _ | exact kf_lasts (readF_lasting _ _ _) _
          intro ops' A' K' T hops hA' hK hT
          refine fl_any 30 (by rfl) (by decide) (wanted_none (by rfl)) (KF 0 (EmptyF B 25 2)) (by rw [hK.out]; rfl) (fun kk w1 (hg : Just (FromB B) _ w1) hb hf => by refine upon_behindAny (φ := KF 0 (EmptyF B 25 2)) (by rfl) ?_; exact upon_imp (empty_made labelE (HB w1 hg) rfl) fun u w2 h => ⟨h.1, early_of h.2⟩) (fun v30 => ?_)
          refine fl_mv 31 (by rfl) (by decide) (wanted_none (by rfl)) (by rw [hK.out]; rfl) (by rfl) _ (Or.inl (by rfl)) (.slice A0 N c0) (by rfl) ?_
          refine fl_mv 32 (by rfl) (by decide) (wanted_none (by rfl)) (by rw [hK.out]; rfl) (by rfl) _ (Or.inl (by rfl)) (.int .i64 (k : Int)) (by rfl) ?_
          refine fl_op2 33 (by rfl) (by decide) (wanted_none (by rfl)) (by rw [hK.out]; rfl) (by rfl) (.tmp 31) (.tmp 32) (.slice A0 N c0) (.int .i64 (k : Int)) (by rfl) (by rfl) (.slice A0 k c0) (fun ρ h1 h2 kk w1 (hg : Just (FromB B) _ w1) hb hf => by go_simp) ?_
          refine fl_any2 34 (by rfl) (by decide) (wanted_none (by rfl)) (KF 0 (OwnF B 25 2 k ((lcells Q).take (k * 2)))) (by rw [hK.out]; rfl) (.tmp 30) (.tmp 33) (v30) (.slice A0 k c0) (by rfl) (by rfl) (fun ρ h1 h2 kk w1 (hg : Just (FromB B) _ w1) hb hf => by obtain rfl := before_some 0 (by rfl) hb; have hI := hb.1; refine upon_behindAny (φ := KF 0 (OwnF B 25 2 k ((lcells Q).take (k * 2)))) (by rfl) ?_; have q1 := (facts_take hf (by rw [hA'.out]; kernel_rfl)); have hu : EmptyF B 25 2 v30 w1 := q1; exact upon_imp (empty_app labelE hu h1 h2 (hI1 w1 hg) hone1 (by omega) (HB w1 hg) rfl) fun u w2 h => ⟨h.1, early_of h.2⟩) (fun v34 => ?_)
          refine fl_op1 35 (by rfl) (by decide) (wanted_none (by rfl)) (by rw [hK.out]; rfl) (by rfl) (.tmp 5) (.pointer (some ⟨x, 0, none⟩)) (by rfl) (.agg #[.string d.1, .string d.2]) (fun ρ h1 kk w1 (hg : Just (FromB B) _ w1) hb hf => by have d0 := (hg.blk hBd2 (fun h => hxB h)).cell 0; have d1 := (hg.blk hBd2 (fun h => hxB h)).cell 1; go_simp) ?_
          refine fl_any1 36 (by rfl) (by decide) (wanted_none (by rfl)) (KF 0 (ReadF 2 1 (lcell d))) (by rw [hK.out]; rfl) (.tmp 35) (.agg #[.string d.1, .string d.2]) (by rfl) (fun ρ h1 kk w1 (hg : Just (FromB B) _ w1) hb hf => by refine upon_behindAny (φ := KF 0 (ReadF 2 1 (lcell d))) (by rfl) ?_; exact upon_imp (lread_made rfl h1) fun u w2 h => ⟨h.1, early_of h.2⟩) (fun v36 => ?_)
          refine fl_any2 37 (by rfl) (by decide) (wanted_none (by rfl)) (KF 1 (OwnF B 25 2 (k + 1) ((lcells Q).take (k * 2) ++ lcell d))) (by rw [hK.out]; rfl) (.tmp 34) (.tmp 36) (v34) (v36) (by rfl) (by rfl) (fun ρ h1 h2 kk w1 (hg : Just (FromB B) _ w1) hb hf => by obtain rfl := before_some 0 (by rfl) hb; have hI := hb.1; refine upon_turnAny (φ := KF 1 (OwnF B 25 2 (k + 1) ((lcells Q).take (k * 2) ++ lcell d))) 0 (by rfl) ?_; have q1 := (facts_take hf (by rw [hA'.out]; kernel_rfl)); have q2 := facts_take (facts_pass hf) (by rw [hA'.out]; kernel_rfl); have hr : ReadF 2 1 (lcell d) v36 w1 := q1; have hu : OwnF B 25 2 k ((lcells Q).take (k * 2)) v34 w1 := q2; obtain ⟨A9, c9, hv9, hR9⟩ := hr; rw [hv9] at h2; exact two_app labelE hu h1 h2 hR9 (fun u hu => lcells_one [d] u (by simpa [lcells] using hu)) (by omega) (HB w1 hg) rfl) (fun v37 => ?_)
          refine fl_mv 38 (by rfl) (by decide) (wanted_none (by rfl)) (by rw [hK.out]; rfl) (by rfl) _ (Or.inl (by rfl)) (.slice A0 N c0) (by rfl) ?_
          refine fl_mv 39 (by rfl) (by decide) (wanted_none (by rfl)) (by rw [hK.out]; rfl) (by rfl) _ (Or.inl (by rfl)) (.int .i64 (k : Int)) (by rfl) ?_
          refine fl_op2 40 (by rfl) (by decide) (wanted_none (by rfl)) (by rw [hK.out]; rfl) (by rfl) (.tmp 38) (.tmp 39) (.slice A0 N c0) (.int .i64 (k : Int)) (by rfl) (by rfl) (.slice A2 (N - k) (c0 - k)) (fun ρ h1 h2 kk w1 (hg : Just (FromB B) _ w1) hb hf => by have hA := HA2.out; go_simp) ?_
          refine fl_any2 41 (by rfl) (by decide) (wanted_none (by rfl)) (KF 2 (OwnF B 25 2 (k + 1 + (N - k)) ((lcells Q).take (k * 2) ++ lcell d ++ (lcells Q).drop (k * 2)))) (by rw [hK.out]; rfl) (.tmp 37) (.tmp 40) (v37) (.slice A2 (N - k) (c0 - k)) (by rfl) (by rfl) (fun ρ h1 h2 kk w1 (hg : Just (FromB B) _ w1) hb hf => by obtain rfl := before_some 1 (by rfl) hb; have hI := hb.1; refine upon_turnAny (φ := KF 2 (OwnF B 25 2 (k + 1 + (N - k)) ((lcells Q).take (k * 2) ++ lcell d ++ (lcells Q).drop (k * 2)))) 1 (by rfl) ?_; have q1 := (facts_take hf (by rw [hA'.out]; kernel_rfl)); have hu : OwnF B 25 2 (k + 1) ((lcells Q).take (k * 2) ++ lcell d) v37 w1 := q1; exact two_app labelE hu h1 h2 (hI2 w1 hg) hone2 (by omega) (HB w1 hg) rfl) (fun v41 => ?_)
          refine fl_mv 3 (by rfl) (by decide) (wanted_none (by rfl)) (by rw [hK.out]; rfl) (by rfl) _ (Or.inr (by rfl)) (v41) (by rfl) ?_
          refine fl_end (fun _ _ w1 (hg : Just (FromB B) _ w1) hend hfacts => hT _ _ ?_)
          clear hops hA' hK hT
          simp only [putsL, Act.put, List.setIfInBounds_toArray, List.set_cons_zero, List.set_cons_succ]
          have hF : OwnF B 25 2 (k + 1 + (N - k)) ((lcells Q).take (k * 2) ++ lcell d ++ (lcells Q).drop (k * 2)) v41 w1 := hfacts.1
          clear hend hfacts
          refine reg_end ?_
          have hkl : k + 1 + (N - k) = (Q.take k ++ d :: Q.drop k).length := by
            rw [List.length_append, List.length_cons, List.length_take, List.length_drop, ← HN.out]; omega
          have hcs : lcells (Q.take k ++ d :: Q.drop k) = (lcells Q).take (k * 2) ++ lcell d ++ (lcells Q).drop (k * 2) := by
            unfold lcells
            rw [List.flatMap_append, List.flatMap_cons, flat_take lcell 2 lcell_len, flat_drop lcell 2 lcell_len, List.append_assoc]
          rw [hkl, ← hcs] at hF
          have hby := HBY.out
          generalize Q.take k ++ d :: Q.drop k = Q2 at hF hby
          have hs1 := hg.size
          have hgw := hgw2.size
          have hO2 : Own w1 (New w w1) 25 2 v41 Q2.length (lcells Q2) := Own.mono hF fun b hb => ⟨by have := hb.1; have := HBd.out; omega, hb.2⟩
          have hgf : Grow w w1 := Below.trans hgw2 (hg.below (B := w.heap.size) (fun b hb => by have h2 : B ≤ b := hb; have := HBd.out; omega) hgw)
          clear hF hkl hcs hI1 hI2
          go_wp2_with fail
          go_roundw
          case rel => exact ⟨i + 1, Q2, by omega, by go_num, hby, hO2, hgf⟩
          case measure => simp [intOf]; omega
        · have hkt : decide ((0 : Int) < (k : Int)) = true := decide_eq_true (by omega)
          obtain ⟨j, HJ⟩ : ∃ j : Nat, Hid (k = j + 1) := ⟨k - 1, Lib.hid (by omega)⟩
          have hjN : j < N := by have := HJ.out; omega
          obtain ⟨ad, hqj, ea, hp, _⟩ := lab_at hI0z hjN
          subst ea
          have hij : (k : Int) - 1 = (j : Int) := by have := HJ.out; omega
          have hwj : IntKind.i64.wrap (j : Int) = (j : Int) := by rw [IntKind.wrap_i64]; omega
          have hjneg : ¬ (j : Int) < 0 := by omega
          have hpos : 0 < k := by omega
          obtain ⟨p, hpp⟩ : ∃ p, p = Q[j].1 := ⟨_, rfl⟩
          rw [← hpp] at hp
          have HP := Lib.hid hpp
          have hlt2 : ¬ N ≤ j := by omega
          have hB := hBz
          clear hpp hk0
          cases hcp : slt d.1 p with
          | true =>
            have HCP := Lib.hid hcp
            unfold slt at hcp
            go_wp2_with fail
            refine wp_region_flow 13 44 [] rfl rfl (by kernel_rfl) (by kernel_rfl) (by kernel_rfl) ?_ ?_
            · intro x hx φ he
              cases hx
            intro ops' A' K' T hops hA' hK hT
            refine fl_mv 15 (by rfl) (by decide) (wanted_none (by rfl)) (by rw [hK.out]; rfl) (by rfl) _ (Or.inl (by rfl)) (.int .i64 (k : Int)) (by rfl) ?_
            refine fl_op2 16 (by rfl) (by decide) (wanted_none (by rfl)) (by rw [hK.out]; rfl) (by rfl) (.tmp 15) (.const (.int .i64 0)) (.int .i64 (k : Int)) (.int .i64 0) (by rfl) (by rfl) (.bool true) (fun ρ h1 h2 kk w1 (hg : Grow _ w1) hb hf => by go_simp) ?_
            refine fl_mv 17 (by rfl) (by decide) (wanted_none (by rfl)) (by rw [hK.out]; rfl) (by rfl) _ (Or.inl (by rfl)) (.bool true) (by rfl) ?_
            refine fl_op1 18 (by rfl) (by decide) (wanted_if hops 2 true (by rfl) 17 (by rfl) true (by rfl)) (by rw [hK.out]; rfl) (by rfl) (.tmp 5) (.pointer (some ⟨x, 0, none⟩)) (by rfl) (.pointer (some ⟨x, 0, none⟩)) (fun ρ h1 kk w1 (hg : Grow _ w1) hb hf => by go_simp) ?_
            refine fl_op1 19 (by rfl) (by decide) (wanted_if hops 2 true (by rfl) 17 (by rfl) true (by rfl)) (by rw [hK.out]; rfl) (by rfl) (.tmp 18) (.pointer (some ⟨x, 0, none⟩)) (by rfl) (.string d.1) (fun ρ h1 kk w1 (hg : Grow _ w1) hb hf => by have c := (hB.grow hg).cell 0; go_simp) ?_
            refine fl_mv 20 (by rfl) (by decide) (wanted_if hops 2 true (by rfl) 17 (by rfl) true (by rfl)) (by rw [hK.out]; rfl) (by rfl) _ (Or.inl (by rfl)) (.slice (some ad) N c0) (by rfl) ?_
            refine fl_mv 21 (by rfl) (by decide) (wanted_if hops 2 true (by rfl) 17 (by rfl) true (by rfl)) (by rw [hK.out]; rfl) (by rfl) _ (Or.inl (by rfl)) (.int .i64 (k : Int)) (by rfl) ?_
            refine fl_op2 22 (by rfl) (by decide) (wanted_if hops 2 true (by rfl) 17 (by rfl) true (by rfl)) (by rw [hK.out]; rfl) (by rfl) (.tmp 21) (.const (.int .i64 1)) (.int .i64 (k : Int)) (.int .i64 1) (by rfl) (by rfl) (.int .i64 (j : Int)) (fun ρ h1 h2 kk w1 (hg : Grow _ w1) hb hf => by go_simp) ?_
            refine fl_op2 23 (by rfl) (by decide) (wanted_if hops 2 true (by rfl) 17 (by rfl) true (by rfl)) (by rw [hK.out]; rfl) (by rfl) (.tmp 20) (.tmp 22) (.slice (some ad) N c0) (.int .i64 (j : Int)) (by rfl) (by rfl) (.pointer (some (ad.add (j * 2)))) (fun ρ h1 h2 kk w1 (hg : Grow _ w1) hb hf => by go_simp; try (intro hlt; omega)) ?_
            refine fl_op1 24 (by rfl) (by decide) (wanted_if hops 2 true (by rfl) 17 (by rfl) true (by rfl)) (by rw [hK.out]; rfl) (by rfl) (.tmp 23) (.pointer (some (ad.add (j * 2)))) (by rfl) (.pointer (some (ad.add (j * 2)))) (fun ρ h1 kk w1 (hg : Grow _ w1) hb hf => by go_simp) ?_
            refine fl_op1 25 (by rfl) (by decide) (wanted_if hops 2 true (by rfl) 17 (by rfl) true (by rfl)) (by rw [hK.out]; rfl) (by rfl) (.tmp 24) (.pointer (some (ad.add (j * 2)))) (by rfl) (.string p) (fun ρ h1 kk w1 (hg : Grow _ w1) hb hf => by have c := hp w1 hg; go_simp) ?_
            refine fl_op2 26 (by rfl) (by decide) (wanted_if hops 2 true (by rfl) 17 (by rfl) true (by rfl)) (by rw [hK.out]; rfl) (by rfl) (.tmp 19) (.tmp 25) (.string d.1) (.string p) (by rfl) (by rfl) (.bool true) (fun ρ h1 h2 kk w1 (hg : Grow _ w1) hb hf => by go_simp) ?_
            refine fl_pick 27 (by rfl) (by decide) (wanted_none (by rfl)) (by rw [hK.out]; rfl) (by rfl) _ _ _ (by rfl) true (by rfl) (.bool true) (by rfl) ?_
            refine fl_end (fun _ _ w1 (hg : Grow _ w1) _ hfacts => hT _ _ ?_)
            clear hops hA' hK hT
            simp only [putsL, Act.put, List.setIfInBounds_toArray, List.set_cons_zero, List.set_cons_succ, List.drop_succ_cons, List.drop_zero]
            clear hfacts
            go_wp2_with fail
            go_roundw
            case rel =>
              refine ⟨j, by omega, by go_num, fun a ha haj => ?_, hgz.trans hg⟩
              rcases Nat.lt_or_ge j a with h | h
              · exact HLT.out a ha (by have := HJ.out; omega)
              · obtain rfl : a = j := by omega
                rw [← HP.out]; exact HCP.out
            case measure => simp [intOf]; omega
          | false =>
            have HBY := HST.out fun a ha e => by
              obtain rfl : a = j := by have := HJ.out; omega
              rw [← HP.out]; exact hcp
            unfold slt at hcp
            go_wp2_with fail
            refine wp_region_flow 13 44 [] rfl rfl (by kernel_rfl) (by kernel_rfl) (by kernel_rfl) ?_ ?_
            · intro x hx φ he
              cases hx
            intro ops' A' K' T hops hA' hK hT
            refine fl_mv 15 (by rfl) (by decide) (wanted_none (by rfl)) (by rw [hK.out]; rfl) (by rfl) _ (Or.inl (by rfl)) (.int .i64 (k : Int)) (by rfl) ?_
            refine fl_op2 16 (by rfl) (by decide) (wanted_none (by rfl)) (by rw [hK.out]; rfl) (by rfl) (.tmp 15) (.const (.int .i64 0)) (.int .i64 (k : Int)) (.int .i64 0) (by rfl) (by rfl) (.bool true) (fun ρ h1 h2 kk w1 (hg : Grow _ w1) hb hf => by go_simp) ?_
            refine fl_mv 17 (by rfl) (by decide) (wanted_none (by rfl)) (by rw [hK.out]; rfl) (by rfl) _ (Or.inl (by rfl)) (.bool true) (by rfl) ?_
            refine fl_op1 18 (by rfl) (by decide) (wanted_if hops 2 true (by rfl) 17 (by rfl) true (by rfl)) (by rw [hK.out]; rfl) (by rfl) (.tmp 5) (.pointer (some ⟨x, 0, none⟩)) (by rfl) (.pointer (some ⟨x, 0, none⟩)) (fun ρ h1 kk w1 (hg : Grow _ w1) hb hf => by go_simp) ?_
            refine fl_op1 19 (by rfl) (by decide) (wanted_if hops 2 true (by rfl) 17 (by rfl) true (by rfl)) (by rw [hK.out]; rfl) (by rfl) (.tmp 18) (.pointer (some ⟨x, 0, none⟩)) (by rfl) (.string d.1) (fun ρ h1 kk w1 (hg : Grow _ w1) hb hf => by have c := (hB.grow hg).cell 0; go_simp) ?_
            refine fl_mv 20 (by rfl) (by decide) (wanted_if hops 2 true (by rfl) 17 (by rfl) true (by rfl)) (by rw [hK.out]; rfl) (by rfl) _ (Or.inl (by rfl)) (.slice (some ad) N c0) (by rfl) ?_
            refine fl_mv 21 (by rfl) (by decide) (wanted_if hops 2 true (by rfl) 17 (by rfl) true (by rfl)) (by rw [hK.out]; rfl) (by rfl) _ (Or.inl (by rfl)) (.int .i64 (k : Int)) (by rfl) ?_
            refine fl_op2 22 (by rfl) (by decide) (wanted_if hops 2 true (by rfl) 17 (by rfl) true (by rfl)) (by rw [hK.out]; rfl) (by rfl) (.tmp 21) (.const (.int .i64 1)) (.int .i64 (k : Int)) (.int .i64 1) (by rfl) (by rfl) (.int .i64 (j : Int)) (fun ρ h1 h2 kk w1 (hg : Grow _ w1) hb hf => by go_simp) ?_
            refine fl_op2 23 (by rfl) (by decide) (wanted_if hops 2 true (by rfl) 17 (by rfl) true (by rfl)) (by rw [hK.out]; rfl) (by rfl) (.tmp 20) (.tmp 22) (.slice (some ad) N c0) (.int .i64 (j : Int)) (by rfl) (by rfl) (.pointer (some (ad.add (j * 2)))) (fun ρ h1 h2 kk w1 (hg : Grow _ w1) hb hf => by go_simp; try (intro hlt; omega)) ?_
            refine fl_op1 24 (by rfl) (by decide) (wanted_if hops 2 true (by rfl) 17 (by rfl) true (by rfl)) (by rw [hK.out]; rfl) (by rfl) (.tmp 23) (.pointer (some (ad.add (j * 2)))) (by rfl) (.pointer (some (ad.add (j * 2)))) (fun ρ h1 kk w1 (hg : Grow _ w1) hb hf => by go_simp) ?_
            refine fl_op1 25 (by rfl) (by decide) (wanted_if hops 2 true (by rfl) 17 (by rfl) true (by rfl)) (by rw [hK.out]; rfl) (by rfl) (.tmp 24) (.pointer (some (ad.add (j * 2)))) (by rfl) (.string p) (fun ρ h1 kk w1 (hg : Grow _ w1) hb hf => by have c := hp w1 hg; go_simp) ?_
            refine fl_op2 26 (by rfl) (by decide) (wanted_if hops 2 true (by rfl) 17 (by rfl) true (by rfl)) (by rw [hK.out]; rfl) (by rfl) (.tmp 19) (.tmp 25) (.string d.1) (.string p) (by rfl) (by rfl) (.bool false) (fun ρ h1 h2 kk w1 (hg : Grow _ w1) hb hf => by go_simp) ?_
            refine fl_pick 27 (by rfl) (by decide) (wanted_none (by rfl)) (by rw [hK.out]; rfl) (by rfl) _ _ _ (by rfl) true (by rfl) (.bool false) (by rfl) ?_
            refine fl_end (fun _ _ w1 (hg : Grow _ w1) _ hfacts => hT _ _ ?_)
            clear hops hA' hK hT
            simp only [putsL, Act.put, List.setIfInBounds_toArray, List.set_cons_zero, List.set_cons_succ, List.drop_succ_cons, List.drop_zero]
            clear hfacts
            obtain ⟨w2, rfl⟩ : ∃ w2 : World, w2 = w1 := ⟨_, rfl⟩
            have hB2 := hB.grow hg
            have hI2 := hI0z.grow hg
            have hgw2 := hgb.trans (hgz.trans hg)
            obtain ⟨B, HBd⟩ : ∃ B : Nat, Hid (B = w2.heap.size) := ⟨_, rfl⟩
            have HB : ∀ w1, Just (FromB B) w2 w1 → B ≤ w1.heap.size := fun w1 h => HBd.out ▸ h.size
            have hxl := hB2.lt
            have hxB : ¬ FromB B x := fun h => by have h2 : B ≤ x := h; have := HBd.out; omega
            have hBd2 := hB2
            have hswr := (hgx.trans (hgz.trans hg)).size
            have hDB : ∀ b, New w wO b → ¬ FromB B b := fun b hb h => by have := hb.2; have h2 : B ≤ b := h; have := HBd.out; omega
            obtain ⟨A2, HA2⟩ : ∃ A2 : Option Addr, Hid (A2 = if c0 = k then (some ad) else (some ad).map (·.add (k * 2))) := ⟨_, rfl⟩
            have hI3 := hI2
            have hI2 : ∀ w1, Just (FromB B) w2 w1 → Reads w1 w1.heap.size 2 A2 (N - k) ((lcells Q).drop (k * 2)) := fun w1 hj => by
              have := (hI3.just hj hDB).reads.cut (k := k) (by omega) hnc
              rwa [← HA2.out] at this
            have hI1 : ∀ w1, Just (FromB B) w2 w1 → Reads w1 w1.heap.size 2 (some ad) k ((lcells Q).take (k * 2)) := fun w1 hj => ((hI3.just hj hDB).take (by omega)).reads
            have hone1 : ∀ u ∈ (lcells Q).take (k * 2), u.oneCell' = true := fun u hu => lcells_one Q u (List.mem_of_mem_take hu)
            have hone2 : ∀ u ∈ (lcells Q).drop (k * 2), u.oneCell' = true := fun u hu => lcells_one Q u (List.mem_of_mem_drop hu)
            have hck : ¬ c0 < k := by omega
            have hnk : ¬ N < k := by omega
            clear hI3
            go_wp2_with fail
            refine wp_region_reg rfl ?_
            refine reg_flow (TwoStL B 7 11 [(4, 0)]) (twoStL_ok B 7 11 _) 0 13 44 [(0, .inr (KF 0 (EmptyF B 25 2))), (4, .inr (KF 0 (OwnF B 25 2 k ((lcells Q).take (k * 2))))), (6, .inr (KF 0 (ReadF 2 1 (lcell d)))), (7, .inr (KF 1 (OwnF B 25 2 (k + 1) ((lcells Q).take (k * 2) ++ lcell d)))), (11, .inr (KF 2 (OwnF B 25 2 (k + 1 + (N - k)) ((lcells Q).take (k * 2) ++ lcell d ++ (lcells Q).drop (k * 2)))))] rfl (by kernel_rfl) (by kernel_rfl) (by kernel_rfl) ?_ (Just.of_grow (Grow.refl _).drew) trivial ?_
            · intro x hx φ he
              simp only [List.mem_cons, List.not_mem_nil, or_false] at hx
              rcases hx with rfl | rfl | rfl | rfl | rfl <;> cases he
              all_goals first | exact lasts_quiet (lasting_bytes _) | exact kf_lasts (ownF_lasting _ _ _ _ _) _ | exact kf_lasts (emptyF_lasting _ _ _) _ | exact kf_lasts (readF_lasting _ _ _) _
            intro ops' A' K' T hops hA' hK hT
            refine fl_any 30 (by rfl) (by decide) (wanted_none (by rfl)) (KF 0 (EmptyF B 25 2)) (by rw [hK.out]; rfl) (fun kk w1 (hg : Just (FromB B) _ w1) hb hf => by refine upon_behindAny (φ := KF 0 (EmptyF B 25 2)) (by rfl) ?_; exact upon_imp (empty_made labelE (HB w1 hg) rfl) fun u w2 h => ⟨h.1, early_of h.2⟩) (fun v30 => ?_)
            refine fl_mv 31 (by rfl) (by decide) (wanted_none (by rfl)) (by rw [hK.out]; rfl) (by rfl) _ (Or.inl (by rfl)) (.slice (some ad) N c0) (by rfl) ?_
            refine fl_mv 32 (by rfl) (by decide) (wanted_none (by rfl)) (by rw [hK.out]; rfl) (by rfl) _ (Or.inl (by rfl)) (.int .i64 (k : Int)) (by rfl) ?_
            refine fl_op2 33 (by rfl) (by decide) (wanted_none (by rfl)) (by rw [hK.out]; rfl) (by rfl) (.tmp 31) (.tmp 32) (.slice (some ad) N c0) (.int .i64 (k : Int)) (by rfl) (by rfl) (.slice (some ad) k c0) (fun ρ h1 h2 kk w1 (hg : Just (FromB B) _ w1) hb hf => by go_simp) ?_
            refine fl_any2 34 (by rfl) (by decide) (wanted_none (by rfl)) (KF 0 (OwnF B 25 2 k ((lcells Q).take (k * 2)))) (by rw [hK.out]; rfl) (.tmp 30) (.tmp 33) (v30) (.slice (some ad) k c0) (by rfl) (by rfl) (fun ρ h1 h2 kk w1 (hg : Just (FromB B) _ w1) hb hf => by obtain rfl := before_some 0 (by rfl) hb; have hI := hb.1; refine upon_behindAny (φ := KF 0 (OwnF B 25 2 k ((lcells Q).take (k * 2)))) (by rfl) ?_; have q1 := (facts_take hf (by rw [hA'.out]; kernel_rfl)); have hu : EmptyF B 25 2 v30 w1 := q1; exact upon_imp (empty_app labelE hu h1 h2 (hI1 w1 hg) hone1 (by omega) (HB w1 hg) rfl) fun u w2 h => ⟨h.1, early_of h.2⟩) (fun v34 => ?_)
            refine fl_op1 35 (by rfl) (by decide) (wanted_none (by rfl)) (by rw [hK.out]; rfl) (by rfl) (.tmp 5) (.pointer (some ⟨x, 0, none⟩)) (by rfl) (.agg #[.string d.1, .string d.2]) (fun ρ h1 kk w1 (hg : Just (FromB B) _ w1) hb hf => by have d0 := (hg.blk hBd2 (fun h => hxB h)).cell 0; have d1 := (hg.blk hBd2 (fun h => hxB h)).cell 1; go_simp) ?_
            refine fl_any1 36 (by rfl) (by decide) (wanted_none (by rfl)) (KF 0 (ReadF 2 1 (lcell d))) (by rw [hK.out]; rfl) (.tmp 35) (.agg #[.string d.1, .string d.2]) (by rfl) (fun ρ h1 kk w1 (hg : Just (FromB B) _ w1) hb hf => by refine upon_behindAny (φ := KF 0 (ReadF 2 1 (lcell d))) (by rfl) ?_; exact upon_imp (lread_made rfl h1) fun u w2 h => ⟨h.1, early_of h.2⟩) (fun v36 => ?_)
            refine fl_any2 37 (by rfl) (by decide) (wanted_none (by rfl)) (KF 1 (OwnF B 25 2 (k + 1) ((lcells Q).take (k * 2) ++ lcell d))) (by rw [hK.out]; rfl) (.tmp 34) (.tmp 36) (v34) (v36) (by rfl) (by rfl) (fun ρ h1 h2 kk w1 (hg : Just (FromB B) _ w1) hb hf => by obtain rfl := before_some 0 (by rfl) hb; have hI := hb.1; refine upon_turnAny (φ := KF 1 (OwnF B 25 2 (k + 1) ((lcells Q).take (k * 2) ++ lcell d))) 0 (by rfl) ?_; have q1 := (facts_take hf (by rw [hA'.out]; kernel_rfl)); have q2 := facts_take (facts_pass hf) (by rw [hA'.out]; kernel_rfl); have hr : ReadF 2 1 (lcell d) v36 w1 := q1; have hu : OwnF B 25 2 k ((lcells Q).take (k * 2)) v34 w1 := q2; obtain ⟨A9, c9, hv9, hR9⟩ := hr; rw [hv9] at h2; exact two_app labelE hu h1 h2 hR9 (fun u hu => lcells_one [d] u (by simpa [lcells] using hu)) (by omega) (HB w1 hg) rfl) (fun v37 => ?_)
            refine fl_mv 38 (by rfl) (by decide) (wanted_none (by rfl)) (by rw [hK.out]; rfl) (by rfl) _ (Or.inl (by rfl)) (.slice (some ad) N c0) (by rfl) ?_
            refine fl_mv 39 (by rfl) (by decide) (wanted_none (by rfl)) (by rw [hK.out]; rfl) (by rfl) _ (Or.inl (by rfl)) (.int .i64 (k : Int)) (by rfl) ?_
            refine fl_op2 40 (by rfl) (by decide) (wanted_none (by rfl)) (by rw [hK.out]; rfl) (by rfl) (.tmp 38) (.tmp 39) (.slice (some ad) N c0) (.int .i64 (k : Int)) (by rfl) (by rfl) (.slice A2 (N - k) (c0 - k)) (fun ρ h1 h2 kk w1 (hg : Just (FromB B) _ w1) hb hf => by have hA := HA2.out; go_simp) ?_
            refine fl_any2 41 (by rfl) (by decide) (wanted_none (by rfl)) (KF 2 (OwnF B 25 2 (k + 1 + (N - k)) ((lcells Q).take (k * 2) ++ lcell d ++ (lcells Q).drop (k * 2)))) (by rw [hK.out]; rfl) (.tmp 37) (.tmp 40) (v37) (.slice A2 (N - k) (c0 - k)) (by rfl) (by rfl) (fun ρ h1 h2 kk w1 (hg : Just (FromB B) _ w1) hb hf => by obtain rfl := before_some 1 (by rfl) hb; have hI := hb.1; refine upon_turnAny (φ := KF 2 (OwnF B 25 2 (k + 1 + (N - k)) ((lcells Q).take (k * 2) ++ lcell d ++ (lcells Q).drop (k * 2)))) 1 (by rfl) ?_; have q1 := (facts_take hf (by rw [hA'.out]; kernel_rfl)); have hu : OwnF B 25 2 (k + 1) ((lcells Q).take (k * 2) ++ lcell d) v37 w1 := q1; exact two_app labelE hu h1 h2 (hI2 w1 hg) hone2 (by omega) (HB w1 hg) rfl) (fun v41 => ?_)
            refine fl_mv 3 (by rfl) (by decide) (wanted_none (by rfl)) (by rw [hK.out]; rfl) (by rfl) _ (Or.inr (by rfl)) (v41) (by rfl) ?_
            refine fl_end (fun _ _ w1 (hg : Just (FromB B) _ w1) hend hfacts => hT _ _ ?_)
            clear hops hA' hK hT
            simp only [putsL, Act.put, List.setIfInBounds_toArray, List.set_cons_zero, List.set_cons_succ]
            have hF : OwnF B 25 2 (k + 1 + (N - k)) ((lcells Q).take (k * 2) ++ lcell d ++ (lcells Q).drop (k * 2)) v41 w1 := hfacts.1
            clear hend hfacts
            refine reg_end ?_
            have hkl : k + 1 + (N - k) = (Q.take k ++ d :: Q.drop k).length := by
              rw [List.length_append, List.length_cons, List.length_take, List.length_drop, ← HN.out]; omega
            have hcs : lcells (Q.take k ++ d :: Q.drop k) = (lcells Q).take (k * 2) ++ lcell d ++ (lcells Q).drop (k * 2) := by
              unfold lcells
              rw [List.flatMap_append, List.flatMap_cons, flat_take lcell 2 lcell_len, flat_drop lcell 2 lcell_len, List.append_assoc]
            rw [hkl, ← hcs] at hF
            have hby := HBY.out
            generalize Q.take k ++ d :: Q.drop k = Q2 at hF hby
            have hs1 := hg.size
            have hgw := hgw2.size
            have hO2 : Own w1 (New w w1) 25 2 v41 Q2.length (lcells Q2) := Own.mono hF fun b hb => ⟨by have := hb.1; have := HBd.out; omega, hb.2⟩
            have hgf : Grow w w1 := Below.trans hgw2 (hg.below (B := w.heap.size) (fun b hb => by have h2 : B ≤ b := hb; have := HBd.out; omega) hgw)
            clear hF hkl hcs hI1 hI2
            go_wp2_with fail
            go_roundw
            case rel => exact ⟨i + 1, Q2, by omega, by go_num, hby, hO2, hgf⟩
            case measure => simp [intOf]; omega
    · obtain rfl : n = i := by omega
      have hit : decide ((n : Int) < (n : Int)) = false := decide_eq_false (by omega)
      have HQN := Lib.hid hQl
      rw [List.take_of_length_le (by have := HLL.out; omega)] at hQ
      rw [hQl] at hI0 ⊢
      clear hO hQl
      go_wp2_with fail
      go_ret
      exact ⟨_, _, Q, rfl, hQ, hI0, hgr⟩
end Go.Proofs.YthkkfdnechmddaaDoor
