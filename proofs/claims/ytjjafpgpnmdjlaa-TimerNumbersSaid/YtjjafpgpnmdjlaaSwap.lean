/- rows.Swap. -/
import Derived.Test.YtjjafpgpnmdjlaaLess
namespace Go.Proofs.Ytjjafpgpnmdjlaa
open Go.RowKit Go.Hop
theorem Its.grow {w w' : World} {R : Nat → Prop} {v : Value} {h : List It} (hI : Its w R v h) (hg : Grow w w') : Its w' R v h := Row.grow hI hg
theorem Its.just {w w' : World} {R U : Nat → Prop} {v : Value} {h : List It} (hI : Its w R v h) (hj : Just U w w') (hd : ∀ b, R b → ¬ U b) : Its w' R v h := Row.just hI hj hd
theorem item_store {w : World} {R : Nat → Prop} {g n c k : Nat} {h : List It} {a : It} {ρ : Operand → Value} {o : Oper} {x y : Operand} (hI : Its w R (.slice (some ⟨g, 0, none⟩) n c) h) (hk : k < h.length)
    (h1 : ρ x = .pointer (some ⟨g, k * 2, none⟩)) (h2 : ρ y = .agg #[.int .i64 a.1, .int .i64 a.2]) (ho : o.op = .store 36 x y) :
    flowUpon Try.prog (fun u w' => u = undef ∧ Just R w w' ∧ Its w' R (.slice (some ⟨g, 0, none⟩) n c) (h.set k a)) ((execOp ρ o).run Try.prog w) := by
  obtain ⟨dst, op, ty, pos, after, guard⟩ := o
  simp only at ho
  subst ho
  obtain ⟨c0, c1, f0, f1, hput⟩ := its_at hI hk
  obtain ⟨p1, p2⟩ := hput a
  exact flowUpon_skip (w' := (w.setCell ⟨g, k * 2, none⟩ (.int .i64 a.1)).setCell ⟨g, k * 2 + 1, none⟩ (.int .i64 a.2)) (by go_simp) ⟨rfl, p2, p1⟩
def SwSt (R : Nat → Prop) (v : Value) (h : List It) (i j : Nat) : Stages where
  G := Just R
  T := fun _ => Just R
  I := fun k w => match k with
    | 0 => Its w R v h
    | 1 => Its w R v (h.set i (hat h j))
    | _ => Its w R v (swapL h i j)
  muts := [25, 27]
  stage := fun q => if q = 16 then some 0 else if q = 23 then some 0 else if q = 25 then some 0 else if q = 27 then some 1 else none
theorem swSt_ok {R : Nat → Prop} {v : Value} {h : List It} {i j : Nat} : (SwSt R v h i j).Ok := by
  refine ⟨fun _ _ _ => Just.trans, fun _ _ h => Just.of_grow h, fun _ _ _ h => h, fun k a b hh hg => ?_⟩
  rcases k with _ | _ | k
  · exact Row.grow hh hg
  · exact Row.grow hh hg
  · exact Row.grow hh hg
abbrev PM (w : World) (m n : Nat) (f : Int → Option Int) : Prop := PMap Try.prog 2 3 .i64 .i64 w m n f
def putF (f : Int → Option Int) (k v : Int) : Int → Option Int := fun y => if y = k then some v else f y
def EntSt (m n : Nat) (f : Int → Option Int) (k1 k2 : Int) (i j s1 s2 : Nat) : Stages where
  G := Just fun b => b = m
  T := fun _ => Just fun b => b = m
  I := fun k w => match k with
    | 0 => PM w m n f ∧ EntIs w m (.int .i64 k1) s1 ∧ EntIs w m (.int .i64 k2) s2
    | 1 => PM w m n (putF f k1 (i : Int)) ∧ EntIs w m (.int .i64 k2) s2
    | _ => PM w m n (putF (putF f k1 (i : Int)) k2 (j : Int))
  muts := [28, 31]
  stage := fun q => if q = 26 then some 0 else if q = 29 then some 1 else if q = 28 then some 0 else if q = 31 then some 1 else none
theorem entSt_ok {m n : Nat} {f : Int → Option Int} {k1 k2 : Int} {i j s1 s2 : Nat} : (EntSt m n f k1 k2 i j s1 s2).Ok := by
  refine ⟨fun _ _ _ => Just.trans, fun _ _ h => Just.of_grow h, fun _ _ _ h => h, fun k a b hh hg => ?_⟩
  rcases k with _ | _ | k
  · exact ⟨hh.1.grow hg, hh.2.1.grow hg, hh.2.2.grow hg⟩
  · exact ⟨hh.1.grow hg, hh.2.grow hg⟩
  · exact PMap.grow hh hg
theorem ent_store {w : World} {m n : Nat} {f : Int → Option Int} {k v v0 : Int} {k' : Value} {s s' : Nat} {ρ : Operand → Value} {o : Oper} {x y z : Operand} (hP : PM w m n f) (he : EntIs w m (.int .i64 k) s) (he' : EntIs w m k' s')
    (hk : (Lit.int .i64 k).wf = true) (hv : (Lit.int .i64 v).wf = true) (hn : n < maxLen) (hf : f k = some v0) (h1 : ρ x = .map (some m)) (h2 : ρ y = .int .i64 (s : Int)) (h3 : ρ z = .int .i64 v) (ho : o.op = .entryStore 34 x y z) :
    flowUpon Try.prog (fun u w' => u = undef ∧ Just (fun b => b = m) w w' ∧ PM w' m n (putF f k v) ∧ EntIs w' m k' s') ((execOp ρ o).run Try.prog w) := by
  obtain ⟨dst, op, ty, pos, after, guard⟩ := o
  simp only at ho
  subst ho
  obtain ⟨w', hrun, hP', hj, hk'⟩ := hP.put_ent intMap k v v0 hk hv hn hf
  have hst := (hP.entry intMap k v0 hk hf he).2 (.int .i64 v)
  rw [hrun] at hst
  exact flowUpon_skip (w' := w') (by go_simp) ⟨rfl, hj, hP', hk' _ _ he'⟩
theorem idx_swap {h : List It} {f : Int → Option Int} {i j : Nat} (hf : IdxIs h f) (hG : Good h) (hi : i < h.length) (hj : j < h.length) :
    IdxIs (swapL h i j) (putF (putF f (hat (swapL h i j) i).2 (i : Int)) (hat (swapL h i j) j).2 (j : Int)) := by
  have hsw : ∀ k, hat (swapL h i j) k = if k = j then hat h i else if k = i then hat h j else hat h k := fun k => hat_swap hi hj
  have hG' := hG.perm (swap_perm hi hj)
  have hl := swapL_len h i j
  intro k p
  unfold putF
  by_cases h2 : k = (hat (swapL h i j) j).2
  · rw [if_pos h2]
    constructor
    · intro he; injection he with he; exact ⟨j, by omega, h2.symm, he.symm⟩
    · rintro ⟨q, hq, he, rfl⟩
      rw [hG'.inj hq (j := j) (by omega) (he.trans h2)]
  · rw [if_neg h2]
    by_cases h1 : k = (hat (swapL h i j) i).2
    · rw [if_pos h1]
      constructor
      · intro he; injection he with he; exact ⟨i, by omega, h1.symm, he.symm⟩
      · rintro ⟨q, hq, he, rfl⟩
        rw [hG'.inj hq (j := i) (by omega) (he.trans h1)]
    · rw [if_neg h1, hf k p]
      rw [hsw, if_pos rfl] at h2
      constructor
      · rintro ⟨q, hq, he, rfl⟩
        refine ⟨q, by omega, ?_, rfl⟩
        have hqi : q ≠ i := fun e => h2 (by rw [← he, e])
        have hqj : q ≠ j := fun e => by
          subst e
          by_cases hij : i = q
          · exact hqi hij.symm
          · rw [hsw, if_neg hij, if_pos rfl] at h1; exact h1 he.symm
        rw [hsw, if_neg hqj, if_neg hqi]; exact he
      · rintro ⟨q, hq, he, rfl⟩
        refine ⟨q, by omega, ?_, rfl⟩
        have hqj : q ≠ j := fun e => by rw [e, hsw, if_pos rfl] at he; exact h2 he.symm
        have hqi : q ≠ i := fun e => by rw [e] at he; exact h1 he.symm
        rw [hsw, if_neg hqj, if_neg hqi] at he; exact he
theorem wf_of {x : Int} (h : in64 x) : (Lit.int .i64 x).wf = true := wf64 h.1 h.2
set_option maxRecDepth 20000 in
theorem rSwap_any (w : World) (r : Nat) (h : List It) (i j : Nat) (hi : i < h.length) (hj : j < h.length) :
    Turns Try.prog 44 #[.pointer (some ⟨r, 0, none⟩), .int .i64 (i : Int), .int .i64 (j : Int)] (fun e => e = .returned (.tuple #[])) (RowsAt r h) (RowsAt r (swapL h i j)) w := by
  intro V hQ hV
  obtain ⟨hVr, v, R, m, f, hB, hI, hP, hf, hG, hR, hVm, hmr⟩ := hQ
  obtain ⟨g, c, rfl, hRg, _, hnc, hcm⟩ := its_shape hI (by omega)
  have hrR : ¬ R r := fun hh => (hR r hh).2.1 rfl
  have hn20 := hG.2.2
  go_enter Try.func44, Try.ntmps44
  go_wp2_with fail
  refine wp_region_reg rfl ?_
  refine reg_flow (SwSt R (.slice (some ⟨g, 0, none⟩) h.length c) h i j) swSt_ok 0 28 62 [(25, .inl (undef)), (27, .inl (undef))] rfl (by kernel_rfl) (by kernel_rfl) (by kernel_rfl) ?_ (Just.of_grow (Grow.refl _).drew) hI ?_
  · intro x hx φ he
    simp only [List.mem_cons, List.not_mem_nil, or_false] at hx
    rcases hx with rfl | rfl <;> cases he
  intro ops' A' K' T hops hA' hK hT
  refine fl_mv 6 (by rfl) (by decide) (wanted_none (by rfl)) (by rw [hK.out]; rfl) (by rfl) _ (Or.inl (by rfl)) (.pointer (some ⟨r, 0, none⟩)) (by rfl) ?_
  refine fl_op1 7 (by rfl) (by decide) (wanted_none (by rfl)) (by rw [hK.out]; rfl) (by rfl) (.tmp 6) (.pointer (some ⟨r, 0, none⟩)) (by rfl) (.pointer (some ⟨r, 0, none⟩)) (fun ρ h1 kk w1 (hg : Just R _ w1) hb hf => by go_simp) ?_
  refine fl_op1 8 (by rfl) (by decide) (wanted_none (by rfl)) (by rw [hK.out]; rfl) (by rfl) (.tmp 7) (.pointer (some ⟨r, 0, none⟩)) (by rfl) (.pointer (some ⟨r, 0, none⟩)) (fun ρ h1 kk w1 (hg : Just R _ w1) hb hf => by go_simp) ?_
  refine fl_op1 9 (by rfl) (by decide) (wanted_none (by rfl)) (by rw [hK.out]; rfl) (by rfl) (.tmp 8) (.pointer (some ⟨r, 0, none⟩)) (by rfl) (.slice (some ⟨g, 0, none⟩) h.length c) (fun ρ h1 kk w1 (hg : Just R _ w1) hb hf => by have c0 := (hg.blk hB hrR).cell 0; go_simp) ?_
  refine fl_mv 10 (by rfl) (by decide) (wanted_none (by rfl)) (by rw [hK.out]; rfl) (by rfl) _ (Or.inl (by rfl)) (.int .i64 (i : Int)) (by rfl) ?_
  refine fl_mv 11 (by rfl) (by decide) (wanted_none (by rfl)) (by rw [hK.out]; rfl) (by rfl) _ (Or.inl (by rfl)) (.pointer (some ⟨r, 0, none⟩)) (by rfl) ?_
  refine fl_op1 12 (by rfl) (by decide) (wanted_none (by rfl)) (by rw [hK.out]; rfl) (by rfl) (.tmp 11) (.pointer (some ⟨r, 0, none⟩)) (by rfl) (.pointer (some ⟨r, 0, none⟩)) (fun ρ h1 kk w1 (hg : Just R _ w1) hb hf => by go_simp) ?_
  refine fl_op1 13 (by rfl) (by decide) (wanted_none (by rfl)) (by rw [hK.out]; rfl) (by rfl) (.tmp 12) (.pointer (some ⟨r, 0, none⟩)) (by rfl) (.pointer (some ⟨r, 0, none⟩)) (fun ρ h1 kk w1 (hg : Just R _ w1) hb hf => by go_simp) ?_
  refine fl_op1 14 (by rfl) (by decide) (wanted_none (by rfl)) (by rw [hK.out]; rfl) (by rfl) (.tmp 13) (.pointer (some ⟨r, 0, none⟩)) (by rfl) (.slice (some ⟨g, 0, none⟩) h.length c) (fun ρ h1 kk w1 (hg : Just R _ w1) hb hf => by have c0 := (hg.blk hB hrR).cell 0; go_simp) ?_
  refine fl_mv 15 (by rfl) (by decide) (wanted_none (by rfl)) (by rw [hK.out]; rfl) (by rfl) _ (Or.inl (by rfl)) (.int .i64 (j : Int)) (by rfl) ?_
  refine fl_mv 16 (by rfl) (by decide) (wanted_none (by rfl)) (by rw [hK.out]; rfl) (by rfl) _ (Or.inl (by rfl)) (.pointer (some ⟨r, 0, none⟩)) (by rfl) ?_
  refine fl_op1 17 (by rfl) (by decide) (wanted_none (by rfl)) (by rw [hK.out]; rfl) (by rfl) (.tmp 16) (.pointer (some ⟨r, 0, none⟩)) (by rfl) (.pointer (some ⟨r, 0, none⟩)) (fun ρ h1 kk w1 (hg : Just R _ w1) hb hf => by go_simp) ?_
  refine fl_op1 18 (by rfl) (by decide) (wanted_none (by rfl)) (by rw [hK.out]; rfl) (by rfl) (.tmp 17) (.pointer (some ⟨r, 0, none⟩)) (by rfl) (.pointer (some ⟨r, 0, none⟩)) (fun ρ h1 kk w1 (hg : Just R _ w1) hb hf => by go_simp) ?_
  refine fl_op1 19 (by rfl) (by decide) (wanted_none (by rfl)) (by rw [hK.out]; rfl) (by rfl) (.tmp 18) (.pointer (some ⟨r, 0, none⟩)) (by rfl) (.slice (some ⟨g, 0, none⟩) h.length c) (fun ρ h1 kk w1 (hg : Just R _ w1) hb hf => by have c0 := (hg.blk hB hrR).cell 0; go_simp) ?_
  refine fl_mv 20 (by rfl) (by decide) (wanted_none (by rfl)) (by rw [hK.out]; rfl) (by rfl) _ (Or.inl (by rfl)) (.int .i64 (j : Int)) (by rfl) ?_
  refine fl_op2 21 (by rfl) (by decide) (wanted_none (by rfl)) (by rw [hK.out]; rfl) (by rfl) (.tmp 19) (.tmp 20) (.slice (some ⟨g, 0, none⟩) h.length c) (.int .i64 (j : Int)) (by rfl) (by rfl) (.pointer (some ⟨g, j * 2, none⟩)) (fun ρ h1 h2 kk w1 (hg : Just R _ w1) hb hf => by go_simp) ?_
  refine fl_op1 22 (by rfl) (by decide) (wanted_none (by rfl)) (by rw [hK.out]; rfl) (by rfl) (.tmp 21) (.pointer (some ⟨g, j * 2, none⟩)) (by rfl) (.agg #[.int .i64 (hat h j).1, .int .i64 (hat h j).2]) (fun ρ h1 kk w1 (hg : Just R _ w1) hb hf => by obtain rfl := before_some 0 (by rfl) hb; have hI := hb.1; have q := its_at hI hj; have c0 := q.1; have c1 := q.2.1; go_simp) ?_
  refine fl_mv 23 (by rfl) (by decide) (wanted_none (by rfl)) (by rw [hK.out]; rfl) (by rfl) _ (Or.inl (by rfl)) (.pointer (some ⟨r, 0, none⟩)) (by rfl) ?_
  refine fl_op1 24 (by rfl) (by decide) (wanted_none (by rfl)) (by rw [hK.out]; rfl) (by rfl) (.tmp 23) (.pointer (some ⟨r, 0, none⟩)) (by rfl) (.pointer (some ⟨r, 0, none⟩)) (fun ρ h1 kk w1 (hg : Just R _ w1) hb hf => by go_simp) ?_
  refine fl_op1 25 (by rfl) (by decide) (wanted_none (by rfl)) (by rw [hK.out]; rfl) (by rfl) (.tmp 24) (.pointer (some ⟨r, 0, none⟩)) (by rfl) (.pointer (some ⟨r, 0, none⟩)) (fun ρ h1 kk w1 (hg : Just R _ w1) hb hf => by go_simp) ?_
  refine fl_op1 26 (by rfl) (by decide) (wanted_none (by rfl)) (by rw [hK.out]; rfl) (by rfl) (.tmp 25) (.pointer (some ⟨r, 0, none⟩)) (by rfl) (.slice (some ⟨g, 0, none⟩) h.length c) (fun ρ h1 kk w1 (hg : Just R _ w1) hb hf => by have c0 := (hg.blk hB hrR).cell 0; go_simp) ?_
  refine fl_mv 27 (by rfl) (by decide) (wanted_none (by rfl)) (by rw [hK.out]; rfl) (by rfl) _ (Or.inl (by rfl)) (.int .i64 (i : Int)) (by rfl) ?_
  refine fl_op2 28 (by rfl) (by decide) (wanted_none (by rfl)) (by rw [hK.out]; rfl) (by rfl) (.tmp 26) (.tmp 27) (.slice (some ⟨g, 0, none⟩) h.length c) (.int .i64 (i : Int)) (by rfl) (by rfl) (.pointer (some ⟨g, i * 2, none⟩)) (fun ρ h1 h2 kk w1 (hg : Just R _ w1) hb hf => by go_simp) ?_
  refine fl_op1 29 (by rfl) (by decide) (wanted_none (by rfl)) (by rw [hK.out]; rfl) (by rfl) (.tmp 28) (.pointer (some ⟨g, i * 2, none⟩)) (by rfl) (.agg #[.int .i64 (hat h i).1, .int .i64 (hat h i).2]) (fun ρ h1 kk w1 (hg : Just R _ w1) hb hf => by obtain rfl := before_some 0 (by rfl) hb; have hI := hb.1; have q := its_at hI hi; have c0 := q.1; have c1 := q.2.1; go_simp) ?_
  refine fl_op2 30 (by rfl) (by decide) (wanted_none (by rfl)) (by rw [hK.out]; rfl) (by rfl) (.tmp 9) (.tmp 10) (.slice (some ⟨g, 0, none⟩) h.length c) (.int .i64 (i : Int)) (by rfl) (by rfl) (.pointer (some ⟨g, i * 2, none⟩)) (fun ρ h1 h2 kk w1 (hg : Just R _ w1) hb hf => by go_simp) ?_
  refine fl_do2 (by rfl) (wanted_none (by rfl)) (undef) (by rw [hK.out]; rfl) (.tmp 30) (.tmp 22) (.pointer (some ⟨g, i * 2, none⟩)) (.agg #[.int .i64 (hat h j).1, .int .i64 (hat h j).2]) (by rfl) (by rfl) (fun ρ h1 h2 kk w1 (hg : Just R _ w1) hb hf => by obtain rfl := before_some 0 (by rfl) hb; have hI := hb.1; refine upon_turn 0 (by rfl) ?_; exact item_store hI hi h1 h2 rfl) ?_
  refine fl_op2 31 (by rfl) (by decide) (wanted_none (by rfl)) (by rw [hK.out]; rfl) (by rfl) (.tmp 14) (.tmp 15) (.slice (some ⟨g, 0, none⟩) h.length c) (.int .i64 (j : Int)) (by rfl) (by rfl) (.pointer (some ⟨g, j * 2, none⟩)) (fun ρ h1 h2 kk w1 (hg : Just R _ w1) hb hf => by go_simp) ?_
  refine fl_do2 (by rfl) (wanted_none (by rfl)) (undef) (by rw [hK.out]; rfl) (.tmp 31) (.tmp 29) (.pointer (some ⟨g, j * 2, none⟩)) (.agg #[.int .i64 (hat h i).1, .int .i64 (hat h i).2]) (by rfl) (by rfl) (fun ρ h1 h2 kk w1 (hg : Just R _ w1) hb hf => by obtain rfl := before_some 1 (by rfl) hb; have hI := hb.1; refine upon_turn 1 (by rfl) ?_; exact item_store hI (by rw [List.length_set]; exact hj) h1 h2 rfl) ?_
  refine fl_end (fun _ _ w1 (hg : Just R _ w1) hend hfacts => hT _ _ ?_)
  clear hops hA' hK hT
  simp only [putsL, Act.put, List.setIfInBounds_toArray, List.set_cons_zero, List.set_cons_succ]
  have hI2 : Its w1 R (.slice (some ⟨g, 0, none⟩) h.length c) (swapL h i j) := hend
  clear hend hfacts hI
  have hB := hg.blk hB hrR
  have hP1 := hP.just hg (fun hh => (hR m hh).2.2 rfl)
  refine reg_end ?_
  go_wp2_with fail
  have hj1 := hg
  clear hg hP
  have hrm : ¬ r = m := fun hh => hmr hh.symm
  have hRm : ∀ b, R b → ¬ b = m := fun b hb => (hR b hb).2.2
  have hl := swapL_len h i j
  have hi2 : i < (swapL h i j).length := by omega
  have hj2 : j < (swapL h i j).length := by omega
  have hG2 := hG.perm (swap_perm hi hj)
  have hIdx := idx_swap hf hG hi hj
  have hk1w := hG2.at_ hi2
  have hk2w := hG2.at_ hj2
  have hx1 : (hat (swapL h i j) i).2 = (hat h j).2 := by
    rw [hat_swap hi hj]
    by_cases hij : i = j
    · rw [if_pos hij, hij]
    · rw [if_neg hij, if_pos rfl]
  have hx2 : (hat (swapL h i j) j).2 = (hat h i).2 := by rw [hat_swap hi hj, if_pos rfl]
  have hv1 := hf.at_ hj
  have hv2 := hf.at_ hi
  rw [← hx1] at hv1
  rw [← hx2] at hv2
  obtain ⟨k1, hk1⟩ : ∃ k1, (hat (swapL h i j) i).2 = k1 := ⟨_, rfl⟩
  obtain ⟨k2, hk2⟩ : ∃ k2, (hat (swapL h i j) j).2 = k2 := ⟨_, rfl⟩
  rw [hk1] at hv1 hIdx hk1w
  rw [hk2] at hv2 hIdx hk2w
  have hq1 := wf_of hk1w.2
  have hq2 := wf_of hk2w.2
  have hwi : (Lit.int .i64 (i : Int)).wf = true := wf64 (by omega) (by omega)
  have hwj : (Lit.int .i64 (j : Int)).wf = true := wf64 (by omega) (by omega)
  have hn : h.length < maxLen := by unfold maxLen; omega
  obtain ⟨v2, hv2⟩ : ∃ v2, putF f k1 (i : Int) k2 = some v2 := by unfold putF; split; exact ⟨_, rfl⟩; exact ⟨_, hv2⟩
  obtain ⟨v1, hv1⟩ : ∃ v1, f k1 = some v1 := ⟨_, hv1⟩
  obtain ⟨s1, hE1⟩ := hP1.ent intMap k1 v1 hq1 hv1
  obtain ⟨s2, hE2⟩ : ∃ s, EntIs w1 m (.int .i64 k2) s := hP1.ent intMap k2 (i : Int) hq2 (by rename_i hv2'; exact hv2')
  clear hx1 hx2
  refine wp_region_reg rfl ?_
  refine reg_flow (EntSt m h.length f k1 k2 i j s1 s2) entSt_ok 0 32 62 [(28, .inl (undef)), (31, .inl (undef))] rfl (by kernel_rfl) (by kernel_rfl) (by kernel_rfl) ?_ (Just.of_grow (Grow.refl _).drew) ⟨hP1, hE1, hE2⟩ ?_
  · intro x hx φ he
    simp only [List.mem_cons, List.not_mem_nil, or_false] at hx
    rcases hx with rfl | rfl <;> cases he
  intro ops' A' K' T hops hA' hK hT
  refine fl_mv 32 (by rfl) (by decide) (wanted_none (by rfl)) (by rw [hK.out]; rfl) (by rfl) _ (Or.inl (by rfl)) (.pointer (some ⟨r, 0, none⟩)) (by rfl) ?_
  refine fl_op1 33 (by rfl) (by decide) (wanted_none (by rfl)) (by rw [hK.out]; rfl) (by rfl) (.tmp 32) (.pointer (some ⟨r, 0, none⟩)) (by rfl) (.pointer (some ⟨r, 0, none⟩)) (fun ρ h1 kk wz (hg : Just (fun b => b = m) _ wz) hb hf => by go_simp) ?_
  refine fl_op1 34 (by rfl) (by decide) (wanted_none (by rfl)) (by rw [hK.out]; rfl) (by rfl) (.tmp 33) (.pointer (some ⟨r, 0, none⟩)) (by rfl) (.pointer (some ⟨r, 1, none⟩)) (fun ρ h1 kk wz (hg : Just (fun b => b = m) _ wz) hb hf => by go_simp) ?_
  refine fl_op1 35 (by rfl) (by decide) (wanted_none (by rfl)) (by rw [hK.out]; rfl) (by rfl) (.tmp 34) (.pointer (some ⟨r, 1, none⟩)) (by rfl) (.map (some m)) (fun ρ h1 kk wz (hg : Just (fun b => b = m) _ wz) hb hf => by have c0 := (hg.blk hB hrm).cell 1; go_simp) ?_
  refine fl_mv 36 (by rfl) (by decide) (wanted_none (by rfl)) (by rw [hK.out]; rfl) (by rfl) _ (Or.inl (by rfl)) (.pointer (some ⟨r, 0, none⟩)) (by rfl) ?_
  refine fl_op1 37 (by rfl) (by decide) (wanted_none (by rfl)) (by rw [hK.out]; rfl) (by rfl) (.tmp 36) (.pointer (some ⟨r, 0, none⟩)) (by rfl) (.pointer (some ⟨r, 0, none⟩)) (fun ρ h1 kk wz (hg : Just (fun b => b = m) _ wz) hb hf => by go_simp) ?_
  refine fl_op1 38 (by rfl) (by decide) (wanted_none (by rfl)) (by rw [hK.out]; rfl) (by rfl) (.tmp 37) (.pointer (some ⟨r, 0, none⟩)) (by rfl) (.pointer (some ⟨r, 0, none⟩)) (fun ρ h1 kk wz (hg : Just (fun b => b = m) _ wz) hb hf => by go_simp) ?_
  refine fl_op1 39 (by rfl) (by decide) (wanted_none (by rfl)) (by rw [hK.out]; rfl) (by rfl) (.tmp 38) (.pointer (some ⟨r, 0, none⟩)) (by rfl) (.slice (some ⟨g, 0, none⟩) h.length c) (fun ρ h1 kk wz (hg : Just (fun b => b = m) _ wz) hb hf => by have c0 := (hg.blk hB hrm).cell 0; go_simp) ?_
  refine fl_mv 40 (by rfl) (by decide) (wanted_none (by rfl)) (by rw [hK.out]; rfl) (by rfl) _ (Or.inl (by rfl)) (.int .i64 (i : Int)) (by rfl) ?_
  refine fl_op2 41 (by rfl) (by decide) (wanted_none (by rfl)) (by rw [hK.out]; rfl) (by rfl) (.tmp 39) (.tmp 40) (.slice (some ⟨g, 0, none⟩) h.length c) (.int .i64 (i : Int)) (by rfl) (by rfl) (.pointer (some ⟨g, i * 2, none⟩)) (fun ρ h1 h2 kk wz (hg : Just (fun b => b = m) _ wz) hb hf => by go_simp) ?_
  refine fl_op1 42 (by rfl) (by decide) (wanted_none (by rfl)) (by rw [hK.out]; rfl) (by rfl) (.tmp 41) (.pointer (some ⟨g, i * 2, none⟩)) (by rfl) (.pointer (some ⟨g, i * 2 + 1, none⟩)) (fun ρ h1 kk wz (hg : Just (fun b => b = m) _ wz) hb hf => by go_simp) ?_
  refine fl_op1 43 (by rfl) (by decide) (wanted_none (by rfl)) (by rw [hK.out]; rfl) (by rfl) (.tmp 42) (.pointer (some ⟨g, i * 2 + 1, none⟩)) (by rfl) (.int .i64 k1) (fun ρ h1 kk wz (hg : Just (fun b => b = m) _ wz) hb hf => by have c1 := (its_at (hI2.just hg hRm) hi2).2.1; rw [hk1] at c1; go_simp) ?_
  refine fl_mv 44 (by rfl) (by decide) (wanted_none (by rfl)) (by rw [hK.out]; rfl) (by rfl) _ (Or.inl (by rfl)) (.pointer (some ⟨r, 0, none⟩)) (by rfl) ?_
  refine fl_op1 45 (by rfl) (by decide) (wanted_none (by rfl)) (by rw [hK.out]; rfl) (by rfl) (.tmp 44) (.pointer (some ⟨r, 0, none⟩)) (by rfl) (.pointer (some ⟨r, 0, none⟩)) (fun ρ h1 kk wz (hg : Just (fun b => b = m) _ wz) hb hf => by go_simp) ?_
  refine fl_op1 46 (by rfl) (by decide) (wanted_none (by rfl)) (by rw [hK.out]; rfl) (by rfl) (.tmp 45) (.pointer (some ⟨r, 0, none⟩)) (by rfl) (.pointer (some ⟨r, 1, none⟩)) (fun ρ h1 kk wz (hg : Just (fun b => b = m) _ wz) hb hf => by go_simp) ?_
  refine fl_op1 47 (by rfl) (by decide) (wanted_none (by rfl)) (by rw [hK.out]; rfl) (by rfl) (.tmp 46) (.pointer (some ⟨r, 1, none⟩)) (by rfl) (.map (some m)) (fun ρ h1 kk wz (hg : Just (fun b => b = m) _ wz) hb hf => by have c0 := (hg.blk hB hrm).cell 1; go_simp) ?_
  refine fl_mv 48 (by rfl) (by decide) (wanted_none (by rfl)) (by rw [hK.out]; rfl) (by rfl) _ (Or.inl (by rfl)) (.pointer (some ⟨r, 0, none⟩)) (by rfl) ?_
  refine fl_op1 49 (by rfl) (by decide) (wanted_none (by rfl)) (by rw [hK.out]; rfl) (by rfl) (.tmp 48) (.pointer (some ⟨r, 0, none⟩)) (by rfl) (.pointer (some ⟨r, 0, none⟩)) (fun ρ h1 kk wz (hg : Just (fun b => b = m) _ wz) hb hf => by go_simp) ?_
  refine fl_op1 50 (by rfl) (by decide) (wanted_none (by rfl)) (by rw [hK.out]; rfl) (by rfl) (.tmp 49) (.pointer (some ⟨r, 0, none⟩)) (by rfl) (.pointer (some ⟨r, 0, none⟩)) (fun ρ h1 kk wz (hg : Just (fun b => b = m) _ wz) hb hf => by go_simp) ?_
  refine fl_op1 51 (by rfl) (by decide) (wanted_none (by rfl)) (by rw [hK.out]; rfl) (by rfl) (.tmp 50) (.pointer (some ⟨r, 0, none⟩)) (by rfl) (.slice (some ⟨g, 0, none⟩) h.length c) (fun ρ h1 kk wz (hg : Just (fun b => b = m) _ wz) hb hf => by have c0 := (hg.blk hB hrm).cell 0; go_simp) ?_
  refine fl_mv 52 (by rfl) (by decide) (wanted_none (by rfl)) (by rw [hK.out]; rfl) (by rfl) _ (Or.inl (by rfl)) (.int .i64 (j : Int)) (by rfl) ?_
  refine fl_op2 53 (by rfl) (by decide) (wanted_none (by rfl)) (by rw [hK.out]; rfl) (by rfl) (.tmp 51) (.tmp 52) (.slice (some ⟨g, 0, none⟩) h.length c) (.int .i64 (j : Int)) (by rfl) (by rfl) (.pointer (some ⟨g, j * 2, none⟩)) (fun ρ h1 h2 kk wz (hg : Just (fun b => b = m) _ wz) hb hf => by go_simp) ?_
  refine fl_op1 54 (by rfl) (by decide) (wanted_none (by rfl)) (by rw [hK.out]; rfl) (by rfl) (.tmp 53) (.pointer (some ⟨g, j * 2, none⟩)) (by rfl) (.pointer (some ⟨g, j * 2 + 1, none⟩)) (fun ρ h1 kk wz (hg : Just (fun b => b = m) _ wz) hb hf => by go_simp) ?_
  refine fl_op1 55 (by rfl) (by decide) (wanted_none (by rfl)) (by rw [hK.out]; rfl) (by rfl) (.tmp 54) (.pointer (some ⟨g, j * 2 + 1, none⟩)) (by rfl) (.int .i64 k2) (fun ρ h1 kk wz (hg : Just (fun b => b = m) _ wz) hb hf => by have c1 := (its_at (hI2.just hg hRm) hj2).2.1; rw [hk2] at c1; go_simp) ?_
  refine fl_mv 56 (by rfl) (by decide) (wanted_none (by rfl)) (by rw [hK.out]; rfl) (by rfl) _ (Or.inl (by rfl)) (.int .i64 (i : Int)) (by rfl) ?_
  refine fl_mv 57 (by rfl) (by decide) (wanted_none (by rfl)) (by rw [hK.out]; rfl) (by rfl) _ (Or.inl (by rfl)) (.int .i64 (j : Int)) (by rfl) ?_
  refine fl_op2 58 (by rfl) (by decide) (wanted_none (by rfl)) (by rw [hK.out]; rfl) (by rfl) (.tmp 35) (.tmp 43) (.map (some m)) (.int .i64 k1) (by rfl) (by rfl) (.tuple #[.int .i64 v1, .int .i64 (s1 : Int)]) (fun ρ h1 h2 kk wz (hg : Just (fun b => b = m) _ wz) hb hf => by obtain rfl := before_some 0 (by rfl) hb; have hI := hb.1; have q := (hI.1.entry intMap k1 v1 hq1 hv1 hI.2.1).1; go_simp) ?_
  refine fl_op1 59 (by rfl) (by decide) (wanted_none (by rfl)) (by rw [hK.out]; rfl) (by rfl) (.tmp 58) (.tuple #[.int .i64 v1, .int .i64 (s1 : Int)]) (by rfl) (.int .i64 (s1 : Int)) (fun ρ h1 kk wz (hg : Just (fun b => b = m) _ wz) hb hf => by go_simp) ?_
  refine fl_do (by rfl) (wanted_none (by rfl)) (undef) (by rw [hK.out]; rfl) (fun kk wz (hg : Just (fun b => b = m) _ wz) hb hf => by obtain rfl := before_some 0 (by rfl) hb; have hI := hb.1; refine upon_turn 0 (by rfl) ?_; exact ent_store hI.1 hI.2.1 hI.2.2 hq1 hwi hn hv1 (by rfl) (by rfl) (by rfl) rfl) ?_
  refine fl_op2 60 (by rfl) (by decide) (wanted_none (by rfl)) (by rw [hK.out]; rfl) (by rfl) (.tmp 47) (.tmp 55) (.map (some m)) (.int .i64 k2) (by rfl) (by rfl) (.tuple #[.int .i64 v2, .int .i64 (s2 : Int)]) (fun ρ h1 h2 kk wz (hg : Just (fun b => b = m) _ wz) hb hf => by obtain rfl := before_some 1 (by rfl) hb; have hI := hb.1; have q := (hI.1.entry intMap k2 v2 hq2 hv2 hI.2).1; go_simp) ?_
  refine fl_op1 61 (by rfl) (by decide) (wanted_none (by rfl)) (by rw [hK.out]; rfl) (by rfl) (.tmp 60) (.tuple #[.int .i64 v2, .int .i64 (s2 : Int)]) (by rfl) (.int .i64 (s2 : Int)) (fun ρ h1 kk wz (hg : Just (fun b => b = m) _ wz) hb hf => by go_simp) ?_
  refine fl_do (by rfl) (wanted_none (by rfl)) (undef) (by rw [hK.out]; rfl) (fun kk wz (hg : Just (fun b => b = m) _ wz) hb hf => by obtain rfl := before_some 1 (by rfl) hb; have hI := hb.1; refine upon_turn 1 (by rfl) ?_; exact (upon_imp (ent_store hI.1 hI.2 hI.2 hq2 hwj hn hv2 (by rfl) (by rfl) (by rfl) rfl) fun _ _ hh => ⟨hh.1, hh.2.1, hh.2.2.1⟩)) ?_
  refine fl_end (fun _ _ wz (hg : Just (fun b => b = m) _ wz) hend hfacts => hT _ _ ?_)
  clear hops hA' hK hT
  simp only [putsL, Act.put, List.setIfInBounds_toArray, List.set_cons_zero, List.set_cons_succ]
  have hP3 : PM wz m h.length (putF (putF f k1 (i : Int)) k2 (j : Int)) := hend
  clear hend hfacts
  refine reg_end ?_
  go_wp2_with fail
  go_end0
  refine ⟨rfl, ⟨.inl hVr, _, R, m, _, hg.blk hB hrm, ?_, ?_, hIdx, hG2, fun b hb => ⟨.inl (hR b hb).1, (hR b hb).2⟩, .inl hVm, hmr⟩, ?_⟩
  · exact hI2.just hg hRm
  · rw [hl]; exact hP3
  · exact (hj1.imp fun b hb => (hR b hb).1).trans (hg.imp fun b hb => by rw [show b = m from hb]; exact hVm)
end Go.Proofs.Ytjjafpgpnmdjlaa
