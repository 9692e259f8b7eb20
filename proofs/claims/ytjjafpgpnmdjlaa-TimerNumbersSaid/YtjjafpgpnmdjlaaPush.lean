/- rows.Push, rows.Pop. -/
import Derived.Test.YtjjafpgpnmdjlaaSwap
namespace Go.Proofs.Ytjjafpgpnmdjlaa
open Go.RowKit Go.Hop
def IsOne (B : Nat) (a : It) (u : Value) (w : World) : Prop := ∃ g, u = .slice (some ⟨g, 0, none⟩) 1 1 ∧ B ≤ g ∧ Blk w g 36 #[.int .i64 a.1, .int .i64 a.2]
theorem one_made {w : World} {B : Nat} {a : It} {o : Oper} {ρ : Operand → Value} {x : Operand} (ho : o.op = .buildSlice 32 1 #[(0, x)]) (hx : ρ x = .agg #[.int .i64 a.1, .int .i64 a.2]) (hB : B ≤ w.heap.size) :
    flowUpon Try.prog (fun u w' => Grow w w' ∧ IsOne B a u w') ((execOp ρ o).run Try.prog w) := by
  obtain ⟨dst, op, ty, pos, after, guard⟩ := o
  simp only at ho
  subst ho
  refine flowUpon_value (u := .slice (some ⟨w.heap.size, 0, none⟩) 1 1) (w := w.alloc (.cells #[.int .i64 a.1, .int .i64 a.2] 36)) ?_ ⟨(Below.refl _ w).alloc (Nat.le_refl _) _, w.heap.size, rfl, hB, Blk.made w _ _⟩
  go_simp
/-- a row that has grown: in its own blocks, or from B on -/
def IsRow (R : Nat → Prop) (B : Nat) (h : List It) (u : Value) (w : World) : Prop := ∃ R' : Nat → Prop, Its w R' u h ∧ ∀ b, R' b → (R b ∨ B ≤ b) ∧ b < w.heap.size
theorem isRow_lasting (R : Nat → Prop) (B : Nat) (h : List It) : Lasting (IsRow R B h) := fun _ _ _ ⟨R', h1, h2⟩ hg => ⟨R', h1.grow hg, fun b hb => ⟨(h2 b hb).1, Nat.lt_of_lt_of_le (h2 b hb).2 hg.size⟩⟩
def RowSt (R : Nat → Prop) (v : Value) (h : List It) : Stages where
  G := Just R
  T := fun _ => Just R
  I := fun k w => match k with
    | 0 => Its w R v h
    | _ => True
  muts := [7]
  stage := fun q => if q = 7 then some 0 else none
theorem rowSt_ok {R : Nat → Prop} {v : Value} {h : List It} : (RowSt R v h).Ok := by
  refine ⟨fun _ _ _ => Just.trans, fun _ _ h => Just.of_grow h, fun _ _ _ h => h, fun k a b hh hg => ?_⟩
  rcases k with _ | k
  · exact Row.grow hh hg
  · exact trivial
theorem one_lasts {R : Nat → Prop} {v : Value} {h : List It} {B : Nat} {a : It} (hRB : ∀ b, R b → b < B) : Lasts (RowSt R v h) (fun _ u w => IsOne B a u w) := fun k u w w' ⟨g, h1, h2, h3⟩ =>
  ⟨fun hg => ⟨g, h1, h2, h3.grow hg⟩, fun _ (hj : Just R w w') => ⟨g, h1, h2, hj.blk h3 fun hr => by have := hRB g hr; omega⟩⟩
theorem rowonce_lasts {R : Nat → Prop} {v : Value} {h : List It} {φ : Value → World → Prop} (hl : Lasting φ) : Lasts (RowSt R v h) (Once φ) := fun k u w w' hu => by
  rcases k with _ | k
  · exact hu.elim
  · exact ⟨fun hg => hl u w w' hu hg, fun hk => by simp [RowSt] at hk⟩
theorem push_append {w : World} {R : Nat → Prop} {B : Nat} {v u : Value} {h : List It} {a : It} {ρ : Operand → Value} {o : Oper} {x y : Operand} (hI : Its w R v h) (h1 : IsOne B a u w) (hRB : ∀ b, R b → b < B) (hB : B ≤ w.heap.size)
    (hx : ρ x = v) (hy : ρ y = u) (ho : o.op = .call { callee := .builtin .append, args := #[x, y], argTypes := #[32, 32] }) (hl : h.length < 1048576) :
    flowUpon Try.prog (fun u w' => Just R w w' ∧ True ∧ IsRow R B (h ++ [a]) u w') ((execOp ρ o).run Try.prog w) := by
  obtain ⟨g, rfl, _, hblk⟩ := h1
  have hr : Reads w w.heap.size 2 (some ⟨g, 0, none⟩) 1 (itc a) := ⟨rfl, fun _ => ⟨_, rfl, hblk.lt, fun j u hu => by
    rw [Addr.add_lit, Nat.zero_add]
    exact (hblk.cell j).trans (by simpa [itc] using hu)⟩⟩
  refine flow_append_row itemE ho hx hI hy hr (fun u hu => itc_one [a] u (by simpa using hu)) (by omega) fun v' w' hR hj => ⟨hj, trivial, Ext R w w', ?_, fun b hb => ?_⟩
  · unfold Its
    rw [List.length_append, List.flatMap_append, List.flatMap_cons, List.flatMap_nil, List.append_nil]
    exact hR
  · rcases hb with hb | hb
    · exact ⟨.inl hb, by have := hRB b hb; have := hj.size; omega⟩
    · exact ⟨.inr (by omega), hb.2⟩
theorem hat_last (h : List It) (a : It) : hat (h ++ [a]) h.length = a := by
  unfold hat; simp
theorem idx_push {h : List It} {f : Int → Option Int} {a : It} (hf : IdxIs h f) (hk : ∀ q, q < h.length → (hat h q).2 ≠ a.2) : IdxIs (h ++ [a]) (putF f a.2 (h.length : Int)) := by
  intro k p
  unfold putF
  by_cases hka : k = a.2
  · rw [if_pos hka]
    constructor
    · intro he; injection he with he
      exact ⟨h.length, by simp, by rw [hat_last, hka], he.symm⟩
    · rintro ⟨q, hq, he, rfl⟩
      by_cases hql : q < h.length
      · rw [hat_left hql, hka] at he; exact (hk q hql he).elim
      · rw [show q = h.length by simp at hq; omega]
  · rw [if_neg hka, hf k p]
    constructor
    · rintro ⟨q, hq, he, rfl⟩
      exact ⟨q, by simp; omega, by rw [hat_left hq]; exact he, rfl⟩
    · rintro ⟨q, hq, he, rfl⟩
      by_cases hql : q < h.length
      · exact ⟨q, hql, by rw [hat_left hql] at he; exact he, rfl⟩
      · rw [show q = h.length by simp at hq; omega, hat_last] at he
        exact (hka he.symm).elim
theorem good_push {h : List It} {a : It} (hG : Good h) (hk : ∀ q, q < h.length → (hat h q).2 ≠ a.2) (hl : h.length < 1048576) (ha : in64 a.1 ∧ in64 a.2) : Good (h ++ [a]) := by
  refine ⟨?_, fun b hb => ?_, by simp; omega⟩
  · rw [List.map_append, List.nodup_append]
    refine ⟨hG.1, by simp, fun x hx y hy => ?_⟩
    obtain ⟨b, hb, rfl⟩ := List.mem_map.1 hx
    obtain ⟨q, hq, rfl⟩ := List.mem_iff_getElem.1 hb
    have := hk q hq
    rw [hat_get hq] at this
    simp at hy
    rw [hy]; exact this
  · rcases List.mem_append.1 hb with hb | hb
    · exact hG.2.1 b hb
    · rw [List.mem_singleton.1 hb]; exact ha
theorem idx_none {h : List It} {f : Int → Option Int} {k : Int} (hf : IdxIs h f) (hk : ∀ q, q < h.length → (hat h q).2 ≠ k) : f k = none := by
  cases hc : f k with
  | none => rfl
  | some p =>
    obtain ⟨q, hq, he, _⟩ := (hf k p).1 hc
    exact (hk q hq he).elim
set_option maxRecDepth 20000 in
theorem rPush_any (w : World) (r : Nat) (h : List It) (a : It) (hk : ∀ q, q < h.length → (hat h q).2 ≠ a.2) (hl : h.length < 1048576) (ha : in64 a.1 ∧ in64 a.2) :
    Turns Try.prog 43 #[.pointer (some ⟨r, 0, none⟩), .iface 36 (.agg #[.int .i64 a.1, .int .i64 a.2])] (fun e => e = .returned (.tuple #[])) (RowsAt r h) (RowsAt r (h ++ [a])) w := by
  intro V hQ hV
  obtain ⟨hVr, v, R, m, f, hB0, hI0, hP0, hf, hG, hR, hVm, hmr⟩ := hQ
  obtain ⟨A, c, rfl, _, hnc, hcm⟩ := hI0.in_
  have hrR : ¬ R r := fun hh => (hR r hh).2.1 rfl
  have hta : ∀ (w : World), (Instr.typeAssert (.iface 36 (.agg #[.int .i64 a.1, .int .i64 a.2])) 20 36 false).run Try.prog w = .ok (.agg #[.int .i64 a.1, .int .i64 a.2]) w := fun w => by kernel_rfl
  have hga : Grow w (w.alloc (.cells #[.int .i64 a.1, .int .i64 a.2] 36)) := (Below.refl _ _).alloc (Nat.le_refl _) _
  have hBx := Blk.made w 36 #[.int .i64 a.1, .int .i64 a.2]
  obtain ⟨x, HX⟩ : ∃ x : Nat, Hid (x = w.heap.size) := ⟨_, rfl⟩
  obtain ⟨wa, HA⟩ : ∃ wa : World, Hid (wa = w.alloc (.cells #[.int .i64 a.1, .int .i64 a.2] 36)) := ⟨_, rfl⟩
  rw [← HX.out, ← HA.out] at hBx
  rw [← HA.out] at hga
  have hsa : wa.heap.size = x + 1 := by rw [HA.out, HX.out]; simp
  have hxw : w.heap.size = x := HX.out.symm
  have hB := hB0.grow hga
  have hP := hP0.grow hga
  have hI := hI0.grow hga
  have hxR : ¬ R x := fun hh => by have := hV x (hR x hh).1; omega
  have hxm : ¬ x = m := fun hh => by have := hV m hVm; omega
  have hrm : ¬ r = m := fun hh => hmr hh.symm
  go_enter Try.func43, Try.ntmps43
  go_wp2_with fail
  rw [← HA.out]
  clear hta
  refine wp_region_flow 11 28 [] rfl rfl (by kernel_rfl) (by kernel_rfl) (by kernel_rfl) ?_ ?_
  · intro x hx φ he
    cases hx
  intro ops' A' K' T hops hA' hK hT
  refine fl_mv 7 (by rfl) (by decide) (wanted_none (by rfl)) (by rw [hK.out]; rfl) (by rfl) _ (Or.inl (by rfl)) (.pointer (some ⟨r, 0, none⟩)) (by rfl) ?_
  refine fl_op1 8 (by rfl) (by decide) (wanted_none (by rfl)) (by rw [hK.out]; rfl) (by rfl) (.tmp 7) (.pointer (some ⟨r, 0, none⟩)) (by rfl) (.pointer (some ⟨r, 0, none⟩)) (fun ρ h1 kk w1 (hg : Grow _ w1) hb hf => by go_simp) ?_
  refine fl_op1 9 (by rfl) (by decide) (wanted_none (by rfl)) (by rw [hK.out]; rfl) (by rfl) (.tmp 8) (.pointer (some ⟨r, 0, none⟩)) (by rfl) (.pointer (some ⟨r, 1, none⟩)) (fun ρ h1 kk w1 (hg : Grow _ w1) hb hf => by go_simp) ?_
  refine fl_op1 10 (by rfl) (by decide) (wanted_none (by rfl)) (by rw [hK.out]; rfl) (by rfl) (.tmp 9) (.pointer (some ⟨r, 1, none⟩)) (by rfl) (.map (some m)) (fun ρ h1 kk w1 (hg : Grow _ w1) hb hf => by have c0 := (hB.grow hg).cell 1; go_simp) ?_
  refine fl_op1 11 (by rfl) (by decide) (wanted_none (by rfl)) (by rw [hK.out]; rfl) (by rfl) (.tmp 4) (.pointer (some ⟨x, 0, none⟩)) (by rfl) (.pointer (some ⟨x, 1, none⟩)) (fun ρ h1 kk w1 (hg : Grow _ w1) hb hf => by go_simp) ?_
  refine fl_op1 12 (by rfl) (by decide) (wanted_none (by rfl)) (by rw [hK.out]; rfl) (by rfl) (.tmp 11) (.pointer (some ⟨x, 1, none⟩)) (by rfl) (.int .i64 a.2) (fun ρ h1 kk w1 (hg : Grow _ w1) hb hf => by have c0 := (hBx.grow hg).cell 1; go_simp) ?_
  refine fl_mv 13 (by rfl) (by decide) (wanted_none (by rfl)) (by rw [hK.out]; rfl) (by rfl) _ (Or.inl (by rfl)) (.pointer (some ⟨r, 0, none⟩)) (by rfl) ?_
  refine fl_op1 14 (by rfl) (by decide) (wanted_none (by rfl)) (by rw [hK.out]; rfl) (by rfl) (.tmp 13) (.pointer (some ⟨r, 0, none⟩)) (by rfl) (.pointer (some ⟨r, 0, none⟩)) (fun ρ h1 kk w1 (hg : Grow _ w1) hb hf => by go_simp) ?_
  refine fl_op1 15 (by rfl) (by decide) (wanted_none (by rfl)) (by rw [hK.out]; rfl) (by rfl) (.tmp 14) (.pointer (some ⟨r, 0, none⟩)) (by rfl) (.pointer (some ⟨r, 0, none⟩)) (fun ρ h1 kk w1 (hg : Grow _ w1) hb hf => by go_simp) ?_
  refine fl_op1 16 (by rfl) (by decide) (wanted_none (by rfl)) (by rw [hK.out]; rfl) (by rfl) (.tmp 15) (.pointer (some ⟨r, 0, none⟩)) (by rfl) (.slice A h.length c) (fun ρ h1 kk w1 (hg : Grow _ w1) hb hf => by have c0 := (hB.grow hg).cell 0; go_simp) ?_
  refine fl_op1 17 (by rfl) (by decide) (wanted_none (by rfl)) (by rw [hK.out]; rfl) (by rfl) (.tmp 16) (.slice A h.length c) (by rfl) (.int .i64 (h.length : Int)) (fun ρ h1 kk w1 (hg : Grow _ w1) hb hf => by go_simp) ?_
  refine fl_end (fun _ _ w1 (hg : Grow _ w1) _ hfacts => hT _ _ ?_)
  clear hops hA' hK hT
  simp only [putsL, Act.put, List.setIfInBounds_toArray, List.set_cons_zero, List.set_cons_succ, List.drop_succ_cons, List.drop_zero]
  obtain ⟨w2, hrun, hP2, hj2⟩ := (hP.grow hg).put intMap a.2 (h.length : Int) (wf_of ha.2) (wf64 (by omega) (by omega)) (by unfold maxLen; omega)
  rw [idx_none hf hk, Option.isSome_none, if_neg (by simp)] at hP2
  have hB2 := hj2.blk (hB.grow hg) hrm
  have hBx2 := hj2.blk (hBx.grow hg) hxm
  have hI2 := (hI.grow hg).just hj2 fun b hb => (hR b hb).2.2
  have hj02 : Just V w w2 := (Just.of_grow (hga.trans hg)).trans (hj2.imp fun b hb => by rw [show b = m from hb]; exact hVm)
  have hs2 := hj2.size
  have hs1 := hg.size
  clear hB hP hI hBx hfacts
  go_wp2_with fail
  clear hrun hj2 hg
  obtain ⟨B, HB⟩ : ∃ B : Nat, Hid (B = w2.heap.size) := ⟨_, rfl⟩
  have hRB : ∀ b, R b → b < B := fun b hb => by have := hV b (hR b hb).1; rw [HB.out]; omega
  refine wp_region_reg rfl ?_
  refine reg_flow (RowSt R (.slice A h.length c) h) rowSt_ok 0 8 28 [(6, .inr (fun _ u w => IsOne B a u w)), (7, .inr (Once (fun u w => IsRow R B (h ++ [a]) u w)))] rfl (by kernel_rfl) (by kernel_rfl) (by kernel_rfl) ?_ (Just.of_grow (Grow.refl _).drew) hI2 ?_
  · intro x hx φ he
    simp only [List.mem_cons, List.not_mem_nil, or_false] at hx
    rcases hx with rfl | rfl <;> cases he
    all_goals first | exact lasts_quiet (lasting_bytes _) | exact one_lasts hRB | exact rowonce_lasts (isRow_lasting _ _ _)
  intro ops' A' K' T hops hA' hK hT
  refine fl_mv 18 (by rfl) (by decide) (wanted_none (by rfl)) (by rw [hK.out]; rfl) (by rfl) _ (Or.inl (by rfl)) (.pointer (some ⟨r, 0, none⟩)) (by rfl) ?_
  refine fl_mv 19 (by rfl) (by decide) (wanted_none (by rfl)) (by rw [hK.out]; rfl) (by rfl) _ (Or.inl (by rfl)) (.pointer (some ⟨r, 0, none⟩)) (by rfl) ?_
  refine fl_op1 20 (by rfl) (by decide) (wanted_none (by rfl)) (by rw [hK.out]; rfl) (by rfl) (.tmp 19) (.pointer (some ⟨r, 0, none⟩)) (by rfl) (.pointer (some ⟨r, 0, none⟩)) (fun ρ h1 kk w3 (hg : Just R _ w3) hb hf => by go_simp) ?_
  refine fl_op1 21 (by rfl) (by decide) (wanted_none (by rfl)) (by rw [hK.out]; rfl) (by rfl) (.tmp 20) (.pointer (some ⟨r, 0, none⟩)) (by rfl) (.pointer (some ⟨r, 0, none⟩)) (fun ρ h1 kk w3 (hg : Just R _ w3) hb hf => by go_simp) ?_
  refine fl_op1 22 (by rfl) (by decide) (wanted_none (by rfl)) (by rw [hK.out]; rfl) (by rfl) (.tmp 21) (.pointer (some ⟨r, 0, none⟩)) (by rfl) (.slice A h.length c) (fun ρ h1 kk w3 (hg : Just R _ w3) hb hf => by have c0 := (hg.blk hB2 hrR).cell 0; go_simp) ?_
  refine fl_op1 23 (by rfl) (by decide) (wanted_none (by rfl)) (by rw [hK.out]; rfl) (by rfl) (.tmp 4) (.pointer (some ⟨x, 0, none⟩)) (by rfl) (.agg #[.int .i64 a.1, .int .i64 a.2]) (fun ρ h1 kk w3 (hg : Just R _ w3) hb hf => by have q := hg.blk hBx2 hxR; have c0 := q.cell 0; have c1 := q.cell 1; go_simp) ?_
  refine fl_any1 24 (by rfl) (by decide) (wanted_none (by rfl)) (fun _ u w => IsOne B a u w) (by rw [hK.out]; rfl) (.tmp 23) (.agg #[.int .i64 a.1, .int .i64 a.2]) (by rfl) (fun ρ h1 kk w3 (hg : Just R _ w3) hb hf => by refine upon_behindAny (φ := fun _ u w => IsOne B a u w) (by rfl) ?_; exact one_made rfl h1 (by rw [HB.out]; exact hg.size)) (fun v24 => ?_)
  refine fl_any2 25 (by rfl) (by decide) (wanted_none (by rfl)) (Once (fun u w => IsRow R B (h ++ [a]) u w)) (by rw [hK.out]; rfl) (.tmp 22) (.tmp 24) (.slice A h.length c) (v24) (by rfl) (by rfl) (fun ρ h1 h2 kk w3 (hg : Just R _ w3) hb hf => by obtain rfl := before_some 0 (by rfl) hb; have hI := hb.1; refine upon_turnAny (φ := Once (fun u w => IsRow R B (h ++ [a]) u w)) 0 (by rfl) ?_; exact push_append hI (facts_take hf (by rw [hA'.out]; kernel_rfl)) hRB (by rw [HB.out]; exact hg.size) h1 h2 rfl hl) (fun v25 => ?_)
  refine fl_end (fun _ _ w3 (hg : Just R _ w3) hend hfacts => hT _ _ ?_)
  clear hops hA' hK hT
  simp only [putsL, Act.put, List.setIfInBounds_toArray, List.set_cons_zero, List.set_cons_succ]
  obtain ⟨R', hI3, hR3⟩ : IsRow R B (h ++ [a]) v25 w3 := hfacts.1
  obtain ⟨A3, c3, rfl, _, _, _⟩ := hI3.in_
  have hl1 : (h ++ [a]).length = h.length + 1 := by simp
  rw [hl1] at hI3
  clear hend hfacts
  have hB3 := hg.blk hB2 hrR
  have hP3 := hP2.just hg (fun hh => (hR m hh).2.2 rfl)
  have f0 := hB3.frozen 0
  have c0 := hB3.cell 0
  refine reg_line 8 11 (by kernel_rfl) (by kernel_rfl) ?_
  simp only [List.take_succ_cons, List.take_zero, List.drop_succ_cons, List.drop_zero]
  go_wp2_with fail
  refine reg_end ?_
  go_wp2_with fail
  go_end0
  have hjr := just_at w3 r 0 (.slice A3 (h.length + 1) c3)
  have hRr : ∀ b, R' b → ¬ b = r := fun b hb hh => by
    rcases (hR3 b hb).1 with h1 | h1
    · exact (hR b h1).2.1 hh
    · have := hV r hVr; have := HB.out; omega
  refine ⟨rfl, ⟨.inl hVr, _, R', m, _, hB3.put 0 (.slice A3 (h.length + 1) c3), hI3.just hjr hRr, ?_, idx_push hf hk, good_push hG hk hl ha, fun b hb => ⟨?_, hRr b hb, fun hh => ?_⟩, .inl hVm, hmr⟩, ?_⟩
  · rw [List.length_append]; exact hP3.just hjr hmr
  · rcases (hR3 b hb).1 with h1 | h1
    · exact .inl (hR b h1).1
    · exact .inr ⟨by have := HB.out; omega, by rw [setCell_size]; exact (hR3 b hb).2⟩
  · rcases (hR3 b hb).1 with h1 | h1
    · exact (hR b h1).2.2 hh
    · have := hV m hVm; have := HB.out; omega
  · exact (hj02.trans (hg.imp fun b hb => (hR b hb).1)).trans (hjr.imp fun b hb => by rw [show b = r from hb]; exact hVr)
/-- a new item -/
def IsNew (B : Nat) (u : Value) (w : World) : Prop := ∃ g, u = .pointer (some ⟨g, 0, none⟩) ∧ B ≤ g ∧ Blk w g 36 #[.int .i64 0, .int .i64 0]
theorem isNew_lasting (B : Nat) : Lasting (IsNew B) := fun _ _ _ ⟨g, h1, h2, h3⟩ hg => ⟨g, h1, h2, h3.grow hg⟩
theorem new_made {w : World} {B : Nat} {o : Oper} {ρ : Operand → Value} (ho : o.op = .alloc 36) (hB : B ≤ w.heap.size) : flowUpon Try.prog (fun u w' => Grow w w' ∧ IsNew B u w') ((execOp ρ o).run Try.prog w) := by
  obtain ⟨dst, op, ty, pos, after, guard⟩ := o
  simp only at ho
  subst ho
  refine flowUpon_value (u := .pointer (some ⟨w.heap.size, 0, none⟩)) (w := w.alloc (.cells #[.int .i64 0, .int .i64 0] 36)) ?_ ⟨(Below.refl _ w).alloc (Nat.le_refl _) _, w.heap.size, rfl, hB, Blk.made w _ _⟩
  go_simp
def delF (f : Int → Option Int) (k : Int) : Int → Option Int := fun y => if y = k then none else f y
theorem idx_pop {h : List It} {f : Int → Option Int} (hf : IdxIs h f) (hG : Good h) (hl : 0 < h.length) : IdxIs (h.take (h.length - 1)) (delF f (hat h (h.length - 1)).2) := by
  intro k p
  unfold delF
  by_cases hka : k = (hat h (h.length - 1)).2
  · rw [if_pos hka]
    constructor
    · intro he; cases he
    · rintro ⟨q, hq, he, rfl⟩
      rw [List.length_take] at hq
      rw [hat_take (by omega), hka] at he
      have := hG.inj (i := q) (j := h.length - 1) (by omega) (by omega) he
      omega
  · rw [if_neg hka, hf k p]
    constructor
    · rintro ⟨q, hq, he, rfl⟩
      have hne : q ≠ h.length - 1 := fun e => hka (by rw [← he, e])
      exact ⟨q, by rw [List.length_take]; omega, by rw [hat_take (by omega)]; exact he, rfl⟩
    · rintro ⟨q, hq, he, rfl⟩
      rw [List.length_take] at hq
      exact ⟨q, by omega, by rw [hat_take (by omega)] at he; exact he, rfl⟩
theorem good_take {h : List It} (hG : Good h) (n : Nat) : Good (h.take n) :=
  ⟨hG.1.sublist ((List.take_sublist n h).map _), fun b hb => hG.2.1 b (List.mem_of_mem_take hb), by rw [List.length_take]; have := hG.2.2; omega⟩
set_option maxRecDepth 20000 in
theorem rPop_any (w : World) (r : Nat) (h : List It) (hl : 0 < h.length) :
    Turns Try.prog 42 #[.pointer (some ⟨r, 0, none⟩)] (fun e => e = .returned (.iface 36 (.agg #[.int .i64 (hat h (h.length - 1)).1, .int .i64 (hat h (h.length - 1)).2]))) (RowsAt r h) (RowsAt r (h.take (h.length - 1))) w := by
  intro V hQ hV
  obtain ⟨hVr, v, R, m, f, hB, hI, hP, hf, hG, hR, hVm, hmr⟩ := hQ
  obtain ⟨g, c, rfl, hRg, _, hnc, hcm⟩ := its_shape hI hl
  have hrR : ¬ R r := fun hh => (hR r hh).2.1 rfl
  have hrm : ¬ r = m := fun hh => hmr hh.symm
  have hn1 : h.length - 1 < h.length := by omega
  have hnt : ((h.length : Int) - 1).toNat = h.length - 1 := by omega
  have hi0 : 0 ≤ (h.length : Int) - 1 := by omega
  have hi1 : (h.length : Int) - 1 < (h.length : Int) := by omega
  have hi2 : (h.length : Int) - 1 ≤ (c : Int) := by omega
  have hw1 : IntKind.i64.wrap ((h.length : Int) - 1) = (h.length : Int) - 1 := by have := hG.2.2; rw [IntKind.wrap_i64]; omega
  obtain ⟨B, HB⟩ : ∃ B : Nat, Hid (B = w.heap.size) := ⟨_, rfl⟩
  go_enter Try.func42, Try.ntmps42
  go_wp2_with fail
  refine wp_region_flow 13 38 [(12, .inr (fun _ u w => IsNew B u w))] rfl rfl (by kernel_rfl) (by kernel_rfl) (by kernel_rfl) ?_ ?_
  · intro x hx φ he
    simp only [List.mem_cons, List.not_mem_nil, or_false] at hx
    rcases hx with rfl <;> cases he
    all_goals first | exact lasts_quiet (lasting_bytes _) | exact lasts_quiet (isNew_lasting _)
  intro ops' A' K' T hops hA' hK hT
  refine fl_mv 4 (by rfl) (by decide) (wanted_none (by rfl)) (by rw [hK.out]; rfl) (by rfl) _ (Or.inl (by rfl)) (.pointer (some ⟨r, 0, none⟩)) (by rfl) ?_
  refine fl_op1 5 (by rfl) (by decide) (wanted_none (by rfl)) (by rw [hK.out]; rfl) (by rfl) (.tmp 4) (.pointer (some ⟨r, 0, none⟩)) (by rfl) (.pointer (some ⟨r, 0, none⟩)) (fun ρ h1 kk w1 (hg : Grow _ w1) hb hf => by go_simp) ?_
  refine fl_op1 6 (by rfl) (by decide) (wanted_none (by rfl)) (by rw [hK.out]; rfl) (by rfl) (.tmp 5) (.pointer (some ⟨r, 0, none⟩)) (by rfl) (.pointer (some ⟨r, 0, none⟩)) (fun ρ h1 kk w1 (hg : Grow _ w1) hb hf => by go_simp) ?_
  refine fl_op1 7 (by rfl) (by decide) (wanted_none (by rfl)) (by rw [hK.out]; rfl) (by rfl) (.tmp 6) (.pointer (some ⟨r, 0, none⟩)) (by rfl) (.slice (some ⟨g, 0, none⟩) h.length c) (fun ρ h1 kk w1 (hg : Grow _ w1) hb hf => by have c0 := (hB.grow hg).cell 0; go_simp) ?_
  refine fl_mv 8 (by rfl) (by decide) (wanted_none (by rfl)) (by rw [hK.out]; rfl) (by rfl) _ (Or.inl (by rfl)) (.pointer (some ⟨r, 0, none⟩)) (by rfl) ?_
  refine fl_op1 9 (by rfl) (by decide) (wanted_none (by rfl)) (by rw [hK.out]; rfl) (by rfl) (.tmp 8) (.pointer (some ⟨r, 0, none⟩)) (by rfl) (.pointer (some ⟨r, 0, none⟩)) (fun ρ h1 kk w1 (hg : Grow _ w1) hb hf => by go_simp) ?_
  refine fl_op1 10 (by rfl) (by decide) (wanted_none (by rfl)) (by rw [hK.out]; rfl) (by rfl) (.tmp 9) (.pointer (some ⟨r, 0, none⟩)) (by rfl) (.pointer (some ⟨r, 0, none⟩)) (fun ρ h1 kk w1 (hg : Grow _ w1) hb hf => by go_simp) ?_
  refine fl_op1 11 (by rfl) (by decide) (wanted_none (by rfl)) (by rw [hK.out]; rfl) (by rfl) (.tmp 10) (.pointer (some ⟨r, 0, none⟩)) (by rfl) (.slice (some ⟨g, 0, none⟩) h.length c) (fun ρ h1 kk w1 (hg : Grow _ w1) hb hf => by have c0 := (hB.grow hg).cell 0; go_simp) ?_
  refine fl_op1 12 (by rfl) (by decide) (wanted_none (by rfl)) (by rw [hK.out]; rfl) (by rfl) (.tmp 11) (.slice (some ⟨g, 0, none⟩) h.length c) (by rfl) (.int .i64 (h.length : Int)) (fun ρ h1 kk w1 (hg : Grow _ w1) hb hf => by go_simp) ?_
  refine fl_op2 13 (by rfl) (by decide) (wanted_none (by rfl)) (by rw [hK.out]; rfl) (by rfl) (.tmp 12) (.const (.int .i64 1)) (.int .i64 (h.length : Int)) (.int .i64 1) (by rfl) (by rfl) (.int .i64 ((h.length : Int) - 1)) (fun ρ h1 h2 kk w1 (hg : Grow _ w1) hb hf => by go_simp) ?_
  refine fl_op2 14 (by rfl) (by decide) (wanted_none (by rfl)) (by rw [hK.out]; rfl) (by rfl) (.tmp 7) (.tmp 13) (.slice (some ⟨g, 0, none⟩) h.length c) (.int .i64 ((h.length : Int) - 1)) (by rfl) (by rfl) (.pointer (some ⟨g, (h.length - 1) * 2, none⟩)) (fun ρ h1 h2 kk w1 (hg : Grow _ w1) hb hf => by go_simp; intro hlt; omega) ?_
  refine fl_op1 15 (by rfl) (by decide) (wanted_none (by rfl)) (by rw [hK.out]; rfl) (by rfl) (.tmp 14) (.pointer (some ⟨g, (h.length - 1) * 2, none⟩)) (by rfl) (.agg #[.int .i64 (hat h (h.length - 1)).1, .int .i64 (hat h (h.length - 1)).2]) (fun ρ h1 kk w1 (hg : Grow _ w1) hb hf => by have q := its_at (hI.grow hg) hn1; have c0 := q.1; have c1 := q.2.1; go_simp) ?_
  refine fl_any 3 (by rfl) (by decide) (wanted_none (by rfl)) (fun _ u w => IsNew B u w) (by rw [hK.out]; rfl) (fun kk w1 (hg : Grow _ w1) hb hf => by refine upon_behindAny (φ := fun _ u w => IsNew B u w) (by rfl) ?_; exact new_made rfl (by rw [HB.out]; exact hg.size)) (fun v3 => ?_)
  refine fl_end (fun _ _ w1 (hg : Grow _ w1) _ hfacts => hT _ _ ?_)
  clear hops hA' hK hT
  simp only [putsL, Act.put, List.setIfInBounds_toArray, List.set_cons_zero, List.set_cons_succ, List.drop_succ_cons, List.drop_zero]
  obtain ⟨x, hv3, hxB, hBx⟩ : IsNew B v3 w1 := hfacts.1
  subst hv3
  have hg1 := hg
  have hB1 := hB.grow hg
  have hP1 := hP.grow hg
  have hI1 := hI.grow hg
  have hxw : w.heap.size ≤ x := by rw [← HB.out]; exact hxB
  have hxR : ¬ R x := fun hh => by have := hV x (hR x hh).1; omega
  have hxm : ¬ x = m := fun hh => by have := hV m hVm; omega
  have hxr : ¬ x = r := fun hh => by have := hV r hVr; omega
  have cx0 := hBx.cell 0
  have cx1 := hBx.cell 1
  have fx0 := hBx.frozen 0
  have fx1 := hBx.frozen 1
  clear hfacts hg
  go_wp2_with fail
  clear cx0 cx1 fx0 fx1
  obtain ⟨la, HLA⟩ : ∃ la : It, Hid (la = hat h (h.length - 1)) := ⟨_, rfl⟩
  rw [← HLA.out]
  have hjx : Just (fun b => b = x) w1 ((w1.setCell ⟨x, 0, none⟩ (.int .i64 la.1)).setCell ⟨x, 1, none⟩ (.int .i64 la.2)) := ((Just.of_grow (Grow.refl w1)).put (V := fun b => b = x) rfl 0 _).put rfl 1 _
  have hBx2 := (hBx.put 0 (.int .i64 la.1)).put 1 (.int .i64 la.2)
  have hB2 := hjx.blk hB1 fun hh => hxr hh.symm
  have hP2 := hP1.just hjx fun hh => hxm hh.symm
  have hI2 := hI1.just hjx fun b hb hh => hxR (hh ▸ hb)
  have hs2 := hjx.size
  generalize (w1.setCell ⟨x, 0, none⟩ (.int .i64 la.1)).setCell ⟨x, 1, none⟩ (.int .i64 la.2) = w2 at hjx hBx2 hB2 hP2 hI2 hs2 ⊢
  refine wp_region_flow 12 38 [] rfl rfl (by kernel_rfl) (by kernel_rfl) (by kernel_rfl) ?_ ?_
  · intro x hx φ he
    cases hx
  intro ops' A' K' T hops hA' hK hT
  refine fl_mv 16 (by rfl) (by decide) (wanted_none (by rfl)) (by rw [hK.out]; rfl) (by rfl) _ (Or.inl (by rfl)) (.pointer (some ⟨r, 0, none⟩)) (by rfl) ?_
  refine fl_mv 17 (by rfl) (by decide) (wanted_none (by rfl)) (by rw [hK.out]; rfl) (by rfl) _ (Or.inl (by rfl)) (.pointer (some ⟨r, 0, none⟩)) (by rfl) ?_
  refine fl_op1 18 (by rfl) (by decide) (wanted_none (by rfl)) (by rw [hK.out]; rfl) (by rfl) (.tmp 17) (.pointer (some ⟨r, 0, none⟩)) (by rfl) (.pointer (some ⟨r, 0, none⟩)) (fun ρ h1 kk w3 (hg : Grow _ w3) hb hf => by go_simp) ?_
  refine fl_op1 19 (by rfl) (by decide) (wanted_none (by rfl)) (by rw [hK.out]; rfl) (by rfl) (.tmp 18) (.pointer (some ⟨r, 0, none⟩)) (by rfl) (.pointer (some ⟨r, 0, none⟩)) (fun ρ h1 kk w3 (hg : Grow _ w3) hb hf => by go_simp) ?_
  refine fl_op1 20 (by rfl) (by decide) (wanted_none (by rfl)) (by rw [hK.out]; rfl) (by rfl) (.tmp 19) (.pointer (some ⟨r, 0, none⟩)) (by rfl) (.slice (some ⟨g, 0, none⟩) h.length c) (fun ρ h1 kk w3 (hg : Grow _ w3) hb hf => by have c0 := (hB2.grow hg).cell 0; go_simp) ?_
  refine fl_mv 21 (by rfl) (by decide) (wanted_none (by rfl)) (by rw [hK.out]; rfl) (by rfl) _ (Or.inl (by rfl)) (.pointer (some ⟨r, 0, none⟩)) (by rfl) ?_
  refine fl_op1 22 (by rfl) (by decide) (wanted_none (by rfl)) (by rw [hK.out]; rfl) (by rfl) (.tmp 21) (.pointer (some ⟨r, 0, none⟩)) (by rfl) (.pointer (some ⟨r, 0, none⟩)) (fun ρ h1 kk w3 (hg : Grow _ w3) hb hf => by go_simp) ?_
  refine fl_op1 23 (by rfl) (by decide) (wanted_none (by rfl)) (by rw [hK.out]; rfl) (by rfl) (.tmp 22) (.pointer (some ⟨r, 0, none⟩)) (by rfl) (.pointer (some ⟨r, 0, none⟩)) (fun ρ h1 kk w3 (hg : Grow _ w3) hb hf => by go_simp) ?_
  refine fl_op1 24 (by rfl) (by decide) (wanted_none (by rfl)) (by rw [hK.out]; rfl) (by rfl) (.tmp 23) (.pointer (some ⟨r, 0, none⟩)) (by rfl) (.slice (some ⟨g, 0, none⟩) h.length c) (fun ρ h1 kk w3 (hg : Grow _ w3) hb hf => by have c0 := (hB2.grow hg).cell 0; go_simp) ?_
  refine fl_op1 25 (by rfl) (by decide) (wanted_none (by rfl)) (by rw [hK.out]; rfl) (by rfl) (.tmp 24) (.slice (some ⟨g, 0, none⟩) h.length c) (by rfl) (.int .i64 (h.length : Int)) (fun ρ h1 kk w3 (hg : Grow _ w3) hb hf => by go_simp) ?_
  refine fl_op2 26 (by rfl) (by decide) (wanted_none (by rfl)) (by rw [hK.out]; rfl) (by rfl) (.tmp 25) (.const (.int .i64 1)) (.int .i64 (h.length : Int)) (.int .i64 1) (by rfl) (by rfl) (.int .i64 ((h.length : Int) - 1)) (fun ρ h1 h2 kk w3 (hg : Grow _ w3) hb hf => by go_simp) ?_
  refine fl_op2 27 (by rfl) (by decide) (wanted_none (by rfl)) (by rw [hK.out]; rfl) (by rfl) (.tmp 20) (.tmp 26) (.slice (some ⟨g, 0, none⟩) h.length c) (.int .i64 ((h.length : Int) - 1)) (by rfl) (by rfl) (.slice (some ⟨g, 0, none⟩) (h.length - 1) c) (fun ρ h1 h2 kk w3 (hg : Grow _ w3) hb hf => by go_simp; intro hlt; omega) ?_
  refine fl_end (fun _ _ w3 (hg : Grow _ w3) _ hfacts => hT _ _ ?_)
  clear hops hA' hK hT
  simp only [putsL, Act.put, List.setIfInBounds_toArray, List.set_cons_zero, List.set_cons_succ, List.drop_succ_cons, List.drop_zero]
  have hg3 := hg
  have hB3' := hB2.grow hg
  have hP3' := hP2.grow hg
  have hI3' := hI2.grow hg
  have hBx3' := hBx2.grow hg
  have f0 := hB3'.frozen 0
  have c0 := hB3'.cell 0
  clear hg hfacts
  go_wp2_with fail
  have hjr := just_at w3 r 0 (.slice (some ⟨g, 0, none⟩) (h.length - 1) c)
  have hB3 := hB3'.put 0 (.slice (some ⟨g, 0, none⟩) (h.length - 1) c)
  have hP3 := hP3'.just hjr hmr
  have hI3 := hI3'.just hjr fun b hb hh => hrR (hh ▸ hb)
  have hBx3 := hjr.blk hBx3' hxr
  clear f0 c0
  generalize w3.setCell ⟨r, 0, none⟩ (.slice (some ⟨g, 0, none⟩) (h.length - 1) c) = w4 at hjr hB3 hP3 hI3 hBx3 ⊢
  refine wp_region_flow 6 38 [] rfl rfl (by kernel_rfl) (by kernel_rfl) (by kernel_rfl) ?_ ?_
  · intro x hx φ he
    cases hx
  intro ops' A' K' T hops hA' hK hT
  refine fl_mv 30 (by rfl) (by decide) (wanted_none (by rfl)) (by rw [hK.out]; rfl) (by rfl) _ (Or.inl (by rfl)) (.pointer (some ⟨r, 0, none⟩)) (by rfl) ?_
  refine fl_op1 31 (by rfl) (by decide) (wanted_none (by rfl)) (by rw [hK.out]; rfl) (by rfl) (.tmp 30) (.pointer (some ⟨r, 0, none⟩)) (by rfl) (.pointer (some ⟨r, 0, none⟩)) (fun ρ h1 kk w5 (hg : Grow _ w5) hb hf => by go_simp) ?_
  refine fl_op1 32 (by rfl) (by decide) (wanted_none (by rfl)) (by rw [hK.out]; rfl) (by rfl) (.tmp 31) (.pointer (some ⟨r, 0, none⟩)) (by rfl) (.pointer (some ⟨r, 1, none⟩)) (fun ρ h1 kk w5 (hg : Grow _ w5) hb hf => by go_simp) ?_
  refine fl_op1 33 (by rfl) (by decide) (wanted_none (by rfl)) (by rw [hK.out]; rfl) (by rfl) (.tmp 32) (.pointer (some ⟨r, 1, none⟩)) (by rfl) (.map (some m)) (fun ρ h1 kk w5 (hg : Grow _ w5) hb hf => by have c0 := (hB3.grow hg).cell 1; go_simp) ?_
  refine fl_op1 34 (by rfl) (by decide) (wanted_none (by rfl)) (by rw [hK.out]; rfl) (by rfl) (.tmp 3) (.pointer (some ⟨x, 0, none⟩)) (by rfl) (.pointer (some ⟨x, 1, none⟩)) (fun ρ h1 kk w5 (hg : Grow _ w5) hb hf => by go_simp) ?_
  refine fl_op1 35 (by rfl) (by decide) (wanted_none (by rfl)) (by rw [hK.out]; rfl) (by rfl) (.tmp 34) (.pointer (some ⟨x, 1, none⟩)) (by rfl) (.int .i64 la.2) (fun ρ h1 kk w5 (hg : Grow _ w5) hb hf => by have c0 := (hBx3.grow hg).cell 1; go_simp) ?_
  refine fl_end (fun _ _ w5 (hg : Grow _ w5) _ hfacts => hT _ _ ?_)
  clear hops hA' hK hT
  simp only [putsL, Act.put, List.setIfInBounds_toArray, List.set_cons_zero, List.set_cons_succ, List.drop_succ_cons, List.drop_zero]
  have hwf : (Lit.int .i64 la.2).wf = true := by rw [HLA.out]; exact wf_of (hG.at_ hn1).2
  obtain ⟨w6, hrun, hP6, hj6⟩ := (hP3.grow hg).del intMap la.2 hwf 0
  have hsome : f la.2 = some ((h.length - 1 : Nat) : Int) := by rw [HLA.out]; exact hf.at_ hn1
  rw [hsome, Option.isSome_some, if_pos rfl] at hP6
  have hB6 := hj6.blk (hB3.grow hg) hrm
  have hBx6 := hj6.blk (hBx3.grow hg) hxm
  have hI6 := (hI3.grow hg).just hj6 fun b hb => (hR b hb).2.2
  have e0 := hBx6.cell 0
  have e1 := hBx6.cell 1
  have hs6 := hj6.size
  have hs5 := hg.size
  have hsr := hjr.size
  clear hfacts
  go_wp2_with fail
  go_ret
  refine ⟨by show Ending.returned (.iface 36 (.agg #[.int .i64 la.1, .int .i64 la.2])) = _; rw [HLA.out], ⟨.inl hVr, _, R, m, delF f la.2, hB6, ?_, ?_, ?_, good_take hG _, fun b hb => ⟨.inl (hR b hb).1, (hR b hb).2⟩, .inl hVm, hmr⟩, ?_⟩
  · have hc := Row.cut hI6 (k := h.length - 1) (by omega)
    rw [flat_take itc 2 itc_len] at hc
    unfold Its
    rw [List.length_take, Nat.min_eq_left (by omega)]
    exact hc
  · rw [List.length_take, Nat.min_eq_left (by omega)]; exact hP6
  · rw [HLA.out]; exact idx_pop hf hG hl
  · have hk : ∀ b, b < w.heap.size → ¬ V b → w6.heap[b]? = w.heap[b]? := fun b hb hv => by
      have n1 : ¬ b = x := by omega
      have n2 : ¬ b = r := fun hh => hv (hh ▸ hVr)
      have n3 : ¬ b = m := fun hh => hv (hh ▸ hVm)
      have s1 := hg1.size
      have s3 := hg3.size
      rw [hj6.block b (by omega) n3, hg.block b (by omega), hjr.block b (by omega) n2, hg3.block b (by omega), hjx.block b (by omega) n1, hg1.block b hb]
    exact ⟨hj6.os.trans (hg.os.trans (hjr.os.trans (hg3.os.trans (hjx.os.trans hg1.os)))), hj6.tape.trans (hg.tape.trans (hjr.tape.trans (hg3.tape.trans (hjx.tape.trans hg1.tape)))), hj6.output.trans (hg.output.trans (hjr.output.trans (hg3.output.trans (hjx.output.trans hg1.output)))), by have s1 := hg1.size; have s3 := hg3.size; omega, hk⟩
end Go.Proofs.Ytjjafpgpnmdjlaa
