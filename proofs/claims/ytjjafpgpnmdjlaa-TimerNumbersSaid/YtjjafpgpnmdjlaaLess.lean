/- cmp.Compare, cmp.Or; rows.Len, rows.Less. -/
import Derived.Test.YtjjafpgpnmdjlaaItm
namespace Go.Proofs.Ytjjafpgpnmdjlaa
open Go.RowKit Go.Hop
def cmpI (a b : Int) : Int := if a < b then -1 else if b < a then 1 else 0
theorem isNaN_any (w : World) (a : Int) : Calls Try.prog 47 #[.int .i64 a] w fun e w' => e = .returned (.bool false) ∧ w = w' := by
  go_enter Try.func47, Try.ntmps47
  go_wp2_with fail
  go_ret
  exact ⟨rfl, rfl⟩
theorem Compare_any (w : World) (a b : Int) : Calls Try.prog 46 #[.int .i64 a, .int .i64 b] w fun e w' => e = .returned (.int .i64 (cmpI a b)) ∧ w = w' := by
  unfold cmpI
  by_cases h1 : a < b
  · have h1' : decide (a < b) = true := decide_eq_true h1
    rw [if_pos h1]
    go_enter Try.func46, Try.ntmps46
    go_wp2_with (go_at_call 47; refine (isNaN_any _ _).mono ?_; rintro e w1 ⟨rfl, rfl⟩)
    go_ret
    exact ⟨rfl, rfl⟩
  · have h1' : decide (a < b) = false := decide_eq_false h1
    rw [if_neg h1]
    by_cases h2 : b < a
    · have h2' : decide (b < a) = true := decide_eq_true h2
      rw [if_pos h2]
      go_enter Try.func46, Try.ntmps46
      go_wp2_with (go_at_call 47; refine (isNaN_any _ _).mono ?_; rintro e w1 ⟨rfl, rfl⟩)
      go_ret
      exact ⟨rfl, rfl⟩
    · have h2' : decide (b < a) = false := decide_eq_false h2
      rw [if_neg h2]
      go_enter Try.func46, Try.ntmps46
      go_wp2_with (go_at_call 47; refine (isNaN_any _ _).mono ?_; rintro e w1 ⟨rfl, rfl⟩)
      go_ret
      exact ⟨rfl, rfl⟩
def orF (a b : Int) : Int := if a = 0 then b else a
theorem Or_any (w : World) (g : Nat) (a b : Int) (hB : Blk w g 3 #[.int .i64 a, .int .i64 b]) : Calls Try.prog 45 #[.slice (some ⟨g, 0, none⟩) 2 2] w fun e w' => e = .returned (.int .i64 (orF a b)) ∧ w = w' := by
  have c0 : w.cell? ⟨g, 0, none⟩ = some (.int .i64 a) := hB.cell 0
  have c1 : w.cell? ⟨g, 1, none⟩ = some (.int .i64 b) := hB.cell 1
  go_enter Try.func45, Try.ntmps45
  go_wp2_with fail
  go_loopw [8] (fun i wr => ∃ k : Nat, k ≤ 2 ∧ i = .int .i64 (k : Int) ∧ (0 < k → a = 0) ∧ (1 < k → b = 0) ∧ w = wr) (fun i _ => 2 - (intOf i).toNat)
  case atStart => exact ⟨0, by omega, rfl, by omega, by omega, rfl⟩
  case round =>
    obtain ⟨k, hk, rfl, h1, h2, rfl⟩ := hrel
    rcases (show k = 0 ∨ k = 1 ∨ k = 2 by omega) with rfl | rfl | rfl
    · by_cases ha : a = 0
      · have ha' : (a == 0) = true := beq_iff_eq.2 ha
        go_wp2_with fail
        go_roundw
        case rel => exact ⟨1, by omega, by go_num, fun _ => ha, by omega, by trivial⟩
        case measure => simp [intOf]
      · have ha' : (a == 0) = false := beq_eq_false_iff_ne.2 ha
        go_wp2_with fail
        go_ret
        exact ⟨ret_int (by unfold orF; rw [if_neg ha]), rfl⟩
    · by_cases hb : b = 0
      · have hb' : (b == 0) = true := beq_iff_eq.2 hb
        go_wp2_with fail
        go_roundw
        case rel => exact ⟨2, by omega, by go_num, fun _ => h1 (by omega), fun _ => hb, by trivial⟩
        case measure => simp [intOf]
      · have hb' : (b == 0) = false := beq_eq_false_iff_ne.2 hb
        go_wp2_with fail
        go_ret
        exact ⟨ret_int (by unfold orF; rw [if_pos (h1 (by omega))]), rfl⟩
    · go_wp2_with fail
      go_ret
      exact ⟨ret_int (by unfold orF; rw [if_pos (h1 (by omega)), h2 (by omega)]), rfl⟩
/-- two numbers in a block of their own -/
def IsPair (a b : Int) (u : Value) (w : World) : Prop := ∃ g, u = .slice (some ⟨g, 0, none⟩) 2 2 ∧ Blk w g 3 #[.int .i64 a, .int .i64 b]
theorem lasting_pair (a b : Int) : Lasting (IsPair a b) := fun _ _ _ ⟨g, h1, h2⟩ hg => ⟨g, h1, h2.grow hg⟩
theorem or_is {w : World} {a b : Int} {u : Value} (h : IsPair a b u w) : Calls Try.prog 45 #[u] w fun e w' => e = .returned (.int .i64 (orF a b)) ∧ Grow w w' := by
  obtain ⟨g, rfl, hB⟩ := h
  exact (Or_any w g a b hB).mono fun _ _ ⟨h1, h2⟩ => ⟨h1, h2 ▸ Grow.refl _⟩
theorem flow_pair {w : World} {o : Oper} {ρ : Operand → Value} {x y : Operand} {a b : Int} (ho : o.op = .buildSlice 39 2 #[(0, x), (1, y)]) (hx : ρ x = .int .i64 a) (hy : ρ y = .int .i64 b) :
    flowUpon Try.prog (fun u w' => Grow w w' ∧ IsPair a b u w') ((execOp ρ o).run Try.prog w) := by
  obtain ⟨dst, op, ty, pos, after, guard⟩ := o
  simp only at ho
  subst ho
  refine flowUpon_value (u := .slice (some ⟨w.heap.size, 0, none⟩) 2 2) (w := w.alloc (.cells #[.int .i64 a, .int .i64 b] 3)) ?_ ⟨(Below.refl _ w).alloc (Nat.le_refl _) _, w.heap.size, rfl, Blk.made w _ _⟩
  go_simp
theorem or_lt (a b : It) : decide (orF (cmpI a.1 b.1) (cmpI a.2 b.2) < 0) = decide (Lt a b) := by
  unfold orF cmpI Lt
  refine decide_eq_decide.2 ?_
  repeat' split
  all_goals omega
theorem grew_same {f : FuncId} {xs : Array Value} {w : World} {c : Value} (h : Calls Try.prog f xs w fun e w' => e = .returned c ∧ w = w') : Calls Try.prog f xs w fun e w' => e = .returned c ∧ Grow w w' :=
  h.mono fun _ _ ⟨h1, h2⟩ => ⟨h1, h2 ▸ Grow.refl _⟩
theorem rLen_any (w : World) (r : Nat) (h : List It) (V : Nat → Prop) (hQ : RowsAt r h w V) : Calls Try.prog 40 #[.pointer (some ⟨r, 0, none⟩)] w fun e w' => e = .returned (.int .i64 (h.length : Int)) ∧ w = w' := by
  obtain ⟨_, v, R, m, f, hB, hI, _⟩ := hQ
  obtain ⟨A, c, rfl, _, _, _⟩ := hI.in_
  have c0 : w.cell? ⟨r, 0, none⟩ = some (.slice A h.length c) := hB.cell 0
  go_enter Try.func40, Try.ntmps40
  go_wp2_with fail
  go_ret
  exact ⟨rfl, rfl⟩
set_option maxRecDepth 20000 in
theorem rLess_any (w : World) (r : Nat) (h : List It) (V : Nat → Prop) (hQ : RowsAt r h w V) (i j : Nat) (hi : i < h.length) (hj : j < h.length) :
    Calls Try.prog 41 #[.pointer (some ⟨r, 0, none⟩), .int .i64 (i : Int), .int .i64 (j : Int)] w fun e w' => e = .returned (.bool (decide (Lt (hat h i) (hat h j)))) ∧ Grow w w' := by
  obtain ⟨_, v, R, m, f, hB, hI, _⟩ := hQ
  obtain ⟨g, c, rfl, _, _, _, _⟩ := its_shape hI (by omega)
  have k46 : ∀ (vs : Array Value) (w : World), (callFunc 46 vs).run Try.prog w = .ok (.enter 46 vs) w := fun vs w => by go_simp
  have k45 : ∀ (vs : Array Value) (w : World), (callFunc 45 vs).run Try.prog w = .ok (.enter 45 vs) w := fun vs w => by go_simp
  go_enter Try.func41, Try.ntmps41
  go_wp2_with fail
  refine wp_region_flow 38 44 [(16, .inl (.int .i64 (cmpI (hat h i).1 (hat h j).1))), (33, .inl (.int .i64 (cmpI (hat h i).2 (hat h j).2))), (34, .inr (fun _ u w => IsPair (cmpI (hat h i).1 (hat h j).1) (cmpI (hat h i).2 (hat h j).2) u w)), (35, .inl (.int .i64 (orF (cmpI (hat h i).1 (hat h j).1) (cmpI (hat h i).2 (hat h j).2))))] rfl rfl (by kernel_rfl) (by kernel_rfl) (by kernel_rfl) ?_ ?_
  · intro x hx φ he
    simp only [List.mem_cons, List.not_mem_nil, or_false] at hx
    rcases hx with rfl | rfl | rfl | rfl <;> cases he
    all_goals first | exact lasts_quiet (lasting_bytes _) | exact lasts_quiet (lasting_pair _ _)
  intro ops' A' K' T hops hA' hK hT
  refine fl_mv 7 (by rfl) (by decide) (wanted_none (by rfl)) (by rw [hK.out]; rfl) (by rfl) _ (Or.inl (by rfl)) (.pointer (some ⟨r, 0, none⟩)) (by rfl) ?_
  refine fl_op1 8 (by rfl) (by decide) (wanted_none (by rfl)) (by rw [hK.out]; rfl) (by rfl) (.tmp 7) (.pointer (some ⟨r, 0, none⟩)) (by rfl) (.pointer (some ⟨r, 0, none⟩)) (fun ρ h1 kk w1 (hg : Grow _ w1) hb hf => by go_simp) ?_
  refine fl_op1 9 (by rfl) (by decide) (wanted_none (by rfl)) (by rw [hK.out]; rfl) (by rfl) (.tmp 8) (.pointer (some ⟨r, 0, none⟩)) (by rfl) (.pointer (some ⟨r, 0, none⟩)) (fun ρ h1 kk w1 (hg : Grow _ w1) hb hf => by go_simp) ?_
  refine fl_op1 10 (by rfl) (by decide) (wanted_none (by rfl)) (by rw [hK.out]; rfl) (by rfl) (.tmp 9) (.pointer (some ⟨r, 0, none⟩)) (by rfl) (.slice (some ⟨g, 0, none⟩) h.length c) (fun ρ h1 kk w1 (hg : Grow _ w1) hb hf => by have c0 := (hB.grow hg).cell 0; go_simp) ?_
  refine fl_mv 11 (by rfl) (by decide) (wanted_none (by rfl)) (by rw [hK.out]; rfl) (by rfl) _ (Or.inl (by rfl)) (.int .i64 (i : Int)) (by rfl) ?_
  refine fl_op2 12 (by rfl) (by decide) (wanted_none (by rfl)) (by rw [hK.out]; rfl) (by rfl) (.tmp 10) (.tmp 11) (.slice (some ⟨g, 0, none⟩) h.length c) (.int .i64 (i : Int)) (by rfl) (by rfl) (.pointer (some ⟨g, i * 2, none⟩)) (fun ρ h1 h2 kk w1 (hg : Grow _ w1) hb hf => by go_simp) ?_
  refine fl_op1 13 (by rfl) (by decide) (wanted_none (by rfl)) (by rw [hK.out]; rfl) (by rfl) (.tmp 12) (.pointer (some ⟨g, i * 2, none⟩)) (by rfl) (.pointer (some ⟨g, i * 2 + 0, none⟩)) (fun ρ h1 kk w1 (hg : Grow _ w1) hb hf => by go_simp) ?_
  refine fl_op1 14 (by rfl) (by decide) (wanted_none (by rfl)) (by rw [hK.out]; rfl) (by rfl) (.tmp 13) (.pointer (some ⟨g, i * 2 + 0, none⟩)) (by rfl) (.int .i64 (hat h i).1) (fun ρ h1 kk w1 (hg : Grow _ w1) hb hf => by have c0 := (its_at (hI.grow hg) hi).1; go_simp) ?_
  refine fl_mv 15 (by rfl) (by decide) (wanted_none (by rfl)) (by rw [hK.out]; rfl) (by rfl) _ (Or.inl (by rfl)) (.pointer (some ⟨r, 0, none⟩)) (by rfl) ?_
  refine fl_op1 16 (by rfl) (by decide) (wanted_none (by rfl)) (by rw [hK.out]; rfl) (by rfl) (.tmp 15) (.pointer (some ⟨r, 0, none⟩)) (by rfl) (.pointer (some ⟨r, 0, none⟩)) (fun ρ h1 kk w1 (hg : Grow _ w1) hb hf => by go_simp) ?_
  refine fl_op1 17 (by rfl) (by decide) (wanted_none (by rfl)) (by rw [hK.out]; rfl) (by rfl) (.tmp 16) (.pointer (some ⟨r, 0, none⟩)) (by rfl) (.pointer (some ⟨r, 0, none⟩)) (fun ρ h1 kk w1 (hg : Grow _ w1) hb hf => by go_simp) ?_
  refine fl_op1 18 (by rfl) (by decide) (wanted_none (by rfl)) (by rw [hK.out]; rfl) (by rfl) (.tmp 17) (.pointer (some ⟨r, 0, none⟩)) (by rfl) (.slice (some ⟨g, 0, none⟩) h.length c) (fun ρ h1 kk w1 (hg : Grow _ w1) hb hf => by have c0 := (hB.grow hg).cell 0; go_simp) ?_
  refine fl_mv 19 (by rfl) (by decide) (wanted_none (by rfl)) (by rw [hK.out]; rfl) (by rfl) _ (Or.inl (by rfl)) (.int .i64 (j : Int)) (by rfl) ?_
  refine fl_op2 20 (by rfl) (by decide) (wanted_none (by rfl)) (by rw [hK.out]; rfl) (by rfl) (.tmp 18) (.tmp 19) (.slice (some ⟨g, 0, none⟩) h.length c) (.int .i64 (j : Int)) (by rfl) (by rfl) (.pointer (some ⟨g, j * 2, none⟩)) (fun ρ h1 h2 kk w1 (hg : Grow _ w1) hb hf => by go_simp) ?_
  refine fl_op1 21 (by rfl) (by decide) (wanted_none (by rfl)) (by rw [hK.out]; rfl) (by rfl) (.tmp 20) (.pointer (some ⟨g, j * 2, none⟩)) (by rfl) (.pointer (some ⟨g, j * 2 + 0, none⟩)) (fun ρ h1 kk w1 (hg : Grow _ w1) hb hf => by go_simp) ?_
  refine fl_op1 22 (by rfl) (by decide) (wanted_none (by rfl)) (by rw [hK.out]; rfl) (by rfl) (.tmp 21) (.pointer (some ⟨g, j * 2 + 0, none⟩)) (by rfl) (.int .i64 (hat h j).1) (fun ρ h1 kk w1 (hg : Grow _ w1) hb hf => by have c0 := (its_at (hI.grow hg) hj).1; go_simp) ?_
  refine fl_call 23 (by rfl) (by decide) (wanted_none (by rfl)) (.int .i64 (cmpI (hat h i).1 (hat h j).1)) (by rw [hK.out]; rfl) 46 _ _ (by rfl) [.int .i64 (hat h i).1, .int .i64 (hat h j).1] (by rfl) k46 (fun kk w1 (hg : Grow _ w1) hb hf => calls_behind (by rfl) (by exact grew_same (Compare_any w1 _ _))) ?_
  refine fl_mv 24 (by rfl) (by decide) (wanted_none (by rfl)) (by rw [hK.out]; rfl) (by rfl) _ (Or.inl (by rfl)) (.pointer (some ⟨r, 0, none⟩)) (by rfl) ?_
  refine fl_op1 25 (by rfl) (by decide) (wanted_none (by rfl)) (by rw [hK.out]; rfl) (by rfl) (.tmp 24) (.pointer (some ⟨r, 0, none⟩)) (by rfl) (.pointer (some ⟨r, 0, none⟩)) (fun ρ h1 kk w1 (hg : Grow _ w1) hb hf => by go_simp) ?_
  refine fl_op1 26 (by rfl) (by decide) (wanted_none (by rfl)) (by rw [hK.out]; rfl) (by rfl) (.tmp 25) (.pointer (some ⟨r, 0, none⟩)) (by rfl) (.pointer (some ⟨r, 0, none⟩)) (fun ρ h1 kk w1 (hg : Grow _ w1) hb hf => by go_simp) ?_
  refine fl_op1 27 (by rfl) (by decide) (wanted_none (by rfl)) (by rw [hK.out]; rfl) (by rfl) (.tmp 26) (.pointer (some ⟨r, 0, none⟩)) (by rfl) (.slice (some ⟨g, 0, none⟩) h.length c) (fun ρ h1 kk w1 (hg : Grow _ w1) hb hf => by have c0 := (hB.grow hg).cell 0; go_simp) ?_
  refine fl_mv 28 (by rfl) (by decide) (wanted_none (by rfl)) (by rw [hK.out]; rfl) (by rfl) _ (Or.inl (by rfl)) (.int .i64 (i : Int)) (by rfl) ?_
  refine fl_op2 29 (by rfl) (by decide) (wanted_none (by rfl)) (by rw [hK.out]; rfl) (by rfl) (.tmp 27) (.tmp 28) (.slice (some ⟨g, 0, none⟩) h.length c) (.int .i64 (i : Int)) (by rfl) (by rfl) (.pointer (some ⟨g, i * 2, none⟩)) (fun ρ h1 h2 kk w1 (hg : Grow _ w1) hb hf => by go_simp) ?_
  refine fl_op1 30 (by rfl) (by decide) (wanted_none (by rfl)) (by rw [hK.out]; rfl) (by rfl) (.tmp 29) (.pointer (some ⟨g, i * 2, none⟩)) (by rfl) (.pointer (some ⟨g, i * 2 + 1, none⟩)) (fun ρ h1 kk w1 (hg : Grow _ w1) hb hf => by go_simp) ?_
  refine fl_op1 31 (by rfl) (by decide) (wanted_none (by rfl)) (by rw [hK.out]; rfl) (by rfl) (.tmp 30) (.pointer (some ⟨g, i * 2 + 1, none⟩)) (by rfl) (.int .i64 (hat h i).2) (fun ρ h1 kk w1 (hg : Grow _ w1) hb hf => by have c0 := (its_at (hI.grow hg) hi).2.1; go_simp) ?_
  refine fl_mv 32 (by rfl) (by decide) (wanted_none (by rfl)) (by rw [hK.out]; rfl) (by rfl) _ (Or.inl (by rfl)) (.pointer (some ⟨r, 0, none⟩)) (by rfl) ?_
  refine fl_op1 33 (by rfl) (by decide) (wanted_none (by rfl)) (by rw [hK.out]; rfl) (by rfl) (.tmp 32) (.pointer (some ⟨r, 0, none⟩)) (by rfl) (.pointer (some ⟨r, 0, none⟩)) (fun ρ h1 kk w1 (hg : Grow _ w1) hb hf => by go_simp) ?_
  refine fl_op1 34 (by rfl) (by decide) (wanted_none (by rfl)) (by rw [hK.out]; rfl) (by rfl) (.tmp 33) (.pointer (some ⟨r, 0, none⟩)) (by rfl) (.pointer (some ⟨r, 0, none⟩)) (fun ρ h1 kk w1 (hg : Grow _ w1) hb hf => by go_simp) ?_
  refine fl_op1 35 (by rfl) (by decide) (wanted_none (by rfl)) (by rw [hK.out]; rfl) (by rfl) (.tmp 34) (.pointer (some ⟨r, 0, none⟩)) (by rfl) (.slice (some ⟨g, 0, none⟩) h.length c) (fun ρ h1 kk w1 (hg : Grow _ w1) hb hf => by have c0 := (hB.grow hg).cell 0; go_simp) ?_
  refine fl_mv 36 (by rfl) (by decide) (wanted_none (by rfl)) (by rw [hK.out]; rfl) (by rfl) _ (Or.inl (by rfl)) (.int .i64 (j : Int)) (by rfl) ?_
  refine fl_op2 37 (by rfl) (by decide) (wanted_none (by rfl)) (by rw [hK.out]; rfl) (by rfl) (.tmp 35) (.tmp 36) (.slice (some ⟨g, 0, none⟩) h.length c) (.int .i64 (j : Int)) (by rfl) (by rfl) (.pointer (some ⟨g, j * 2, none⟩)) (fun ρ h1 h2 kk w1 (hg : Grow _ w1) hb hf => by go_simp) ?_
  refine fl_op1 38 (by rfl) (by decide) (wanted_none (by rfl)) (by rw [hK.out]; rfl) (by rfl) (.tmp 37) (.pointer (some ⟨g, j * 2, none⟩)) (by rfl) (.pointer (some ⟨g, j * 2 + 1, none⟩)) (fun ρ h1 kk w1 (hg : Grow _ w1) hb hf => by go_simp) ?_
  refine fl_op1 39 (by rfl) (by decide) (wanted_none (by rfl)) (by rw [hK.out]; rfl) (by rfl) (.tmp 38) (.pointer (some ⟨g, j * 2 + 1, none⟩)) (by rfl) (.int .i64 (hat h j).2) (fun ρ h1 kk w1 (hg : Grow _ w1) hb hf => by have c0 := (its_at (hI.grow hg) hj).2.1; go_simp) ?_
  refine fl_call 40 (by rfl) (by decide) (wanted_none (by rfl)) (.int .i64 (cmpI (hat h i).2 (hat h j).2)) (by rw [hK.out]; rfl) 46 _ _ (by rfl) [.int .i64 (hat h i).2, .int .i64 (hat h j).2] (by rfl) k46 (fun kk w1 (hg : Grow _ w1) hb hf => calls_behind (by rfl) (by exact grew_same (Compare_any w1 _ _))) ?_
  refine fl_any2 41 (by rfl) (by decide) (wanted_none (by rfl)) (fun _ u w => IsPair (cmpI (hat h i).1 (hat h j).1) (cmpI (hat h i).2 (hat h j).2) u w) (by rw [hK.out]; rfl) (.tmp 23) (.tmp 40) (.int .i64 (cmpI (hat h i).1 (hat h j).1)) (.int .i64 (cmpI (hat h i).2 (hat h j).2)) (by rfl) (by rfl) (fun ρ h1 h2 kk w1 (hg : Grow _ w1) hb hf => by refine upon_behindAny (φ := fun _ u w => IsPair (cmpI (hat h i).1 (hat h j).1) (cmpI (hat h i).2 (hat h j).2) u w) (by rfl) ?_; exact flow_pair rfl h1 h2) (fun v41 => ?_)
  refine fl_call 42 (by rfl) (by decide) (wanted_none (by rfl)) (.int .i64 (orF (cmpI (hat h i).1 (hat h j).1) (cmpI (hat h i).2 (hat h j).2))) (by rw [hK.out]; rfl) 45 _ _ (by rfl) [v41] (by rfl) k45 (fun kk w1 (hg : Grow _ w1) hb hf => calls_behind (by rfl) (by exact or_is (facts_take hf (by rw [hA'.out]; kernel_rfl)))) ?_
  refine fl_op2 43 (by rfl) (by decide) (wanted_none (by rfl)) (by rw [hK.out]; rfl) (by rfl) (.tmp 42) (.const (.int .i64 0)) (.int .i64 (orF (cmpI (hat h i).1 (hat h j).1) (cmpI (hat h i).2 (hat h j).2))) (.int .i64 0) (by rfl) (by rfl) (.bool (decide (Lt (hat h i) (hat h j)))) (fun ρ h1 h2 kk w1 (hg : Grow _ w1) hb hf => by have ho := or_lt (hat h i) (hat h j); go_simp) ?_
  refine fl_mv 6 (by rfl) (by decide) (wanted_none (by rfl)) (by rw [hK.out]; rfl) (by rfl) _ (Or.inr (by rfl)) (.bool (decide (Lt (hat h i) (hat h j)))) (by rfl) ?_
  refine fl_end (fun _ _ w1 (hg : Grow _ w1) _ hfacts => hT _ _ ?_)
  clear hops hA' hK hT
  simp only [putsL, Act.put, List.setIfInBounds_toArray, List.set_cons_zero, List.set_cons_succ, List.drop_succ_cons, List.drop_zero]
  go_wp2_with fail
  go_ret
  exact ⟨rfl, hg⟩
end Go.Proofs.Ytjjafpgpnmdjlaa
