/- ledger.Top's order; the walk of its comparison. -/
import Derived.Test.YtidkhokecekpgaaDoorGby
namespace Go.Proofs.YtidkhokecekpgaaDoor
open Go.RowKit Go.Hop
def cmpN (a b : Nat) : Int := if a < b then -1 else if b < a then 1 else 0
theorem isNaNU_any (w : World) (a : Nat) : Calls Tryd.prog 44 #[.int .u64 (a : Int)] w fun e w' => e = .returned (.bool false) ∧ w = w' := by
  go_enter Tryd.func44, Tryd.ntmps44
  go_wp2_with fail
  go_ret
  exact ⟨by simp, rfl⟩
theorem CompareU_any (w : World) (a b : Nat) : Calls Tryd.prog 25 #[.int .u64 (a : Int), .int .u64 (b : Int)] w fun e w' => e = .returned (.int .i64 (cmpN a b)) ∧ w = w' := by
  unfold cmpN
  by_cases h1 : a < b
  · have h1' : decide (a < b) = true := decide_eq_true h1
    rw [if_pos h1]
    go_enter Tryd.func25, Tryd.ntmps25
    go_wp2_with (go_at_call 44; refine (isNaNU_any _ _).mono ?_; rintro e w1 ⟨rfl, rfl⟩)
    go_ret
    exact ⟨rfl, rfl⟩
  · have h1' : decide (a < b) = false := decide_eq_false h1
    rw [if_neg h1]
    by_cases h2 : b < a
    · have h2' : decide (b < a) = true := decide_eq_true h2
      rw [if_pos h2]
      go_enter Tryd.func25, Tryd.ntmps25
      go_wp2_with (go_at_call 44; refine (isNaNU_any _ _).mono ?_; rintro e w1 ⟨rfl, rfl⟩)
      go_ret
      exact ⟨rfl, rfl⟩
    · have h2' : decide (b < a) = false := decide_eq_false h2
      rw [if_neg h2]
      go_enter Tryd.func25, Tryd.ntmps25
      go_wp2_with (go_at_call 44; refine (isNaNU_any _ _).mono ?_; rintro e w1 ⟨rfl, rfl⟩)
      go_ret
      exact ⟨rfl, rfl⟩
def orF (a b : Int) : Int := if a = 0 then b else a
set_option maxRecDepth 20000 in
theorem Or_any (w : World) (g : Nat) (a b : Int) (hB : Blk w g 3 #[.int .i64 a, .int .i64 b]) : Calls Tryd.prog 24 #[.slice (some ⟨g, 0, none⟩) 2 2] w fun e w' => e = .returned (.int .i64 (orF a b)) ∧ w = w' := by
  have c0 : w.cell? ⟨g, 0, none⟩ = some (.int .i64 a) := hB.cell 0
  have c1 : w.cell? ⟨g, 1, none⟩ = some (.int .i64 b) := hB.cell 1
  go_enter Tryd.func24, Tryd.ntmps24
  go_wp2_with fail
  go_loopw [8] (fun i wr => ∃ k : Nat, k ≤ 2 ∧ i = .int .i64 (k : Int) ∧ (0 < k → a = 0) ∧ (1 < k → b = 0) ∧ w = wr) (fun i _ => 2 - (intOf i).toNat)
  case atStart => exact ⟨0, by omega, rfl, by omega, by omega, rfl⟩
  case round =>
    obtain ⟨k, hk, rfl, h1, h2, rfl⟩ := hrel
    rcases (show k = 0 ∨ k = 1 ∨ k = 2 by omega) with rfl | rfl | rfl
    · by_cases ha : a = 0
      · have ha' : (a == 0) = true := beq_iff_eq.2 ha
        go_wp2_with fail
        go_roundw
        case rel => exact ⟨1, by omega, by go_num, fun _ => ha, by omega, by trivial⟩
        case measure => simp [intOf]
      · have ha' : (a == 0) = false := beq_eq_false_iff_ne.2 ha
        go_wp2_with fail
        go_ret
        exact ⟨ret_int (by unfold orF; rw [if_neg ha]), rfl⟩
    · by_cases hb : b = 0
      · have hb' : (b == 0) = true := beq_iff_eq.2 hb
        go_wp2_with fail
        go_roundw
        case rel => exact ⟨2, by omega, by go_num, fun _ => h1 (by omega), fun _ => hb, by trivial⟩
        case measure => simp [intOf]
      · have hb' : (b == 0) = false := beq_eq_false_iff_ne.2 hb
        go_wp2_with fail
        go_ret
        exact ⟨ret_int (by unfold orF; rw [if_pos (h1 (by omega))]), rfl⟩
    · go_wp2_with fail
      go_ret
      exact ⟨ret_int (by unfold orF; rw [if_pos (h1 (by omega)), h2 (by omega)]), rfl⟩
/-- two numbers in a block of their own -/
def IsPair (a b : Int) (u : Value) (w : World) : Prop := ∃ g, u = .slice (some ⟨g, 0, none⟩) 2 2 ∧ Blk w g 3 #[.int .i64 a, .int .i64 b]
theorem lasting_pair (a b : Int) : Lasting (IsPair a b) := fun _ _ _ ⟨g, h1, h2⟩ hg => ⟨g, h1, h2.grow hg⟩
theorem or_is {w : World} {a b : Int} {u : Value} (h : IsPair a b u w) : Calls Tryd.prog 24 #[u] w fun e w' => e = .returned (.int .i64 (orF a b)) ∧ Grow w w' := by
  obtain ⟨g, rfl, hB⟩ := h
  exact (Or_any w g a b hB).mono fun _ _ ⟨h1, h2⟩ => ⟨h1, h2 ▸ Grow.refl _⟩
set_option maxRecDepth 20000 in
theorem flow_pair {w : World} {o : Oper} {ρ : Operand → Value} {x y : Operand} {a b : Int} (ho : o.op = .buildSlice 22 2 #[(0, x), (1, y)]) (hx : ρ x = .int .i64 a) (hy : ρ y = .int .i64 b) :
    flowUpon Tryd.prog (fun u w' => Grow w w' ∧ IsPair a b u w') ((execOp ρ o).run Tryd.prog w) := by
  obtain ⟨dst, op, ty, pos, after, guard⟩ := o
  simp only at ho
  subst ho
  refine flowUpon_value (u := .slice (some ⟨w.heap.size, 0, none⟩) 2 2) (w := w.alloc (.cells #[.int .i64 a, .int .i64 b] 3)) ?_ ⟨(Below.refl _ w).alloc (Nat.le_refl _) _, w.heap.size, rfl, Blk.made w _ _⟩
  go_simp
def cmpD (x y : Dl) : Int := orF (cmpN y.2 x.2) (cmpT x.1 y.1)
theorem cmpD_lt (x y : Dl) : decide (cmpD x y < 0) = aheadB x y := by
  unfold cmpD orF cmpN cmpT aheadB
  by_cases h1 : y.2 < x.2
  · simp [h1]
  · by_cases h2 : x.2 < y.2
    · have h3 : ¬ x.2 = y.2 := by omega
      simp [h1, h2, h3]
    · have h3 : x.2 = y.2 := by omega
      cases h4 : slt x.1 y.1 <;> cases h5 : slt y.1 x.1 <;> simp [h3]
theorem ahead_is (a b : Dl) : aheadB a b = true ↔ (b.2 < a.2 ∨ (a.2 = b.2 ∧ slt a.1 b.1 = true)) := by unfold aheadB; simp
theorem ahead_not (a b : Dl) : aheadB a b = false ↔ (a.2 ≤ b.2 ∧ (a.2 = b.2 → slt a.1 b.1 = false)) := by
  constructor
  · intro h
    refine ⟨?_, fun e => ?_⟩
    · rcases Nat.lt_or_ge b.2 a.2 with hc | hc
      · rw [(ahead_is a b).2 (.inl hc)] at h; cases h
      · exact hc
    · cases hc : slt a.1 b.1 with
      | false => rfl
      | true => rw [(ahead_is a b).2 (.inr ⟨e, hc⟩)] at h; cases h
  · rintro ⟨h1, h2⟩
    cases hc : aheadB a b with
    | false => rfl
    | true =>
      rcases (ahead_is a b).1 hc with h | ⟨h, h3⟩
      · omega
      · rw [h2 h] at h3; cases h3
theorem ahead_asym {a b : Dl} (h : aheadB a b = true) : aheadB b a = false := by
  rw [ahead_not]
  rcases (ahead_is a b).1 h with h | ⟨h, h3⟩
  · exact ⟨by omega, fun e => by omega⟩
  · exact ⟨by omega, fun _ => slt_no h3⟩
theorem ahead_ntr {x y z : Dl} (h : aheadB x y = false) (k : aheadB y z = false) : aheadB x z = false := by
  rw [ahead_not] at *
  refine ⟨by omega, fun e => slt_ntr (h.2 (by omega)) (k.2 (by omega))⟩
set_option maxRecDepth 20000 in
theorem cmpTop_any (w : World) (x y : Dl) : Calls Tryd.prog 23 #[.agg #[.string x.1, .int .u64 (x.2 : Int)], .agg #[.string y.1, .int .u64 (y.2 : Int)]] w fun e w' => e = .returned (.int .i64 (cmpD x y)) ∧ Grow w w' := by
  have k25 : ∀ (vs : Array Value) (w : World), (callFunc 25 vs).run Tryd.prog w = .ok (.enter 25 vs) w := fun vs w => by go_simp
  have k20 : ∀ (vs : Array Value) (w : World), (callFunc 20 vs).run Tryd.prog w = .ok (.enter 20 vs) w := fun vs w => by go_simp
  have k24 : ∀ (vs : Array Value) (w : World), (callFunc 24 vs).run Tryd.prog w = .ok (.enter 24 vs) w := fun vs w => by go_simp
  obtain ⟨b1, HB1⟩ : ∃ b1 : Nat, Hid (b1 = w.heap.size) := ⟨_, rfl⟩
  obtain ⟨wa, HWA⟩ : ∃ wa : World, Hid (wa = w.alloc (.cells #[.string x.1, .int .u64 (x.2 : Int)] 30)) := ⟨_, rfl⟩
  have hga : Grow w wa := by rw [HWA.out]; exact (Below.refl _ _).alloc (Nat.le_refl _) _
  have hBa : Blk wa b1 30 #[.string x.1, .int .u64 (x.2 : Int)] := by rw [HWA.out, HB1.out]; exact Blk.made w _ _
  obtain ⟨b2, HB2⟩ : ∃ b2 : Nat, Hid (b2 = wa.heap.size) := ⟨_, rfl⟩
  obtain ⟨wb, HWB⟩ : ∃ wb : World, Hid (wb = wa.alloc (.cells #[.string y.1, .int .u64 (y.2 : Int)] 30)) := ⟨_, rfl⟩
  have hgb : Grow wa wb := by rw [HWB.out]; exact (Below.refl _ _).alloc (Nat.le_refl _) _
  have hB2 : Blk wb b2 30 #[.string y.1, .int .u64 (y.2 : Int)] := by rw [HWB.out, HB2.out]; exact Blk.made wa _ _
  have hB1 := hBa.grow hgb
  have hgw := hga.trans hgb
  have hsz : b2 = w.heap.size + 1 := by rw [HB2.out, HWA.out]; simp
  clear hBa
  go_enter Tryd.func23, Tryd.ntmps23
  go_wp2_with fail
  rw [← HWA.out, ← HWB.out, ← hsz, ← HB1.out]
  clear hsz
  refine wp_region_flow 13 17 [(4, .inl (.int .i64 (cmpN y.2 x.2))), (9, .inl (.int .i64 (cmpT x.1 y.1))), (10, .inr (fun _ u w => IsPair (cmpN y.2 x.2) (cmpT x.1 y.1) u w)), (11, .inl (.int .i64 (cmpD x y)))] rfl rfl (by kernel_rfl) (by kernel_rfl) (by kernel_rfl) ?_ ?_
  · intro x hx φ he
    simp only [List.mem_cons, List.not_mem_nil, or_false] at hx
    rcases hx with rfl | rfl | rfl | rfl <;> cases he
    all_goals first | exact lasts_quiet (lasting_bytes _) | exact lasts_quiet (lasting_pair _ _)
  intro ops' A' K' T hops hA' hK hT
  refine fl_op1 5 (by rfl) (by decide) (wanted_none (by rfl)) (by rw [hK.out]; rfl) (by rfl) (.tmp 3) (.pointer (some ⟨b2, 0, none⟩)) (by rfl) (.pointer (some ⟨b2, 1, none⟩)) (fun ρ h1 kk w1 (hg : Grow _ w1) hb hf => by go_simp) ?_
  refine fl_op1 6 (by rfl) (by decide) (wanted_none (by rfl)) (by rw [hK.out]; rfl) (by rfl) (.tmp 5) (.pointer (some ⟨b2, 1, none⟩)) (by rfl) (.int .u64 (y.2 : Int)) (fun ρ h1 kk w1 (hg : Grow _ w1) hb hf => by have c1 := (hB2.grow hg).cell 1; go_simp) ?_
  refine fl_op1 7 (by rfl) (by decide) (wanted_none (by rfl)) (by rw [hK.out]; rfl) (by rfl) (.tmp 2) (.pointer (some ⟨b1, 0, none⟩)) (by rfl) (.pointer (some ⟨b1, 1, none⟩)) (fun ρ h1 kk w1 (hg : Grow _ w1) hb hf => by go_simp) ?_
  refine fl_op1 8 (by rfl) (by decide) (wanted_none (by rfl)) (by rw [hK.out]; rfl) (by rfl) (.tmp 7) (.pointer (some ⟨b1, 1, none⟩)) (by rfl) (.int .u64 (x.2 : Int)) (fun ρ h1 kk w1 (hg : Grow _ w1) hb hf => by have c1 := (hB1.grow hg).cell 1; go_simp) ?_
  refine fl_call 9 (by rfl) (by decide) (wanted_none (by rfl)) (.int .i64 (cmpN y.2 x.2)) (by rw [hK.out]; rfl) 25 _ _ (by rfl) [.int .u64 (y.2 : Int), .int .u64 (x.2 : Int)] (by rfl) k25 (fun kk w1 (hg : Grow _ w1) hb hf => calls_behind (by rfl) (by exact grew_eq (CompareU_any w1 y.2 x.2))) ?_
  refine fl_op1 10 (by rfl) (by decide) (wanted_none (by rfl)) (by rw [hK.out]; rfl) (by rfl) (.tmp 2) (.pointer (some ⟨b1, 0, none⟩)) (by rfl) (.pointer (some ⟨b1, 0, none⟩)) (fun ρ h1 kk w1 (hg : Grow _ w1) hb hf => by go_simp) ?_
  refine fl_op1 11 (by rfl) (by decide) (wanted_none (by rfl)) (by rw [hK.out]; rfl) (by rfl) (.tmp 10) (.pointer (some ⟨b1, 0, none⟩)) (by rfl) (.string x.1) (fun ρ h1 kk w1 (hg : Grow _ w1) hb hf => by have c0 := (hB1.grow hg).cell 0; go_simp) ?_
  refine fl_op1 12 (by rfl) (by decide) (wanted_none (by rfl)) (by rw [hK.out]; rfl) (by rfl) (.tmp 3) (.pointer (some ⟨b2, 0, none⟩)) (by rfl) (.pointer (some ⟨b2, 0, none⟩)) (fun ρ h1 kk w1 (hg : Grow _ w1) hb hf => by go_simp) ?_
  refine fl_op1 13 (by rfl) (by decide) (wanted_none (by rfl)) (by rw [hK.out]; rfl) (by rfl) (.tmp 12) (.pointer (some ⟨b2, 0, none⟩)) (by rfl) (.string y.1) (fun ρ h1 kk w1 (hg : Grow _ w1) hb hf => by have c0 := (hB2.grow hg).cell 0; go_simp) ?_
  refine fl_call 14 (by rfl) (by decide) (wanted_none (by rfl)) (.int .i64 (cmpT x.1 y.1)) (by rw [hK.out]; rfl) 20 _ _ (by rfl) [.string x.1, .string y.1] (by rfl) k20 (fun kk w1 (hg : Grow _ w1) hb hf => calls_behind (by rfl) (by exact grew_eq (Compare_any w1 x.1 y.1))) ?_
  refine fl_any2 15 (by rfl) (by decide) (wanted_none (by rfl)) (fun _ u w => IsPair (cmpN y.2 x.2) (cmpT x.1 y.1) u w) (by rw [hK.out]; rfl) (.tmp 9) (.tmp 14) (.int .i64 (cmpN y.2 x.2)) (.int .i64 (cmpT x.1 y.1)) (by rfl) (by rfl) (fun ρ h1 h2 kk w1 (hg : Grow _ w1) hb hf => by refine upon_behindAny (φ := fun _ u w => IsPair (cmpN y.2 x.2) (cmpT x.1 y.1) u w) (by rfl) ?_; exact flow_pair rfl h1 h2) (fun v15 => ?_)
  refine fl_call 16 (by rfl) (by decide) (wanted_none (by rfl)) (.int .i64 (cmpD x y)) (by rw [hK.out]; rfl) 24 _ _ (by rfl) [v15] (by rfl) k24 (fun kk w1 (hg : Grow _ w1) hb hf => calls_behind (by rfl) (by exact or_is (facts_take hf (by rw [hA'.out]; kernel_rfl)))) ?_
  refine fl_mv 4 (by rfl) (by decide) (wanted_none (by rfl)) (by rw [hK.out]; rfl) (by rfl) _ (Or.inr (by rfl)) (.int .i64 (cmpD x y)) (by rfl) ?_
  refine fl_end (fun _ _ w1 (hg : Grow _ w1) _ hfacts => hT _ _ ?_)
  clear hops hA' hK hT
  simp only [putsL, Act.put, List.setIfInBounds_toArray, List.set_cons_zero, List.set_cons_succ, List.drop_succ_cons, List.drop_zero]
  clear hfacts
  go_wp2_with fail
  go_ret
  exact ⟨rfl, hgw.trans hg⟩
theorem cmp_flow {w : World} {o : Oper} {ρ : Operand → Value} {f a b : Operand} {x y : Dl} (hf : ρ f = .func (.func 23) #[] #[]) (ha : ρ a = .agg #[.string x.1, .int .u64 (x.2 : Int)]) (hb : ρ b = .agg #[.string y.1, .int .u64 (y.2 : Int)])
    (ho : o.op = .call { callee := .value f, args := #[a, b], argTypes := #[30, 30] }) :
    flowUpon Tryd.prog (fun u w' => u = .int .i64 (cmpD x y) ∧ Grow w w') ((execOp ρ o).run Tryd.prog w) := by
  obtain ⟨dst, op, ty, pos, after, guard⟩ := o
  simp only at ho
  subst ho
  refine flowUpon_call' (f := 23) (args := #[.agg #[.string x.1, .int .u64 (x.2 : Int)], .agg #[.string y.1, .int .u64 (y.2 : Int)]]) (w := w) (by go_simp) ((cmpTop_any w x y).mono fun e w' ⟨he, hg⟩ => ⟨_, he, rfl, hg⟩)
end Go.Proofs.YtidkhokecekpgaaDoor
