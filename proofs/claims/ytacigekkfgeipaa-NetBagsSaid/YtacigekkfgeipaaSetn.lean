/- Net.set, Part, Heal. -/
import Derived.Test.YtacigekkfgeipaaDlv
namespace Go.Proofs.Ytacigekkfgeipaa
open Go.RowKit Go.Hop
def parted (P : Nat → Bool) (a b : Nat) (p : Bool) : Nat → Bool := fun j => if j = b * 8 + a then p else (fun j => if j = a * 8 + b then p else P j) j
def setE (nodes a b : Int) : Int := if nodeB nodes a = false then 23 else if nodeB nodes b = false then 23 else if a = b then 23 else 0
def setP (nodes a b : Int) (p : Bool) (P : Nat → Bool) : Nat → Bool := if setE nodes a b = 0 then parted P a.toNat b.toNat p else P
def SetSt (t : TypeId) (g : Nat) (nodes : Int) (v : Value) (P : Nat → Bool) (a b : Nat) (p : Bool) : Stages where
  G := Just fun c => c = g
  T := fun _ => Just fun c => c = g
  I := fun k w => match k with
    | 0 => Blk w g t (netc nodes v P)
    | 1 => Blk w g t (netc nodes v (fun j => if j = a * 8 + b then p else P j))
    | _ => Blk w g t (netc nodes v (parted P a b p))
  muts := [12, 17]
  stage := fun j => if j = 12 then some 0 else if j = 17 then some 1 else none
theorem setSt_ok (t : TypeId) (g : Nat) (nodes : Int) (v : Value) (P : Nat → Bool) (a b : Nat) (p : Bool) : (SetSt t g nodes v P a b p).Ok := by
  refine ⟨fun _ _ _ => Just.trans, fun _ _ h => Just.of_grow h, fun _ _ _ h => h, fun k a b h hg => ?_⟩
  rcases k with _ | _ | k <;> exact Blk.grow h hg
theorem set_store {w : World} {t : TypeId} {g : Nat} {nodes : Int} {v : Value} {P : Nat → Bool} {a b : Nat} {p : Bool} {ρ : Operand → Value} {o : Oper} {x y : Operand} (h : Blk w g t (netc nodes v P))
    (h1 : ρ x = .pointer (some ⟨g, 2 + a * 8 + b, none⟩)) (h2 : ρ y = .bool p) (ho : o.op = .store 4 x y) (hi : a * 8 + b < 64) :
    flowUpon Try.prog (fun u w' => u = undef ∧ Just (fun c => c = g) w w' ∧ Blk w' g t (netc nodes v (fun j => if j = a * 8 + b then p else P j))) ((execOp ρ o).run Try.prog w) := by
  obtain ⟨dst, op, ty, pos, after, guard⟩ := o
  simp only at ho
  subst ho
  have f0 := h.frozen (2 + a * 8 + b)
  have c0 := h.cell (2 + a * 8 + b)
  rw [Nat.add_assoc, netc_p _ _ _ hi, ← Nat.add_assoc] at c0
  have hp := h.put (2 + a * 8 + b) (.bool p)
  rw [Nat.add_assoc, netc_setp, ← Nat.add_assoc] at hp
  exact flowUpon_skip (w' := w.setCell ⟨g, 2 + a * 8 + b, none⟩ (.bool p)) (by go_simp) ⟨rfl, just_at w g _ _, hp⟩
theorem set_a (w : World) (g : Nat) (nodes : Int) (v : Value) (P : Nat → Bool) (hB : Blk w g 57 (netc nodes v P)) (a b : Int) (p : Bool) (ha : nodeB nodes a = false) :
    Calls Try.prog 24 #[.pointer (some ⟨g, 0, none⟩), .int .i64 a, .int .i64 b, .bool p] w fun e w' => e = .returned (.int .i64 23) ∧ w = w' := by
  go_enter Try.func24, Try.ntmps24
  go_wp2_with (go_at_call 25; refine (node_any w g nodes _ _ _ hB).mono ?_; rintro e w2 ⟨rfl, hw2⟩; subst hw2)
  go_ret
  exact ⟨rfl, rfl⟩
theorem set_b (w : World) (g : Nat) (nodes : Int) (v : Value) (P : Nat → Bool) (hB : Blk w g 57 (netc nodes v P)) (a b : Int) (p : Bool) (ha : nodeB nodes a = true) (hb : nodeB nodes b = false) :
    Calls Try.prog 24 #[.pointer (some ⟨g, 0, none⟩), .int .i64 a, .int .i64 b, .bool p] w fun e w' => e = .returned (.int .i64 23) ∧ w = w' := by
  go_enter Try.func24, Try.ntmps24
  go_wp2_with (go_at_call 25; refine (node_any w g nodes _ _ _ hB).mono ?_; rintro e w2 ⟨rfl, hw2⟩; subst hw2)
  go_ret
  exact ⟨rfl, rfl⟩
theorem set_c (w : World) (g : Nat) (nodes : Int) (v : Value) (P : Nat → Bool) (hB : Blk w g 57 (netc nodes v P)) (a b : Int) (p : Bool) (ha : nodeB nodes a = true) (hb : nodeB nodes b = true) (hab : a = b) :
    Calls Try.prog 24 #[.pointer (some ⟨g, 0, none⟩), .int .i64 a, .int .i64 b, .bool p] w fun e w' => e = .returned (.int .i64 23) ∧ w = w' := by
  subst hab
  go_enter Try.func24, Try.ntmps24
  go_wp2_with (go_at_call 25; refine (node_any w g nodes _ _ _ hB).mono ?_; rintro e w2 ⟨rfl, hw2⟩; subst hw2)
  go_ret
  exact ⟨rfl, rfl⟩
set_option maxRecDepth 20000 in
theorem set_ok (w : World) (g : Nat) (nodes : Int) (v : Value) (P : Nat → Bool) (hB : Blk w g 57 (netc nodes v P)) (hN : nodes ≤ 8) (a b : Nat) (p : Bool) (ha : (a : Int) < nodes) (hb : (b : Int) < nodes) (hab : a ≠ b) :
    Calls Try.prog 24 #[.pointer (some ⟨g, 0, none⟩), .int .i64 (a : Int), .int .i64 (b : Int), .bool p] w fun e w' => e = .returned (.int .i64 0) ∧ Just (fun c => c = g) w w' ∧ Blk w' g 57 (netc nodes v (parted P a b p)) := by
  have na : nodeB nodes (a : Int) = true := nodeB_yes (by omega)
  have nb : nodeB nodes (b : Int) = true := nodeB_yes (by omega)
  have hne : ((a : Int) == (b : Int)) = false := beq_eq_false_iff_ne.2 (by omega)
  have a8 : ¬ (8 : Int) ≤ (a : Int) := by omega
  have b8 : ¬ (8 : Int) ≤ (b : Int) := by omega
  have a8' : a < 8 := by omega
  have b8' : b < 8 := by omega
  go_enter Try.func24, Try.ntmps24
  go_wp2_with (go_at_call 25; refine (node_any w g nodes _ _ _ hB).mono ?_; rintro e w2 ⟨rfl, hw2⟩; subst hw2)
  refine wp_region_reg rfl ?_
  refine reg_flow (SetSt 57 g nodes v P a b p) (setSt_ok _ _ _ _ _ _ _ _) 0 18 40 [(12, .inl (undef)), (17, .inl (undef))] rfl (by kernel_rfl) (by kernel_rfl) (by kernel_rfl) ?_ (Just.of_grow (Grow.refl _).drew) hB ?_
  · intro x hx φ he
    simp only [List.mem_cons, List.not_mem_nil, or_false] at hx
    rcases hx with rfl | rfl <;> cases he
  intro ops' A' K' T hops hA' hK hT
  refine fl_mv 24 (by rfl) (by decide) (wanted_none (by rfl)) (by rw [hK.out]; rfl) (by rfl) _ (Or.inl (by rfl)) (.pointer (some ⟨g, 0, none⟩)) (by rfl) ?_
  refine fl_mv 25 (by rfl) (by decide) (wanted_none (by rfl)) (by rw [hK.out]; rfl) (by rfl) _ (Or.inl (by rfl)) (.int .i64 (a : Int)) (by rfl) ?_
  refine fl_mv 26 (by rfl) (by decide) (wanted_none (by rfl)) (by rw [hK.out]; rfl) (by rfl) _ (Or.inl (by rfl)) (.int .i64 (b : Int)) (by rfl) ?_
  refine fl_mv 27 (by rfl) (by decide) (wanted_none (by rfl)) (by rw [hK.out]; rfl) (by rfl) _ (Or.inl (by rfl)) (.pointer (some ⟨g, 0, none⟩)) (by rfl) ?_
  refine fl_mv 28 (by rfl) (by decide) (wanted_none (by rfl)) (by rw [hK.out]; rfl) (by rfl) _ (Or.inl (by rfl)) (.int .i64 (b : Int)) (by rfl) ?_
  refine fl_mv 29 (by rfl) (by decide) (wanted_none (by rfl)) (by rw [hK.out]; rfl) (by rfl) _ (Or.inl (by rfl)) (.int .i64 (a : Int)) (by rfl) ?_
  refine fl_mv 30 (by rfl) (by decide) (wanted_none (by rfl)) (by rw [hK.out]; rfl) (by rfl) _ (Or.inl (by rfl)) (.bool p) (by rfl) ?_
  refine fl_mv 31 (by rfl) (by decide) (wanted_none (by rfl)) (by rw [hK.out]; rfl) (by rfl) _ (Or.inl (by rfl)) (.bool p) (by rfl) ?_
  refine fl_op1 32 (by rfl) (by decide) (wanted_none (by rfl)) (by rw [hK.out]; rfl) (by rfl) (.tmp 24) (.pointer (some ⟨g, 0, none⟩)) (by rfl) (.pointer (some ⟨g, 0, none⟩)) (fun ρ h1 kk w1 (hg : Just (fun c => c = g) _ w1) hb hf => by go_simp) ?_
  refine fl_op1 33 (by rfl) (by decide) (wanted_none (by rfl)) (by rw [hK.out]; rfl) (by rfl) (.tmp 32) (.pointer (some ⟨g, 0, none⟩)) (by rfl) (.pointer (some ⟨g, 2, none⟩)) (fun ρ h1 kk w1 (hg : Just (fun c => c = g) _ w1) hb hf => by go_simp) ?_
  refine fl_op2 34 (by rfl) (by decide) (wanted_none (by rfl)) (by rw [hK.out]; rfl) (by rfl) (.tmp 33) (.tmp 25) (.pointer (some ⟨g, 2, none⟩)) (.int .i64 (a : Int)) (by rfl) (by rfl) (.pointer (some ⟨g, 2 + a * 8, none⟩)) (fun ρ h1 h2 kk w1 (hg : Just (fun c => c = g) _ w1) hb hf => by go_simp) ?_
  refine fl_op2 35 (by rfl) (by decide) (wanted_none (by rfl)) (by rw [hK.out]; rfl) (by rfl) (.tmp 34) (.tmp 26) (.pointer (some ⟨g, 2 + a * 8, none⟩)) (.int .i64 (b : Int)) (by rfl) (by rfl) (.pointer (some ⟨g, 2 + a * 8 + b, none⟩)) (fun ρ h1 h2 kk w1 (hg : Just (fun c => c = g) _ w1) hb hf => by go_simp) ?_
  refine fl_do2 (by rfl) (wanted_none (by rfl)) (undef) (by rw [hK.out]; rfl) (.tmp 35) (.tmp 30) (.pointer (some ⟨g, 2 + a * 8 + b, none⟩)) (.bool p) (by rfl) (by rfl) (fun ρ h1 h2 kk w1 (hg : Just (fun c => c = g) _ w1) hb hf => by obtain rfl := before_some 0 (by rfl) hb; have hI := hb.1; refine upon_turn 0 (by rfl) ?_; exact set_store hI h1 h2 rfl (by omega)) ?_
  refine fl_op1 36 (by rfl) (by decide) (wanted_none (by rfl)) (by rw [hK.out]; rfl) (by rfl) (.tmp 27) (.pointer (some ⟨g, 0, none⟩)) (by rfl) (.pointer (some ⟨g, 0, none⟩)) (fun ρ h1 kk w1 (hg : Just (fun c => c = g) _ w1) hb hf => by go_simp) ?_
  refine fl_op1 37 (by rfl) (by decide) (wanted_none (by rfl)) (by rw [hK.out]; rfl) (by rfl) (.tmp 36) (.pointer (some ⟨g, 0, none⟩)) (by rfl) (.pointer (some ⟨g, 2, none⟩)) (fun ρ h1 kk w1 (hg : Just (fun c => c = g) _ w1) hb hf => by go_simp) ?_
  refine fl_op2 38 (by rfl) (by decide) (wanted_none (by rfl)) (by rw [hK.out]; rfl) (by rfl) (.tmp 37) (.tmp 28) (.pointer (some ⟨g, 2, none⟩)) (.int .i64 (b : Int)) (by rfl) (by rfl) (.pointer (some ⟨g, 2 + b * 8, none⟩)) (fun ρ h1 h2 kk w1 (hg : Just (fun c => c = g) _ w1) hb hf => by go_simp) ?_
  refine fl_op2 39 (by rfl) (by decide) (wanted_none (by rfl)) (by rw [hK.out]; rfl) (by rfl) (.tmp 38) (.tmp 29) (.pointer (some ⟨g, 2 + b * 8, none⟩)) (.int .i64 (a : Int)) (by rfl) (by rfl) (.pointer (some ⟨g, 2 + b * 8 + a, none⟩)) (fun ρ h1 h2 kk w1 (hg : Just (fun c => c = g) _ w1) hb hf => by go_simp) ?_
  refine fl_do2 (by rfl) (wanted_none (by rfl)) (undef) (by rw [hK.out]; rfl) (.tmp 39) (.tmp 31) (.pointer (some ⟨g, 2 + b * 8 + a, none⟩)) (.bool p) (by rfl) (by rfl) (fun ρ h1 h2 kk w1 (hg : Just (fun c => c = g) _ w1) hb hf => by obtain rfl := before_some 1 (by rfl) hb; have hI := hb.1; refine upon_turn 1 (by rfl) ?_; exact set_store hI h1 h2 rfl (by omega)) ?_
  refine fl_end (fun _ _ w1 (hg : Just (fun c => c = g) _ w1) hend hfacts => hT _ _ ?_)
  clear hops hA' hK hT
  simp only [putsL, Act.put, List.setIfInBounds_toArray, List.set_cons_zero, List.set_cons_succ]
  refine reg_end ?_
  have hE : Blk w1 g 57 (netc nodes v (parted P a b p)) := hend
  clear hend hfacts
  go_wp2_with fail
  go_ret
  exact ⟨rfl, hg, hE⟩
theorem set_raw (w : World) (g : Nat) (nodes : Int) (v : Value) (P : Nat → Bool) (hB : Blk w g 57 (netc nodes v P)) (hN : nodes ≤ 8) (a b : Int) (p : Bool) :
    Calls Try.prog 24 #[.pointer (some ⟨g, 0, none⟩), .int .i64 a, .int .i64 b, .bool p] w fun e w' => e = .returned (.int .i64 (setE nodes a b)) ∧ Just (fun c => c = g) w w' ∧ Blk w' g 57 (netc nodes v (setP nodes a b p P)) := by
  have no : Calls Try.prog 24 #[.pointer (some ⟨g, 0, none⟩), .int .i64 a, .int .i64 b, .bool p] w (fun e w' => e = .returned (.int .i64 23) ∧ w = w') → Calls Try.prog 24 #[.pointer (some ⟨g, 0, none⟩), .int .i64 a, .int .i64 b, .bool p] w fun e w' => e = .returned (.int .i64 23) ∧ Just (fun c => c = g) w w' ∧ Blk w' g 57 (netc nodes v P) :=
    fun h => h.mono fun _ _ ⟨he, hw⟩ => ⟨he, hw ▸ Just.of_grow (Grow.refl _), hw ▸ hB⟩
  unfold setP setE
  cases ha : nodeB nodes a with
  | false => simp only [if_true]; exact no (set_a w g nodes v P hB a b p ha)
  | true =>
    cases hb : nodeB nodes b with
    | false => simp only [Bool.true_eq_false, if_true, if_false]; exact no (set_b w g nodes v P hB a b p ha hb)
    | true =>
      by_cases hab : a = b
      · simp only [Bool.true_eq_false, if_false, if_pos hab]; exact no (set_c w g nodes v P hB a b p ha hb hab)
      · simp only [Bool.true_eq_false, if_false, if_neg hab, if_true]
        obtain ⟨a0, a1⟩ := nodeB_is ha
        obtain ⟨b0, b1⟩ := nodeB_is hb
        have := set_ok w g nodes v P hB hN a.toNat b.toNat p (by omega) (by omega) (by omega)
        rwa [show ((a.toNat : Nat) : Int) = a by omega, show ((b.toNat : Nat) : Int) = b by omega] at this
theorem net_set {g : Nat} {nodes : Int} {l : List Lb} {P P' : Nat → Bool} {w : World} {V : Nat → Prop} {f : FuncId} {args : Array Value} {E : Int} (hQ : NetAt g nodes l P w V)
    (h : ∀ v, Blk w g 57 (netc nodes v P) → nodes ≤ 8 → Calls Try.prog f args w fun e w' => e = .returned (.int .i64 E) ∧ Just (fun c => c = g) w w' ∧ Blk w' g 57 (netc nodes v P')) :
    Calls Try.prog f args w fun e w' => e = .returned (.int .i64 E) ∧ NetAt g nodes l P' w' (Ext V w w') ∧ Just V w w' := by
  obtain ⟨h1, v, q, R, D, hql, h64, hN, hInv, hB, hRow, h6, h7, h8⟩ := hQ
  refine (h v hB hN.2).mono fun e w' ⟨he, hj, hB'⟩ => ⟨he, ⟨.inl h1, v, q, R, D, hql, h64, hN, hInv, hB', hRow.just hj fun b hb e => (h7 b hb).2.1 e, fun b hb => (h6 b hb).just hj fun x hx e => (h8 x hx).2 e, fun b hb => ⟨.inl (h7 b hb).1, (h7 b hb).2⟩, fun b hb => ⟨.inl (h8 b hb).1, (h8 b hb).2⟩⟩, hj.imp fun x hx => by rw [show x = g from hx]; exact h1⟩
theorem Part_any (w : World) (g : Nat) (nodes : Int) (l : List Lb) (P : Nat → Bool) (a b : Int) :
    Turns Try.prog 11 #[.pointer (some ⟨g, 0, none⟩), .int .i64 a, .int .i64 b] (fun e => e = .returned (.int .i64 (setE nodes a b))) (NetAt g nodes l P) (NetAt g nodes l (setP nodes a b true P)) w := by
  intro V hQ hV
  refine net_set hQ fun v hB hN => ?_
  go_enter Try.func11, Try.ntmps11
  go_wp2_with (go_at_call 24; refine (set_raw w g nodes v P hB hN a b true).mono ?_; rintro e w2 ⟨rfl, hj, hB2⟩)
  go_ret
  exact ⟨rfl, hj, hB2⟩
theorem Heal_any (w : World) (g : Nat) (nodes : Int) (l : List Lb) (P : Nat → Bool) (a b : Int) :
    Turns Try.prog 14 #[.pointer (some ⟨g, 0, none⟩), .int .i64 a, .int .i64 b] (fun e => e = .returned (.int .i64 (setE nodes a b))) (NetAt g nodes l P) (NetAt g nodes l (setP nodes a b false P)) w := by
  intro V hQ hV
  refine net_set hQ fun v hB hN => ?_
  go_enter Try.func14, Try.ntmps14
  go_wp2_with (go_at_call 24; refine (set_raw w g nodes v P hB hN a b false).mono ?_; rintro e w2 ⟨rfl, hj, hB2⟩)
  go_ret
  exact ⟨rfl, hj, hB2⟩
end Go.Proofs.Ytacigekkfgeipaa
