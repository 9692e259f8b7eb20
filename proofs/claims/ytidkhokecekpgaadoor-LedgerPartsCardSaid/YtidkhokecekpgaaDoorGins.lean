/- slices.insertionSortCmpFunc over deltas, by ledger.Top's comparison: its walk. -/
import Derived.Test.YtidkhokecekpgaaDoorGcmp
namespace Go.Proofs.YtidkhokecekpgaaDoor
open Go.RowKit Go.Hop
theorem del_store {w : World} {R : Nat → Prop} {g n c k m : Nat} {h : List Dl} {a : Dl} {ρ : Operand → Value} {o : Oper} {x y : Operand} (hI : Own w R 30 2 (.slice (some ⟨g, 0, none⟩) n c) m (dcells h)) (hk : k < h.length)
    (h1 : ρ x = .pointer (some ⟨g, k * 2, none⟩)) (h2 : ρ y = .agg #[.string a.1, .int .u64 (a.2 : Int)]) (ho : o.op = .store 30 x y) :
    flowUpon Tryd.prog (fun u w' => u = undef ∧ Just R w w' ∧ Own w' R 30 2 (.slice (some ⟨g, 0, none⟩) n c) m (dcells (h.set k a))) ((execOp ρ o).run Tryd.prog w) := by
  obtain ⟨dst, op, ty, pos, after, guard⟩ := o
  simp only at ho
  subst ho
  obtain ⟨c0, c1, f0, f1, hput, _⟩ := del_own hI hk
  obtain ⟨p1, p2⟩ := hput a
  exact flowUpon_skip (w' := (w.setCell ⟨g, k * 2, none⟩ (.string a.1)).setCell ⟨g, k * 2 + 1, none⟩ (.int .u64 (a.2 : Int))) (by go_simp) ⟨rfl, p2, p1⟩
def SwD (R : Nat → Prop) (v : Value) (m : Nat) (h : List Dl) (i j : Nat) (hi : i < h.length) (hj : j < h.length) : Stages where
  G := Just R
  T := fun _ => Just R
  I := fun k w => match k with
    | 0 => Own w R 30 2 v m (dcells h)
    | 1 => Own w R 30 2 v m (dcells (h.set i h[j]))
    | _ => Own w R 30 2 v m (dcells ((h.set i h[j]).set j h[i]))
  muts := [15, 17]
  stage := fun q => if q = 9 then some 0 else if q = 13 then some 0 else if q = 15 then some 0 else if q = 17 then some 1 else none
theorem swD_ok {R : Nat → Prop} {v : Value} {m : Nat} {h : List Dl} {i j : Nat} {hi : i < h.length} {hj : j < h.length} : (SwD R v m h i j hi hj).Ok := by
  refine ⟨fun _ _ _ => Just.trans, fun _ _ h => Just.of_grow h, fun _ _ _ h => h, fun k a b hh hg => ?_⟩
  rcases k with _ | _ | k
  · exact Own.grows hh hg
  · exact Own.grows hh hg
  · exact Own.grows hh hg
/-- an order, up to place i but for the one at j, which is no further back than all behind it -/
structure InsAt (h : List Dl) (i j : Nat) : Prop where
  rest : ∀ p q (hp : p < h.length) (hq : q < h.length), p < q → q ≤ i → p ≠ j → q ≠ j → aheadB h[q] h[p] = false
  behind : ∀ q (hj : j < h.length) (hq : q < h.length), j < q → q ≤ i → aheadB h[q] h[j] = false
def SrtTo (h : List Dl) (i : Nat) : Prop := ∀ p q (hp : p < h.length) (hq : q < h.length), p < q → q < i → aheadB h[q] h[p] = false
theorem SrtTo.start {h : List Dl} {i : Nat} (hs : SrtTo h i) : InsAt h i i := ⟨fun p q hp hq hpq hqi hpi hqi' => hs p q hp hq hpq (by omega), fun q hj hq h1 h2 => by omega⟩
theorem InsAt.first {h : List Dl} {i : Nat} (hI : InsAt h i 0) : SrtTo h (i + 1) := fun p q hp hq hpq hqi => by
  by_cases h0 : p = 0
  · subst h0; exact hI.behind q hp hq hpq (by omega)
  · exact hI.rest p q hp hq hpq (by omega) h0 (by omega)
theorem InsAt.stop {h : List Dl} {i j j1 : Nat} (hI : InsAt h i j) (hj : j = j1 + 1) (hjl : j < h.length) (hs : aheadB h[j] (h[j1]'(by omega)) = false) : SrtTo h (i + 1) := fun p q hp hq hpq hqi => by
  by_cases hqj : q = j
  · subst hqj
    by_cases hp1 : p = j1
    · subst hp1; exact hs
    · exact ahead_ntr hs (hI.rest p j1 hp (by omega) (by omega) (by omega) (by omega) (by omega))
  · by_cases hpj : p = j
    · subst hpj; exact hI.behind q hp hq hpq (by omega)
    · exact hI.rest p q hp hq hpq (by omega) hpj hqj
theorem InsAt.swap {h : List Dl} {i j j1 : Nat} (hI : InsAt h i j) (hj : j = j1 + 1) (hji : j ≤ i) (hjl : j < h.length) (hj1 : j1 < h.length) (hs : aheadB h[j] h[j1] = true) : InsAt ((h.set j h[j1]).set j1 h[j]) i j1 := by
  have hg : ∀ x (hx : x < ((h.set j h[j1]).set j1 h[j]).length), ((h.set j h[j1]).set j1 h[j])[x] = if j1 = x then h[j] else if j = x then h[j1] else h[x]'(by simpa using hx) := fun x hx => by
    rw [List.getElem_set]
    split
    · rfl
    · rw [List.getElem_set]
  have hl : ((h.set j h[j1]).set j1 h[j]).length = h.length := by simp
  refine ⟨fun p q hp hq hpq hqi hp1 hq1 => ?_, fun q hj' hq hjq hqi => ?_⟩
  · rw [hg, hg, if_neg (Ne.symm hq1), if_neg (Ne.symm hp1)]
    by_cases hqj : j = q
    · rw [if_pos hqj, if_neg (by omega)]
      exact hI.rest p j1 (by omega) hj1 (by omega) (by omega) (by omega) (by omega)
    · rw [if_neg hqj]
      by_cases hpj : j = p
      · rw [if_pos hpj]
        exact hI.rest j1 q hj1 (by omega) (by omega) hqi (by omega) (by omega)
      · rw [if_neg hpj]
        exact hI.rest p q (by omega) (by omega) hpq hqi (by omega) (by omega)
  · rw [hg, hg, if_pos rfl, if_neg (by omega)]
    by_cases hqj : j = q
    · rw [if_pos hqj]; exact ahead_asym hs
    · rw [if_neg hqj]
      exact hI.behind q hjl (by omega) (by omega) hqi
set_option maxRecDepth 100000 in
set_option maxHeartbeats 2000000 in
theorem insD_any (w : World) (V : Nat → Prop) (g n c : Nat) (l : List Dl) (hO : Own w V 30 2 (.slice (some ⟨g, 0, none⟩) n c) n (dcells l)) (hn : n ≤ 1000000) :
    Calls Tryd.prog 53 #[.slice (some ⟨g, 0, none⟩) n c, .int .i64 0, .int .i64 (n : Int), .func (.func 23) #[] #[]] w fun e w' => e = .returned (.tuple #[]) ∧ ∃ r : List Dl, TopD r l ∧ Own w' V 30 2 (.slice (some ⟨g, 0, none⟩) n c) n (dcells r) ∧ Just V w w' := by
  have hll : l.length = n := by have := hO.1; rw [dcells_len] at this; omega
  have HLL := Lib.hid hll
  clear hll
  go_enter Tryd.func53, Tryd.ntmps53
  go_wp2_with fail
  go_loopw [8] (fun i wr => ∃ (i' : Nat) (h : List Dl), 1 ≤ i' ∧ (i' ≤ n ∨ i' = 1) ∧ i = .int .i64 (i' : Int) ∧ h.Perm l ∧ SrtTo h i' ∧ Own wr V 30 2 (.slice (some ⟨g, 0, none⟩) n c) n (dcells h) ∧ Just V w wr) (fun i _ => n - (intOf i).toNat)
  case atStart => exact ⟨1, l, by omega, .inr rfl, rfl, List.Perm.refl _, fun p q _ _ h1 h2 => by omega, hO, Just.of_grow (Grow.refl _)⟩
  case round =>
    clear hO
    obtain ⟨i, h, hi1, hin, rfl, hp, hs, hO, hj⟩ := hrel
    by_cases hi : i < n
    · have hd : decide ((i : Int) < (n : Int)) = true := decide_eq_true (by omega)
      have HS0 := Lib.hid hs.start
      clear hs
      obtain ⟨wo, rfl⟩ : ∃ wo : World, wo = wr := ⟨_, rfl⟩
      go_wp2_with fail
      go_loopw [9] (fun j wr => ∃ (j' : Nat) (h : List Dl), j' ≤ i ∧ j = .int .i64 (j' : Int) ∧ h.Perm l ∧ Hid (InsAt h i j') ∧ Own wr V 30 2 (.slice (some ⟨g, 0, none⟩) n c) n (dcells h) ∧ Just V w wr) (fun j _ => (intOf j).toNat)
      case atStart => exact ⟨i, h, Nat.le_refl _, rfl, hp, HS0, hO, hj⟩
      case round =>
        clear hO hj hp HS0 h
        obtain ⟨j, h, hji, rfl, hp, HS, hO, hj⟩ := hrel
        have hhl : h.length = n := by rw [hp.length_eq]; exact HLL.out
        have HHL := Lib.hid hhl
        clear hhl
        by_cases hj0 : j = 0
        · have hd1 : decide ((0 : Int) < (j : Int)) = false := decide_eq_false (by omega)
          have hj0' : ¬ 0 < j := by omega
          have HJ0 := Lib.hid hj0
          clear hj0
          go_wp2_with fail
          refine wp_region_flow 17 53 [] rfl rfl (by kernel_rfl) (by kernel_rfl) (by kernel_rfl) ?_ ?_
          · intro x hx φ he
            cases hx
          intro ops' A' K' T hops hA' hK hT
          refine fl_mv 18 (by rfl) (by decide) (wanted_none (by rfl)) (by rw [hK.out]; rfl) (by rfl) _ (Or.inl (by rfl)) (.int .i64 (j : Int)) (by rfl) ?_
          refine fl_mv 19 (by rfl) (by decide) (wanted_none (by rfl)) (by rw [hK.out]; rfl) (by rfl) _ (Or.inl (by rfl)) (.int .i64 0) (by rfl) ?_
          refine fl_op2 20 (by rfl) (by decide) (wanted_none (by rfl)) (by rw [hK.out]; rfl) (by rfl) (.tmp 18) (.tmp 19) (.int .i64 (j : Int)) (.int .i64 0) (by rfl) (by rfl) (.bool false) (fun ρ h1 h2 kk w1 (hg : Grow _ w1) hb hf => by go_simp) ?_
          refine fl_mv 21 (by rfl) (by decide) (wanted_none (by rfl)) (by rw [hK.out]; rfl) (by rfl) _ (Or.inl (by rfl)) (.bool false) (by rfl) ?_
          refine fl_skip 22 (by rfl) (by decide) (wanted_if hops 3 true (by rfl) 21 (by rfl) false (by rfl)) (by rfl) ?_
          refine fl_skip 23 (by rfl) (by decide) (wanted_if hops 3 true (by rfl) 21 (by rfl) false (by rfl)) (by rfl) ?_
          refine fl_skip 24 (by rfl) (by decide) (wanted_if hops 3 true (by rfl) 21 (by rfl) false (by rfl)) (by rfl) ?_
          refine fl_skip 25 (by rfl) (by decide) (wanted_if hops 3 true (by rfl) 21 (by rfl) false (by rfl)) (by rfl) ?_
          refine fl_skip 26 (by rfl) (by decide) (wanted_if hops 3 true (by rfl) 21 (by rfl) false (by rfl)) (by rfl) ?_
          refine fl_skip 27 (by rfl) (by decide) (wanted_if hops 3 true (by rfl) 21 (by rfl) false (by rfl)) (by rfl) ?_
          refine fl_skip 28 (by rfl) (by decide) (wanted_if hops 3 true (by rfl) 21 (by rfl) false (by rfl)) (by rfl) ?_
          refine fl_skip 29 (by rfl) (by decide) (wanted_if hops 3 true (by rfl) 21 (by rfl) false (by rfl)) (by rfl) ?_
          refine fl_skip 30 (by rfl) (by decide) (wanted_if hops 3 true (by rfl) 21 (by rfl) false (by rfl)) (by rfl) ?_
          refine fl_skip 31 (by rfl) (by decide) (wanted_if hops 3 true (by rfl) 21 (by rfl) false (by rfl)) (by rfl) ?_
          refine fl_skip 32 (by rfl) (by decide) (wanted_if hops 3 true (by rfl) 21 (by rfl) false (by rfl)) (by rfl) ?_
          refine fl_skip 33 (by rfl) (by decide) (wanted_if hops 3 true (by rfl) 21 (by rfl) false (by rfl)) (by rfl) ?_
          refine fl_pick 34 (by rfl) (by decide) (wanted_none (by rfl)) (by rw [hK.out]; rfl) (by rfl) _ _ _ (by rfl) false (by rfl) (.bool false) (by rfl) ?_
          refine fl_end (fun _ _ w1 (hg : Grow _ w1) _ hfacts => hT _ _ ?_)
          clear hops hA' hK hT
          simp only [putsL, Act.put, List.setIfInBounds_toArray, List.set_cons_zero, List.set_cons_succ, List.drop_succ_cons, List.drop_zero]
          clear hfacts
          have hO6 := hO.grows hg
          have hj6 := hj.trans (Just.of_grow hg)
          go_wp2_with fail
          go_roundw
          case rel =>
            have hst := HS.out
            rw [HJ0.out] at hst
            exact ⟨i + 1, h, by omega, .inl (by omega), by go_num, hp, hst.first, hO6, hj6⟩
          case measure => simp [intOf]; omega
        · have hd1 : decide ((0 : Int) < (j : Int)) = true := decide_eq_true (by omega)
          have hj0' : 0 < j := by omega
          obtain ⟨j1, HJ⟩ : ∃ j1 : Nat, Hid (j = j1 + 1) := ⟨j - 1, Lib.hid (by omega)⟩
          have hj1n : j1 < n := by have := HJ.out; omega
          have hjn : j < n := by omega
          have hij : (j : Int) - 1 = (j1 : Int) := by have := HJ.out; omega
          have hwj : IntKind.i64.wrap (j1 : Int) = (j1 : Int) := by rw [IntKind.wrap_i64]; omega
          have hw64 : wrap64 (j1 : Int) = (j1 : Int) := by unfold wrap64; omega
          have hjn' : ¬ n ≤ j := by omega
          have hj1n' : ¬ n ≤ j1 := by omega
          have hjneg : ¬ (j1 : Int) < 0 := by omega
          have hjl : j < h.length := by rw [HHL.out]; exact hjn
          have hj1l : j1 < h.length := by rw [HHL.out]; exact hj1n
          clear hj0
          have hx0 := fun w1 (hg : Grow wr w1) => (del_own (hO.grows hg) hjl).1
          have hx1 := fun w1 (hg : Grow wr w1) => (del_own (hO.grows hg) hjl).2.1
          have hy0 := fun w1 (hg : Grow wr w1) => (del_own (hO.grows hg) hj1l).1
          have hy1 := fun w1 (hg : Grow wr w1) => (del_own (hO.grows hg) hj1l).2.1
          have HSW : Hid (aheadB h[j] h[j1] = true → InsAt ((h.set j h[j1]).set j1 h[j]) i j1) := Lib.hid fun hh => HS.out.swap HJ.out hji hjl hj1l hh
          have HST : Hid (aheadB h[j] h[j1] = false → SrtTo h (i + 1)) := Lib.hid fun hh => HS.out.stop HJ.out hjl hh
          obtain ⟨x, HX⟩ : ∃ x : Dl, Hid (x = h[j]) := ⟨h[j], Lib.hid rfl⟩
          obtain ⟨y, HY⟩ : ∃ y : Dl, Hid (y = h[j1]) := ⟨h[j1], Lib.hid rfl⟩
          rw [← HX.out] at hx0 hx1
          rw [← HY.out] at hy0 hy1
          have hcl := cmpD_lt x y
          cases hah : aheadB x y with
          | true =>
            rw [hah] at hcl
            have HSW2 := Lib.hid (HSW.out (by rw [← HX.out, ← HY.out]; exact hah))
            clear hah HSW HST
            go_wp2_with fail
            refine wp_region_flow 17 53 [(14, .inl (.int .i64 (cmpD x y)))] rfl rfl (by kernel_rfl) (by kernel_rfl) (by kernel_rfl) ?_ ?_
            · intro x hx φ he
              simp only [List.mem_cons, List.not_mem_nil, or_false] at hx
              rcases hx with rfl <;> cases he
            intro ops' A' K' T hops hA' hK hT
            refine fl_mv 18 (by rfl) (by decide) (wanted_none (by rfl)) (by rw [hK.out]; rfl) (by rfl) _ (Or.inl (by rfl)) (.int .i64 (j : Int)) (by rfl) ?_
            refine fl_mv 19 (by rfl) (by decide) (wanted_none (by rfl)) (by rw [hK.out]; rfl) (by rfl) _ (Or.inl (by rfl)) (.int .i64 0) (by rfl) ?_
            refine fl_op2 20 (by rfl) (by decide) (wanted_none (by rfl)) (by rw [hK.out]; rfl) (by rfl) (.tmp 18) (.tmp 19) (.int .i64 (j : Int)) (.int .i64 0) (by rfl) (by rfl) (.bool true) (fun ρ h1 h2 kk w1 (hg : Grow _ w1) hb hf => by go_simp) ?_
            refine fl_mv 21 (by rfl) (by decide) (wanted_none (by rfl)) (by rw [hK.out]; rfl) (by rfl) _ (Or.inl (by rfl)) (.bool true) (by rfl) ?_
            refine fl_mv 22 (by rfl) (by decide) (wanted_if hops 3 true (by rfl) 21 (by rfl) true (by rfl)) (by rw [hK.out]; rfl) (by rfl) _ (Or.inl (by rfl)) (.func (.func 23) #[] #[]) (by rfl) ?_
            refine fl_mv 23 (by rfl) (by decide) (wanted_if hops 3 true (by rfl) 21 (by rfl) true (by rfl)) (by rw [hK.out]; rfl) (by rfl) _ (Or.inl (by rfl)) (.slice (some ⟨g, 0, none⟩) n c) (by rfl) ?_
            refine fl_mv 24 (by rfl) (by decide) (wanted_if hops 3 true (by rfl) 21 (by rfl) true (by rfl)) (by rw [hK.out]; rfl) (by rfl) _ (Or.inl (by rfl)) (.int .i64 (j : Int)) (by rfl) ?_
            refine fl_op2 25 (by rfl) (by decide) (wanted_if hops 3 true (by rfl) 21 (by rfl) true (by rfl)) (by rw [hK.out]; rfl) (by rfl) (.tmp 23) (.tmp 24) (.slice (some ⟨g, 0, none⟩) n c) (.int .i64 (j : Int)) (by rfl) (by rfl) (.pointer (some ⟨g, j * 2, none⟩)) (fun ρ h1 h2 kk w1 (hg : Grow _ w1) hb hf => by go_simp; try (intro hlt; omega)) ?_
            refine fl_op1 26 (by rfl) (by decide) (wanted_if hops 3 true (by rfl) 21 (by rfl) true (by rfl)) (by rw [hK.out]; rfl) (by rfl) (.tmp 25) (.pointer (some ⟨g, j * 2, none⟩)) (by rfl) (.agg #[.string x.1, .int .u64 (x.2 : Int)]) (fun ρ h1 kk w1 (hg : Grow _ w1) hb hf => by have q0 := hx0 w1 hg; have q1 := hx1 w1 hg; go_simp) ?_
            refine fl_mv 27 (by rfl) (by decide) (wanted_if hops 3 true (by rfl) 21 (by rfl) true (by rfl)) (by rw [hK.out]; rfl) (by rfl) _ (Or.inl (by rfl)) (.slice (some ⟨g, 0, none⟩) n c) (by rfl) ?_
            refine fl_mv 28 (by rfl) (by decide) (wanted_if hops 3 true (by rfl) 21 (by rfl) true (by rfl)) (by rw [hK.out]; rfl) (by rfl) _ (Or.inl (by rfl)) (.int .i64 (j : Int)) (by rfl) ?_
            refine fl_op2 29 (by rfl) (by decide) (wanted_if hops 3 true (by rfl) 21 (by rfl) true (by rfl)) (by rw [hK.out]; rfl) (by rfl) (.tmp 28) (.const (.int .i64 1)) (.int .i64 (j : Int)) (.int .i64 1) (by rfl) (by rfl) (.int .i64 (j1 : Int)) (fun ρ h1 h2 kk w1 (hg : Grow _ w1) hb hf => by go_simp) ?_
            refine fl_op2 30 (by rfl) (by decide) (wanted_if hops 3 true (by rfl) 21 (by rfl) true (by rfl)) (by rw [hK.out]; rfl) (by rfl) (.tmp 27) (.tmp 29) (.slice (some ⟨g, 0, none⟩) n c) (.int .i64 (j1 : Int)) (by rfl) (by rfl) (.pointer (some ⟨g, j1 * 2, none⟩)) (fun ρ h1 h2 kk w1 (hg : Grow _ w1) hb hf => by go_simp; try (intro hlt; omega)) ?_
            refine fl_op1 31 (by rfl) (by decide) (wanted_if hops 3 true (by rfl) 21 (by rfl) true (by rfl)) (by rw [hK.out]; rfl) (by rfl) (.tmp 30) (.pointer (some ⟨g, j1 * 2, none⟩)) (by rfl) (.agg #[.string y.1, .int .u64 (y.2 : Int)]) (fun ρ h1 kk w1 (hg : Grow _ w1) hb hf => by have q0 := hy0 w1 hg; have q1 := hy1 w1 hg; go_simp) ?_
            refine fl_val 32 (by rfl) (by decide) (wanted_if hops 3 true (by rfl) 21 (by rfl) true (by rfl)) (.int .i64 (cmpD x y)) (by rw [hK.out]; rfl) (fun kk w1 (hg : Grow _ w1) hb hf => by refine upon_behind (by rfl) ?_; exact cmp_flow (f := .tmp 22) (a := .tmp 26) (b := .tmp 31) rfl rfl rfl rfl) ?_
            refine fl_op2 33 (by rfl) (by decide) (wanted_if hops 3 true (by rfl) 21 (by rfl) true (by rfl)) (by rw [hK.out]; rfl) (by rfl) (.tmp 32) (.const (.int .i64 0)) (.int .i64 (cmpD x y)) (.int .i64 0) (by rfl) (by rfl) (.bool true) (fun ρ h1 h2 kk w1 (hg : Grow _ w1) hb hf => by go_simp) ?_
            refine fl_pick 34 (by rfl) (by decide) (wanted_none (by rfl)) (by rw [hK.out]; rfl) (by rfl) _ _ _ (by rfl) true (by rfl) (.bool true) (by rfl) ?_
            refine fl_end (fun _ _ w1 (hg : Grow _ w1) _ hfacts => hT _ _ ?_)
            clear hops hA' hK hT
            simp only [putsL, Act.put, List.setIfInBounds_toArray, List.set_cons_zero, List.set_cons_succ, List.drop_succ_cons, List.drop_zero]
            clear hfacts hx0 hx1 hy0 hy1 hcl
            have hO3 := hO.grows hg
            have hj3 := hj.trans (Just.of_grow hg)
            clear hO hj hg HX HY
            obtain ⟨w3, rfl⟩ : ∃ w3 : World, w3 = w1 := ⟨_, rfl⟩
            go_wp2_with fail
            refine wp_region_reg rfl ?_
            refine reg_flow (SwD V (.slice (some ⟨g, 0, none⟩) n c) n h j j1 hjl hj1l) swD_ok 0 18 53 [(15, .inl (undef)), (17, .inl (undef))] rfl (by kernel_rfl) (by kernel_rfl) (by kernel_rfl) ?_ (Just.of_grow (Grow.refl _).drew) hO3 ?_
            · intro x hx φ he
              simp only [List.mem_cons, List.not_mem_nil, or_false] at hx
              rcases hx with rfl | rfl <;> cases he
            intro ops' A' K' T hops hA' hK hT
            refine fl_mv 37 (by rfl) (by decide) (wanted_none (by rfl)) (by rw [hK.out]; rfl) (by rfl) _ (Or.inl (by rfl)) (.slice (some ⟨g, 0, none⟩) n c) (by rfl) ?_
            refine fl_mv 38 (by rfl) (by decide) (wanted_none (by rfl)) (by rw [hK.out]; rfl) (by rfl) _ (Or.inl (by rfl)) (.int .i64 (j : Int)) (by rfl) ?_
            refine fl_mv 39 (by rfl) (by decide) (wanted_none (by rfl)) (by rw [hK.out]; rfl) (by rfl) _ (Or.inl (by rfl)) (.slice (some ⟨g, 0, none⟩) n c) (by rfl) ?_
            refine fl_mv 40 (by rfl) (by decide) (wanted_none (by rfl)) (by rw [hK.out]; rfl) (by rfl) _ (Or.inl (by rfl)) (.int .i64 (j : Int)) (by rfl) ?_
            refine fl_op2 41 (by rfl) (by decide) (wanted_none (by rfl)) (by rw [hK.out]; rfl) (by rfl) (.tmp 40) (.const (.int .i64 1)) (.int .i64 (j : Int)) (.int .i64 1) (by rfl) (by rfl) (.int .i64 (j1 : Int)) (fun ρ h1 h2 kk w1 (hg : Just V _ w1) hb hf => by go_simp) ?_
            refine fl_mv 42 (by rfl) (by decide) (wanted_none (by rfl)) (by rw [hK.out]; rfl) (by rfl) _ (Or.inl (by rfl)) (.slice (some ⟨g, 0, none⟩) n c) (by rfl) ?_
            refine fl_mv 43 (by rfl) (by decide) (wanted_none (by rfl)) (by rw [hK.out]; rfl) (by rfl) _ (Or.inl (by rfl)) (.int .i64 (j : Int)) (by rfl) ?_
            refine fl_op2 44 (by rfl) (by decide) (wanted_none (by rfl)) (by rw [hK.out]; rfl) (by rfl) (.tmp 43) (.const (.int .i64 1)) (.int .i64 (j : Int)) (.int .i64 1) (by rfl) (by rfl) (.int .i64 (j1 : Int)) (fun ρ h1 h2 kk w1 (hg : Just V _ w1) hb hf => by go_simp) ?_
            refine fl_op2 45 (by rfl) (by decide) (wanted_none (by rfl)) (by rw [hK.out]; rfl) (by rfl) (.tmp 42) (.tmp 44) (.slice (some ⟨g, 0, none⟩) n c) (.int .i64 (j1 : Int)) (by rfl) (by rfl) (.pointer (some ⟨g, j1 * 2, none⟩)) (fun ρ h1 h2 kk w1 (hg : Just V _ w1) hb hf => by go_simp; try (intro hlt; omega)) ?_
            refine fl_op1 46 (by rfl) (by decide) (wanted_none (by rfl)) (by rw [hK.out]; rfl) (by rfl) (.tmp 45) (.pointer (some ⟨g, j1 * 2, none⟩)) (by rfl) (.agg #[.string h[j1].1, .int .u64 (h[j1].2 : Int)]) (fun ρ h1 kk w1 (hg : Just V _ w1) hb hf => by obtain rfl := before_some 0 (by rfl) hb; have hI := hb.1; have q := del_own hI hj1l; have c0 := q.1; have c1 := q.2.1; go_simp) ?_
            refine fl_mv 47 (by rfl) (by decide) (wanted_none (by rfl)) (by rw [hK.out]; rfl) (by rfl) _ (Or.inl (by rfl)) (.slice (some ⟨g, 0, none⟩) n c) (by rfl) ?_
            refine fl_mv 48 (by rfl) (by decide) (wanted_none (by rfl)) (by rw [hK.out]; rfl) (by rfl) _ (Or.inl (by rfl)) (.int .i64 (j : Int)) (by rfl) ?_
            refine fl_op2 49 (by rfl) (by decide) (wanted_none (by rfl)) (by rw [hK.out]; rfl) (by rfl) (.tmp 47) (.tmp 48) (.slice (some ⟨g, 0, none⟩) n c) (.int .i64 (j : Int)) (by rfl) (by rfl) (.pointer (some ⟨g, j * 2, none⟩)) (fun ρ h1 h2 kk w1 (hg : Just V _ w1) hb hf => by go_simp; try (intro hlt; omega)) ?_
            refine fl_op1 50 (by rfl) (by decide) (wanted_none (by rfl)) (by rw [hK.out]; rfl) (by rfl) (.tmp 49) (.pointer (some ⟨g, j * 2, none⟩)) (by rfl) (.agg #[.string h[j].1, .int .u64 (h[j].2 : Int)]) (fun ρ h1 kk w1 (hg : Just V _ w1) hb hf => by obtain rfl := before_some 0 (by rfl) hb; have hI := hb.1; have q := del_own hI hjl; have c0 := q.1; have c1 := q.2.1; go_simp) ?_
            refine fl_op2 51 (by rfl) (by decide) (wanted_none (by rfl)) (by rw [hK.out]; rfl) (by rfl) (.tmp 37) (.tmp 38) (.slice (some ⟨g, 0, none⟩) n c) (.int .i64 (j : Int)) (by rfl) (by rfl) (.pointer (some ⟨g, j * 2, none⟩)) (fun ρ h1 h2 kk w1 (hg : Just V _ w1) hb hf => by go_simp; try (intro hlt; omega)) ?_
            refine fl_do2 (by rfl) (wanted_none (by rfl)) (undef) (by rw [hK.out]; rfl) (.tmp 51) (.tmp 46) (.pointer (some ⟨g, j * 2, none⟩)) (.agg #[.string h[j1].1, .int .u64 (h[j1].2 : Int)]) (by rfl) (by rfl) (fun ρ h1 h2 kk w1 (hg : Just V _ w1) hb hf => by obtain rfl := before_some 0 (by rfl) hb; have hI := hb.1; refine upon_turn 0 (by rfl) ?_; exact del_store hI hjl h1 h2 rfl) ?_
            refine fl_op2 52 (by rfl) (by decide) (wanted_none (by rfl)) (by rw [hK.out]; rfl) (by rfl) (.tmp 39) (.tmp 41) (.slice (some ⟨g, 0, none⟩) n c) (.int .i64 (j1 : Int)) (by rfl) (by rfl) (.pointer (some ⟨g, j1 * 2, none⟩)) (fun ρ h1 h2 kk w1 (hg : Just V _ w1) hb hf => by go_simp; try (intro hlt; omega)) ?_
            refine fl_do2 (by rfl) (wanted_none (by rfl)) (undef) (by rw [hK.out]; rfl) (.tmp 52) (.tmp 50) (.pointer (some ⟨g, j1 * 2, none⟩)) (.agg #[.string h[j].1, .int .u64 (h[j].2 : Int)]) (by rfl) (by rfl) (fun ρ h1 h2 kk w1 (hg : Just V _ w1) hb hf => by obtain rfl := before_some 1 (by rfl) hb; have hI := hb.1; refine upon_turn 1 (by rfl) ?_; exact del_store hI (by rw [List.length_set]; exact hj1l) h1 h2 rfl) ?_
            refine fl_end (fun _ _ w1 (hg : Just V _ w1) hend hfacts => hT _ _ ?_)
            clear hops hA' hK hT
            simp only [putsL, Act.put, List.setIfInBounds_toArray, List.set_cons_zero, List.set_cons_succ]
            have hO4 : Own w1 V 30 2 (.slice (some ⟨g, 0, none⟩) n c) n (dcells ((h.set j h[j1]).set j1 h[j])) := hend
            clear hend hfacts hO3
            have hj4 := hj3.trans hg
            have hp4 : ((h.set j h[j1]).set j1 h[j]).Perm l := (List.set_set_perm hjl hj1l).trans hp
            generalize (h.set j h[j1]).set j1 h[j] = h4 at hO4 hp4 HSW2
            refine reg_end ?_
            go_wp2_with fail
            go_roundw
            case rel => exact ⟨j1, h4, by omega, rfl, hp4, HSW2, hO4, hj4⟩
            case measure => simp [intOf]; have := HJ.out; omega
          | false =>
            rw [hah] at hcl
            have HST2 := Lib.hid (HST.out (by rw [← HX.out, ← HY.out]; exact hah))
            clear hah HSW HST
            go_wp2_with fail
            refine wp_region_flow 17 53 [(14, .inl (.int .i64 (cmpD x y)))] rfl rfl (by kernel_rfl) (by kernel_rfl) (by kernel_rfl) ?_ ?_
            · intro x hx φ he
              simp only [List.mem_cons, List.not_mem_nil, or_false] at hx
              rcases hx with rfl <;> cases he
            intro ops' A' K' T hops hA' hK hT
            refine fl_mv 18 (by rfl) (by decide) (wanted_none (by rfl)) (by rw [hK.out]; rfl) (by rfl) _ (Or.inl (by rfl)) (.int .i64 (j : Int)) (by rfl) ?_
            refine fl_mv 19 (by rfl) (by decide) (wanted_none (by rfl)) (by rw [hK.out]; rfl) (by rfl) _ (Or.inl (by rfl)) (.int .i64 0) (by rfl) ?_
            refine fl_op2 20 (by rfl) (by decide) (wanted_none (by rfl)) (by rw [hK.out]; rfl) (by rfl) (.tmp 18) (.tmp 19) (.int .i64 (j : Int)) (.int .i64 0) (by rfl) (by rfl) (.bool true) (fun ρ h1 h2 kk w1 (hg : Grow _ w1) hb hf => by go_simp) ?_
            refine fl_mv 21 (by rfl) (by decide) (wanted_none (by rfl)) (by rw [hK.out]; rfl) (by rfl) _ (Or.inl (by rfl)) (.bool true) (by rfl) ?_
            refine fl_mv 22 (by rfl) (by decide) (wanted_if hops 3 true (by rfl) 21 (by rfl) true (by rfl)) (by rw [hK.out]; rfl) (by rfl) _ (Or.inl (by rfl)) (.func (.func 23) #[] #[]) (by rfl) ?_
            refine fl_mv 23 (by rfl) (by decide) (wanted_if hops 3 true (by rfl) 21 (by rfl) true (by rfl)) (by rw [hK.out]; rfl) (by rfl) _ (Or.inl (by rfl)) (.slice (some ⟨g, 0, none⟩) n c) (by rfl) ?_
            refine fl_mv 24 (by rfl) (by decide) (wanted_if hops 3 true (by rfl) 21 (by rfl) true (by rfl)) (by rw [hK.out]; rfl) (by rfl) _ (Or.inl (by rfl)) (.int .i64 (j : Int)) (by rfl) ?_
            refine fl_op2 25 (by rfl) (by decide) (wanted_if hops 3 true (by rfl) 21 (by rfl) true (by rfl)) (by rw [hK.out]; rfl) (by rfl) (.tmp 23) (.tmp 24) (.slice (some ⟨g, 0, none⟩) n c) (.int .i64 (j : Int)) (by rfl) (by rfl) (.pointer (some ⟨g, j * 2, none⟩)) (fun ρ h1 h2 kk w1 (hg : Grow _ w1) hb hf => by go_simp; try (intro hlt; omega)) ?_
            refine fl_op1 26 (by rfl) (by decide) (wanted_if hops 3 true (by rfl) 21 (by rfl) true (by rfl)) (by rw [hK.out]; rfl) (by rfl) (.tmp 25) (.pointer (some ⟨g, j * 2, none⟩)) (by rfl) (.agg #[.string x.1, .int .u64 (x.2 : Int)]) (fun ρ h1 kk w1 (hg : Grow _ w1) hb hf => by have q0 := hx0 w1 hg; have q1 := hx1 w1 hg; go_simp) ?_
            refine fl_mv 27 (by rfl) (by decide) (wanted_if hops 3 true (by rfl) 21 (by rfl) true (by rfl)) (by rw [hK.out]; rfl) (by rfl) _ (Or.inl (by rfl)) (.slice (some ⟨g, 0, none⟩) n c) (by rfl) ?_
            refine fl_mv 28 (by rfl) (by decide) (wanted_if hops 3 true (by rfl) 21 (by rfl) true (by rfl)) (by rw [hK.out]; rfl) (by rfl) _ (Or.inl (by rfl)) (.int .i64 (j : Int)) (by rfl) ?_
            refine fl_op2 29 (by rfl) (by decide) (wanted_if hops 3 true (by rfl) 21 (by rfl) true (by rfl)) (by rw [hK.out]; rfl) (by rfl) (.tmp 28) (.const (.int .i64 1)) (.int .i64 (j : Int)) (.int .i64 1) (by rfl) (by rfl) (.int .i64 (j1 : Int)) (fun ρ h1 h2 kk w1 (hg : Grow _ w1) hb hf => by go_simp) ?_
            refine fl_op2 30 (by rfl) (by decide) (wanted_if hops 3 true (by rfl) 21 (by rfl) true (by rfl)) (by rw [hK.out]; rfl) (by rfl) (.tmp 27) (.tmp 29) (.slice (some ⟨g, 0, none⟩) n c) (.int .i64 (j1 : Int)) (by rfl) (by rfl) (.pointer (some ⟨g, j1 * 2, none⟩)) (fun ρ h1 h2 kk w1 (hg : Grow _ w1) hb hf => by go_simp; try (intro hlt; omega)) ?_
            refine fl_op1 31 (by rfl) (by decide) (wanted_if hops 3 true (by rfl) 21 (by rfl) true (by rfl)) (by rw [hK.out]; rfl) (by rfl) (.tmp 30) (.pointer (some ⟨g, j1 * 2, none⟩)) (by rfl) (.agg #[.string y.1, .int .u64 (y.2 : Int)]) (fun ρ h1 kk w1 (hg : Grow _ w1) hb hf => by have q0 := hy0 w1 hg; have q1 := hy1 w1 hg; go_simp) ?_
            refine fl_val 32 (by rfl) (by decide) (wanted_if hops 3 true (by rfl) 21 (by rfl) true (by rfl)) (.int .i64 (cmpD x y)) (by rw [hK.out]; rfl) (fun kk w1 (hg : Grow _ w1) hb hf => by refine upon_behind (by rfl) ?_; exact cmp_flow (f := .tmp 22) (a := .tmp 26) (b := .tmp 31) rfl rfl rfl rfl) ?_
            refine fl_op2 33 (by rfl) (by decide) (wanted_if hops 3 true (by rfl) 21 (by rfl) true (by rfl)) (by rw [hK.out]; rfl) (by rfl) (.tmp 32) (.const (.int .i64 0)) (.int .i64 (cmpD x y)) (.int .i64 0) (by rfl) (by rfl) (.bool false) (fun ρ h1 h2 kk w1 (hg : Grow _ w1) hb hf => by go_simp) ?_
            refine fl_pick 34 (by rfl) (by decide) (wanted_none (by rfl)) (by rw [hK.out]; rfl) (by rfl) _ _ _ (by rfl) true (by rfl) (.bool false) (by rfl) ?_
            refine fl_end (fun _ _ w1 (hg : Grow _ w1) _ hfacts => hT _ _ ?_)
            clear hops hA' hK hT
            simp only [putsL, Act.put, List.setIfInBounds_toArray, List.set_cons_zero, List.set_cons_succ, List.drop_succ_cons, List.drop_zero]
            clear hfacts hx0 hx1 hy0 hy1 hcl
            have hO6 := hO.grows hg
            have hj6 := hj.trans (Just.of_grow hg)
            go_wp2_with fail
            go_roundw
            case rel => exact ⟨i + 1, h, by omega, .inl (by omega), by go_num, hp, HST2.out, hO6, hj6⟩
            case measure => simp [intOf]; omega
    · have hd : decide ((i : Int) < (n : Int)) = false := decide_eq_false (by omega)
      have HSS := Lib.hid hs
      clear hs
      go_wp2_with fail
      go_end0
      have hhl : h.length = n := by rw [hp.length_eq]; exact HLL.out
      exact ⟨rfl, h, ⟨hp, List.pairwise_iff_getElem.2 fun p q hp' hq hpq => HSS.out p q hp' hq hpq (by omega)⟩, hO, hj⟩
end Go.Proofs.YtidkhokecekpgaaDoor
