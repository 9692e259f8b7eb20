/- ledger.Top: its walk. -/
import Derived.Test.YtidkhokecekpgaaDoorGins
namespace Go.Proofs.YtidkhokecekpgaaDoor
open Go.RowKit Go.Hop
theorem clone_del (w : World) (V : Nat → Prop) (A : Option Addr) (n c : Nat) (l : List Dl) (h : In w V 2 A n (dcells l)) (hn : n ≤ 1048576) :
    Calls Tryd.prog 21 #[.slice A n c] w fun e w' => ∃ v, e = .returned v ∧ Own w' (New w w') 30 2 v n (dcells l) ∧ Grow w w' := by
  have hnil := fun (w' : World) => Lib.run_eql_slice_nil (P := Tryd.prog) w' 26 30 A n c 0 0 Tryd.underlying26
  cases A with
  | none =>
    have hn0 : n = 0 := by
      rcases Nat.eq_zero_or_pos n with h0 | h0
      · exact h0
      · obtain ⟨_, e, _⟩ := h.2 h0; cases e
    subst hn0
    obtain rfl : l = [] := List.eq_nil_of_length_eq_zero (DIn.len' h)
    go_enter Tryd.func21, Tryd.ntmps21
    go_wp2_with fail
    go_ret
    exact ⟨_, rfl, Own.nil, Grow.refl _⟩
  | some ad =>
    go_enter Tryd.func21, Tryd.ntmps21
    go_wp2_with (at_builtin; refine stay ?_)
    refine stay_out ?_
    refine wpList_own (V := fun b => b = w.heap.size) deltaE _ rfl (.tmp 5) (.tmp 6) rfl (.slice (some ⟨w.heap.size, 0, none⟩) 0 0) 0 [] rfl (made_own w _ _) w.heap.size (some ad) n c (dcells l) rfl (Reads.alloc (In.reads h) (Nat.le_refl _) _) (dcells_one l) (by omega) ?_
    intro v1 w1 hO1 hj1
    simp only [Nat.zero_add, List.nil_append] at hO1
    obtain ⟨hO2, hg1⟩ := own_new hO1 hj1
    go_wp2_with fail
    go_ret
    exact ⟨v1, rfl, hO2, hg1⟩
theorem insD_none (w : World) (A : Option Addr) (c : Nat) (f : Value) : Calls Tryd.prog 53 #[.slice A 0 c, .int .i64 0, .int .i64 0, f] w fun e w' => e = .returned (.tuple #[]) ∧ w = w' := by
  go_enter Tryd.func53, Tryd.ntmps53
  go_wp2_with fail
  go_loop [8] (fun i => i = .int .i64 1) (fun _ => 0)
  case atStart => rfl
  case round =>
    obtain rfl := hrel
    go_wp2_with fail
    go_end0
    exact ⟨rfl, rfl⟩
theorem stableD_any (w : World) (A : Option Addr) (n c : Nat) (l : List Dl) (hn : n ≤ 19) (V : Nat → Prop) (hO : Own w V 30 2 (.slice A n c) n (dcells l)) :
    Calls Tryd.prog 22 #[.slice A n c, .func (.func 23) #[] #[]] w fun e w' => e = .returned (.tuple #[]) ∧ ∃ r : List Dl, TopD r l ∧ In w' V 2 A n (dcells r) ∧ Just V w w' := by
  have hl : l.length = n := by have := hO.1; rw [dcells_len] at this; omega
  have hins : Calls Tryd.prog 53 #[.slice A n c, .int .i64 0, .int .i64 (n : Int), .func (.func 23) #[] #[]] w fun e w' => e = .returned (.tuple #[]) ∧ ∃ r : List Dl, TopD r l ∧ In w' V 2 A n (dcells r) ∧ Just V w w' := by
    by_cases h0 : n = 0
    · subst h0
      obtain rfl : l = [] := List.eq_nil_of_length_eq_zero hl
      refine (insD_none w A c _).mono ?_
      rintro e w' ⟨he, rfl⟩
      exact ⟨he, [], ⟨List.Perm.refl _, List.Pairwise.nil⟩, In.nil, Just.of_grow (Grow.refl _)⟩
    · obtain ⟨g, c', hsl, _⟩ := own_shape hO (by omega)
      injection hsl with e1 _ e3
      subst e1; subst e3
      refine (insD_any w V g n c l hO (by omega)).mono ?_
      rintro e w' ⟨he, r, hr, hO2, hj⟩
      obtain ⟨A', c', e1, hI, _⟩ := hO2.in_
      injection e1 with e1 _ _
      subst e1
      exact ⟨he, r, hr, hI, hj⟩
  have hst : Calls Tryd.prog 43 #[.slice A n c, .int .i64 (n : Int), .func (.func 23) #[] #[]] w fun e w' => e = .returned (.tuple #[]) ∧ ∃ r : List Dl, TopD r l ∧ In w' V 2 A n (dcells r) ∧ Just V w w' := by
    have h20 : decide ((20 : Int) ≤ (n : Int)) = false := decide_eq_false (by omega)
    have h20' : decide ((20 : Int) < (n : Int)) = false := decide_eq_false (by omega)
    clear hO
    go_enter Tryd.func43, Tryd.ntmps43
    go_wp2_with fail
    go_loop [7, 8] (fun a b => a = .int .i64 0 ∧ b = .int .i64 20) (fun _ _ => 0)
    case atStart => exact ⟨rfl, rfl⟩
    case round =>
      obtain ⟨rfl, rfl⟩ := hrel
      go_wp2_with fail
      refine hins.mono ?_
      rintro e w2 ⟨rfl, H⟩
      clear hins
      have HH := Lib.hid H
      clear H
      go_wp2_with fail
      go_loop [6] (fun a => a = .int .i64 20) (fun _ => 0)
      case atStart => rfl
      case round =>
        obtain rfl := hrel
        go_wp2_with fail
        go_end0
        exact ⟨rfl, HH.out⟩
  clear hins hO
  go_enter Tryd.func22, Tryd.ntmps22
  go_wp2_with fail
  refine hst.mono ?_
  rintro e w2 ⟨rfl, H⟩
  clear hst
  have HH := Lib.hid H
  clear H
  go_wp2_with fail
  go_end0
  exact ⟨rfl, HH.out⟩
theorem topN_le (z : Int) (n : Nat) : topN z n ≤ n := by unfold topN; omega
theorem Top_any (w : World) (V : Nat → Prop) (A : Option Addr) (n c : Nat) (q : List Dl) (h : In w V 2 A n (dcells q)) (hn : n ≤ 19) (z : Int) (hz : -9223372036854775808 ≤ z ∧ z ≤ 9223372036854775807) :
    Calls Tryd.prog 10 #[.slice A n c, .int .i64 z] w fun e w' => ∃ A' r, e = .returned (.slice A' (topN z n) (topN z n)) ∧ TopD r q ∧ In w' (New w w') 2 A' (topN z n) (dcells (r.take (topN z n))) ∧ Grow w w' := by
  have hqn := DIn.len' h
  have HQN := Lib.hid hqn
  clear hqn
  have hmn : ∀ ts t w, (Builtin.min_ ts t #[.int .i64 z, .int .i64 (n : Int)]).run Tryd.prog w = .ok (.int .i64 (min z n)) w := fun ts t w => by rw [run_min_int2]; congr 2; split <;> omega
  have hmx : ∀ ts t w, (Builtin.max_ ts t #[.int .i64 0, .int .i64 (min z n)]).run Tryd.prog w = .ok (.int .i64 (topN z n : Int)) w := fun ts t w => by rw [run_max_int2]; congr 2; unfold topN; split <;> omega
  have hle := topN_le z n
  generalize topN z n = m at hmx hle ⊢
  have hC := clone_del w V A n c q h (by omega)
  go_enter Tryd.func10, Tryd.ntmps10
  go_wp2_with fail
  refine hC.mono ?_
  rintro e w1 ⟨v, rfl, hO, hg1⟩
  clear hC
  obtain ⟨A1, c1, rfl, _, hnc, _⟩ := hO.in_
  have hst := stableD_any w1 A1 n c1 q hn (New w w1) hO
  clear hO
  go_wp2_with fail
  refine hst.mono ?_
  rintro e w2 ⟨rfl, r, hr, hI, hj⟩
  clear hst
  have hmc : ¬ c1 < m := by omega
  have hmc1 : m ≤ c1 := by omega
  go_wp2_with fail
  refine (clip_del _ A1 m c1 hmc1).mono ?_
  rintro e w' ⟨rfl, rfl⟩
  go_wp2_with fail
  go_ret
  have hs := hg1.size
  have hs2 := hj.size
  refine ⟨A1, r, rfl, hr, ?_, Below.trans hg1 (hj.below (B := w.heap.size) (fun b hb => hb.1) hs)⟩
  have hI2 := (hI.mono (V' := New w w2) fun b hb => ⟨hb.1, by have := hb.2; omega⟩).take (k := m) hle
  rwa [show (dcells r).take (m * 2) = dcells (r.take m) from by unfold dcells; rw [flat_take dcell 2 dcell_len]] at hI2
set_option maxRecDepth 100000 in
set_option maxHeartbeats 1000000 in
theorem deltas_any (w : World) (x : Nat) (D : Nat → Prop) (h : TapeAt x D w) (hDw : ∀ b, D b → b < w.heap.size) :
    Calls Tryd.prog 6 #[.pointer (some ⟨x, 0, none⟩), .int .i64 15] w fun e w' => ∃ (v : Value) (l : List Dl), e = .returned v ∧ Own w' (New w w') 30 2 v l.length (dcells l) ∧ l.length ≤ 15 ∧ Kept l ∧ TapeAt x D w' ∧ Just (fun b => b = x) w w' := by
  have hxw := h.lt
  go_enter Tryd.func6, Tryd.ntmps6
  go_wp2_with fail
  go_loopw [5, 6] (fun o i wr => ∃ (i' : Nat) (l : List Dl), i = .int .i64 (i' : Int) ∧ l.length = i' ∧ i' ≤ 15 ∧ Own wr (New w wr) 30 2 o l.length (dcells l) ∧ Kept l ∧ TapeAt x D wr ∧ Just (fun b => b = x) w wr) (fun _ i _ => 15 - (intOf i).toNat)
  case atStart => exact ⟨0, [], rfl, rfl, by omega, Own.nil, fun d hd => absurd hd List.not_mem_nil, h, Just.of_grow (Grow.refl _)⟩
  case round =>
    clear h
    obtain ⟨i, l, rfl, hli, hi15, hO, hK, hT, hj⟩ := hrel
    obtain ⟨A1, c1, rfl, hI1, hn1, hm1⟩ := hO.in_
    have HLI := Lib.hid hli
    clear hli
    by_cases hi : i < 15
    · have hd : decide ((i : Int) < 15) = true := decide_eq_true (by omega)
      have hT' := hT
      obtain ⟨hxD, A, n, c, xs, p, hB, _, hpn, hnm, _⟩ := hT'
      by_cases hp : p < n
      · have hd1 : decide ((p : Int) < (n : Int)) = true := decide_eq_true (by omega)
        clear hI1
        go_wp2_with fail
        refine wp_region_flow 15 29 [] rfl rfl (by kernel_rfl) (by kernel_rfl) (by kernel_rfl) ?_ ?_
        · intro x hx φ he
          cases hx
        intro ops' A' K' T hops hA' hK hT
        refine fl_mv 7 (by rfl) (by decide) (wanted_none (by rfl)) (by rw [hK.out]; rfl) (by rfl) _ (Or.inl (by rfl)) (.int .i64 (i : Int)) (by rfl) ?_
        refine fl_mv 8 (by rfl) (by decide) (wanted_none (by rfl)) (by rw [hK.out]; rfl) (by rfl) _ (Or.inl (by rfl)) (.int .i64 15) (by rfl) ?_
        refine fl_op2 9 (by rfl) (by decide) (wanted_none (by rfl)) (by rw [hK.out]; rfl) (by rfl) (.tmp 7) (.tmp 8) (.int .i64 (i : Int)) (.int .i64 15) (by rfl) (by rfl) (.bool true) (fun ρ h1 h2 kk w1 (hg : Grow _ w1) hb hf => by go_simp) ?_
        refine fl_mv 10 (by rfl) (by decide) (wanted_none (by rfl)) (by rw [hK.out]; rfl) (by rfl) _ (Or.inl (by rfl)) (.bool true) (by rfl) ?_
        refine fl_mv 11 (by rfl) (by decide) (wanted_if hops 3 true (by rfl) 10 (by rfl) true (by rfl)) (by rw [hK.out]; rfl) (by rfl) _ (Or.inl (by rfl)) (.pointer (some ⟨x, 0, none⟩)) (by rfl) ?_
        refine fl_op1 12 (by rfl) (by decide) (wanted_if hops 3 true (by rfl) 10 (by rfl) true (by rfl)) (by rw [hK.out]; rfl) (by rfl) (.tmp 11) (.pointer (some ⟨x, 0, none⟩)) (by rfl) (.pointer (some ⟨x, 0, none⟩)) (fun ρ h1 kk w1 (hg : Grow _ w1) hb hf => by go_simp) ?_
        refine fl_op1 13 (by rfl) (by decide) (wanted_if hops 3 true (by rfl) 10 (by rfl) true (by rfl)) (by rw [hK.out]; rfl) (by rfl) (.tmp 12) (.pointer (some ⟨x, 0, none⟩)) (by rfl) (.pointer (some ⟨x, 1, none⟩)) (fun ρ h1 kk w1 (hg : Grow _ w1) hb hf => by go_simp) ?_
        refine fl_op1 14 (by rfl) (by decide) (wanted_if hops 3 true (by rfl) 10 (by rfl) true (by rfl)) (by rw [hK.out]; rfl) (by rfl) (.tmp 13) (.pointer (some ⟨x, 1, none⟩)) (by rfl) (.int .i64 (p : Int)) (fun ρ h1 kk w1 (hg : Grow _ w1) hb hf => by have c1 := (hB.grow hg).cell 1; go_simp) ?_
        refine fl_mv 15 (by rfl) (by decide) (wanted_if hops 3 true (by rfl) 10 (by rfl) true (by rfl)) (by rw [hK.out]; rfl) (by rfl) _ (Or.inl (by rfl)) (.pointer (some ⟨x, 0, none⟩)) (by rfl) ?_
        refine fl_op1 16 (by rfl) (by decide) (wanted_if hops 3 true (by rfl) 10 (by rfl) true (by rfl)) (by rw [hK.out]; rfl) (by rfl) (.tmp 15) (.pointer (some ⟨x, 0, none⟩)) (by rfl) (.pointer (some ⟨x, 0, none⟩)) (fun ρ h1 kk w1 (hg : Grow _ w1) hb hf => by go_simp) ?_
        refine fl_op1 17 (by rfl) (by decide) (wanted_if hops 3 true (by rfl) 10 (by rfl) true (by rfl)) (by rw [hK.out]; rfl) (by rfl) (.tmp 16) (.pointer (some ⟨x, 0, none⟩)) (by rfl) (.pointer (some ⟨x, 0, none⟩)) (fun ρ h1 kk w1 (hg : Grow _ w1) hb hf => by go_simp) ?_
        refine fl_op1 18 (by rfl) (by decide) (wanted_if hops 3 true (by rfl) 10 (by rfl) true (by rfl)) (by rw [hK.out]; rfl) (by rfl) (.tmp 17) (.pointer (some ⟨x, 0, none⟩)) (by rfl) (.slice A n c) (fun ρ h1 kk w1 (hg : Grow _ w1) hb hf => by have c0 := (hB.grow hg).cell 0; go_simp) ?_
        refine fl_op1 19 (by rfl) (by decide) (wanted_if hops 3 true (by rfl) 10 (by rfl) true (by rfl)) (by rw [hK.out]; rfl) (by rfl) (.tmp 18) (.slice A n c) (by rfl) (.int .i64 (n : Int)) (fun ρ h1 kk w1 (hg : Grow _ w1) hb hf => by go_simp) ?_
        refine fl_op2 20 (by rfl) (by decide) (wanted_if hops 3 true (by rfl) 10 (by rfl) true (by rfl)) (by rw [hK.out]; rfl) (by rfl) (.tmp 14) (.tmp 19) (.int .i64 (p : Int)) (.int .i64 (n : Int)) (by rfl) (by rfl) (.bool true) (fun ρ h1 h2 kk w1 (hg : Grow _ w1) hb hf => by go_simp) ?_
        refine fl_pick 21 (by rfl) (by decide) (wanted_none (by rfl)) (by rw [hK.out]; rfl) (by rfl) _ _ _ (by rfl) true (by rfl) (.bool true) (by rfl) ?_
        refine fl_end (fun _ _ w1 (hg : Grow _ w1) _ hfacts => hT _ _ ?_)
        clear hops hA' hK hT
        simp only [putsL, Act.put, List.setIfInBounds_toArray, List.set_cons_zero, List.set_cons_succ, List.drop_succ_cons, List.drop_zero]
        clear hfacts hB
        have hT1 := hT.grow hg
        have hO1 := hO.grows hg
        have hj1 := hj.trans (Just.of_grow (V := fun b => b = x) hg)
        have hsw := hj1.size
        have hs1 := hg.size
        have hDl := Deltas_any w1 x D hT1 (fun b hb => by have := hDw b hb; omega) 1 (by omega) (by omega)
        rw [show ((1 : Nat) : Int) = 1 from rfl] at hDl
        clear hT hO hj
        go_wp2_with fail
        refine hDl.mono ?_
        rintro e w3 ⟨v3, l3, rfl, hO3, hl31, hl32, hK3, hT3, hj3⟩
        clear hDl
        obtain ⟨A3, c3, rfl, hI3, _, _⟩ := hO3.in_
        have hs3 := hj3.size
        have hO4 : Own w3 (New w wr) 30 2 (.slice A1 l.length c1) l.length (dcells l) := hO1.keep fun b hb => hj3.block b (by have := hb.2; omega) (fun e => by have := hb.1; omega)
        have hj13 := hj1.trans hj3
        clear hO1 hO3 hT1
        go_wp2_with (at_builtin; refine stay ?_)
        refine stay_out ?_
        refine wpList_own (V := New w wr) deltaE _ rfl (.tmp 24) (.tmp 26) rfl (.slice A1 l.length c1) l.length (dcells l) rfl hO4 w3.heap.size A3 l3.length c3 (dcells l3) rfl hI3.reads (dcells_one _) (by have := HLI.out; omega) ?_
        intro v5 w5 hO5 hj5
        have hs5 := hj5.size
        have hO6 : Own w5 (New w w5) 30 2 v5 (l ++ l3).length (dcells (l ++ l3)) := by
          rw [List.length_append, show dcells (l ++ l3) = dcells l ++ dcells l3 by unfold dcells; rw [List.flatMap_append]]
          refine hO5.mono fun b hb => ?_
          rcases hb with hb | hb
          · exact ⟨hb.1, by have := hb.2; omega⟩
          · exact ⟨by have := hb.1; omega, hb.2⟩
        have hj06 : Just (fun b => b = x) w w5 := just_new hj13 hj5 (fun b hb => .inl hb.1)
        have hT6 : TapeAt x D w5 := hT3.keep (hj5.block x hT3.lt fun e => by have := e.1; omega) fun b hb hbl => hj5.block b hbl fun e => by have := e.1; have := hDw b hb; omega
        have hK6 : Kept (l ++ l3) := fun d hd => (List.mem_append.1 hd).elim (hK d) (hK3 d)
        have hl6 : (l ++ l3).length = i + 1 := by rw [List.length_append, HLI.out]; omega
        clear hO5 hj5 hO4 hT3 hj3 hI3 hK hK3
        generalize l ++ l3 = l6 at hO6 hK6 hl6
        have HL6 := Lib.hid hl6
        clear hl6
        go_wp2_with fail
        go_roundw
        case rel => exact ⟨i + 1, l6, by go_num, HL6.out, by omega, hO6, hK6, hT6, hj06⟩
        case measure => simp [intOf]; omega
      · have hd1 : decide ((p : Int) < (n : Int)) = false := decide_eq_false (by omega)
        have hp' : ¬ p < n := hp
        clear hI1
        go_wp2_with fail
        refine wp_region_flow 15 29 [] rfl rfl (by kernel_rfl) (by kernel_rfl) (by kernel_rfl) ?_ ?_
        · intro x hx φ he
          cases hx
        intro ops' A' K' T hops hA' hK hT
        refine fl_mv 7 (by rfl) (by decide) (wanted_none (by rfl)) (by rw [hK.out]; rfl) (by rfl) _ (Or.inl (by rfl)) (.int .i64 (i : Int)) (by rfl) ?_
        refine fl_mv 8 (by rfl) (by decide) (wanted_none (by rfl)) (by rw [hK.out]; rfl) (by rfl) _ (Or.inl (by rfl)) (.int .i64 15) (by rfl) ?_
        refine fl_op2 9 (by rfl) (by decide) (wanted_none (by rfl)) (by rw [hK.out]; rfl) (by rfl) (.tmp 7) (.tmp 8) (.int .i64 (i : Int)) (.int .i64 15) (by rfl) (by rfl) (.bool true) (fun ρ h1 h2 kk w1 (hg : Grow _ w1) hb hf => by go_simp) ?_
        refine fl_mv 10 (by rfl) (by decide) (wanted_none (by rfl)) (by rw [hK.out]; rfl) (by rfl) _ (Or.inl (by rfl)) (.bool true) (by rfl) ?_
        refine fl_mv 11 (by rfl) (by decide) (wanted_if hops 3 true (by rfl) 10 (by rfl) true (by rfl)) (by rw [hK.out]; rfl) (by rfl) _ (Or.inl (by rfl)) (.pointer (some ⟨x, 0, none⟩)) (by rfl) ?_
        refine fl_op1 12 (by rfl) (by decide) (wanted_if hops 3 true (by rfl) 10 (by rfl) true (by rfl)) (by rw [hK.out]; rfl) (by rfl) (.tmp 11) (.pointer (some ⟨x, 0, none⟩)) (by rfl) (.pointer (some ⟨x, 0, none⟩)) (fun ρ h1 kk w1 (hg : Grow _ w1) hb hf => by go_simp) ?_
        refine fl_op1 13 (by rfl) (by decide) (wanted_if hops 3 true (by rfl) 10 (by rfl) true (by rfl)) (by rw [hK.out]; rfl) (by rfl) (.tmp 12) (.pointer (some ⟨x, 0, none⟩)) (by rfl) (.pointer (some ⟨x, 1, none⟩)) (fun ρ h1 kk w1 (hg : Grow _ w1) hb hf => by go_simp) ?_
        refine fl_op1 14 (by rfl) (by decide) (wanted_if hops 3 true (by rfl) 10 (by rfl) true (by rfl)) (by rw [hK.out]; rfl) (by rfl) (.tmp 13) (.pointer (some ⟨x, 1, none⟩)) (by rfl) (.int .i64 (p : Int)) (fun ρ h1 kk w1 (hg : Grow _ w1) hb hf => by have c1 := (hB.grow hg).cell 1; go_simp) ?_
        refine fl_mv 15 (by rfl) (by decide) (wanted_if hops 3 true (by rfl) 10 (by rfl) true (by rfl)) (by rw [hK.out]; rfl) (by rfl) _ (Or.inl (by rfl)) (.pointer (some ⟨x, 0, none⟩)) (by rfl) ?_
        refine fl_op1 16 (by rfl) (by decide) (wanted_if hops 3 true (by rfl) 10 (by rfl) true (by rfl)) (by rw [hK.out]; rfl) (by rfl) (.tmp 15) (.pointer (some ⟨x, 0, none⟩)) (by rfl) (.pointer (some ⟨x, 0, none⟩)) (fun ρ h1 kk w1 (hg : Grow _ w1) hb hf => by go_simp) ?_
        refine fl_op1 17 (by rfl) (by decide) (wanted_if hops 3 true (by rfl) 10 (by rfl) true (by rfl)) (by rw [hK.out]; rfl) (by rfl) (.tmp 16) (.pointer (some ⟨x, 0, none⟩)) (by rfl) (.pointer (some ⟨x, 0, none⟩)) (fun ρ h1 kk w1 (hg : Grow _ w1) hb hf => by go_simp) ?_
        refine fl_op1 18 (by rfl) (by decide) (wanted_if hops 3 true (by rfl) 10 (by rfl) true (by rfl)) (by rw [hK.out]; rfl) (by rfl) (.tmp 17) (.pointer (some ⟨x, 0, none⟩)) (by rfl) (.slice A n c) (fun ρ h1 kk w1 (hg : Grow _ w1) hb hf => by have c0 := (hB.grow hg).cell 0; go_simp) ?_
        refine fl_op1 19 (by rfl) (by decide) (wanted_if hops 3 true (by rfl) 10 (by rfl) true (by rfl)) (by rw [hK.out]; rfl) (by rfl) (.tmp 18) (.slice A n c) (by rfl) (.int .i64 (n : Int)) (fun ρ h1 kk w1 (hg : Grow _ w1) hb hf => by go_simp) ?_
        refine fl_op2 20 (by rfl) (by decide) (wanted_if hops 3 true (by rfl) 10 (by rfl) true (by rfl)) (by rw [hK.out]; rfl) (by rfl) (.tmp 14) (.tmp 19) (.int .i64 (p : Int)) (.int .i64 (n : Int)) (by rfl) (by rfl) (.bool false) (fun ρ h1 h2 kk w1 (hg : Grow _ w1) hb hf => by go_simp) ?_
        refine fl_pick 21 (by rfl) (by decide) (wanted_none (by rfl)) (by rw [hK.out]; rfl) (by rfl) _ _ _ (by rfl) true (by rfl) (.bool false) (by rfl) ?_
        refine fl_end (fun _ _ w1 (hg : Grow _ w1) _ hfacts => hT _ _ ?_)
        clear hops hA' hK hT
        simp only [putsL, Act.put, List.setIfInBounds_toArray, List.set_cons_zero, List.set_cons_succ, List.drop_succ_cons, List.drop_zero]
        clear hfacts hB
        have hs1 := hg.size
        go_wp2_with fail
        go_ret
        exact ⟨_, rfl, l, (hO.grows hg).mono fun b hb => ⟨hb.1, by have := hb.2; omega⟩, by rw [HLI.out]; omega, hK, hT.grow hg, hj.trans (Just.of_grow hg)⟩
    · have hd : decide ((i : Int) < 15) = false := decide_eq_false (by omega)
      clear hI1
      go_wp2_with fail
      refine wp_region_flow 15 29 [] rfl rfl (by kernel_rfl) (by kernel_rfl) (by kernel_rfl) ?_ ?_
      · intro x hx φ he
        cases hx
      intro ops' A' K' T hops hA' hK hT
      refine fl_mv 7 (by rfl) (by decide) (wanted_none (by rfl)) (by rw [hK.out]; rfl) (by rfl) _ (Or.inl (by rfl)) (.int .i64 (i : Int)) (by rfl) ?_
      refine fl_mv 8 (by rfl) (by decide) (wanted_none (by rfl)) (by rw [hK.out]; rfl) (by rfl) _ (Or.inl (by rfl)) (.int .i64 15) (by rfl) ?_
      refine fl_op2 9 (by rfl) (by decide) (wanted_none (by rfl)) (by rw [hK.out]; rfl) (by rfl) (.tmp 7) (.tmp 8) (.int .i64 (i : Int)) (.int .i64 15) (by rfl) (by rfl) (.bool false) (fun ρ h1 h2 kk w1 (hg : Grow _ w1) hb hf => by go_simp) ?_
      refine fl_mv 10 (by rfl) (by decide) (wanted_none (by rfl)) (by rw [hK.out]; rfl) (by rfl) _ (Or.inl (by rfl)) (.bool false) (by rfl) ?_
      refine fl_skip 11 (by rfl) (by decide) (wanted_if hops 3 true (by rfl) 10 (by rfl) false (by rfl)) (by rfl) ?_
      refine fl_skip 12 (by rfl) (by decide) (wanted_if hops 3 true (by rfl) 10 (by rfl) false (by rfl)) (by rfl) ?_
      refine fl_skip 13 (by rfl) (by decide) (wanted_if hops 3 true (by rfl) 10 (by rfl) false (by rfl)) (by rfl) ?_
      refine fl_skip 14 (by rfl) (by decide) (wanted_if hops 3 true (by rfl) 10 (by rfl) false (by rfl)) (by rfl) ?_
      refine fl_skip 15 (by rfl) (by decide) (wanted_if hops 3 true (by rfl) 10 (by rfl) false (by rfl)) (by rfl) ?_
      refine fl_skip 16 (by rfl) (by decide) (wanted_if hops 3 true (by rfl) 10 (by rfl) false (by rfl)) (by rfl) ?_
      refine fl_skip 17 (by rfl) (by decide) (wanted_if hops 3 true (by rfl) 10 (by rfl) false (by rfl)) (by rfl) ?_
      refine fl_skip 18 (by rfl) (by decide) (wanted_if hops 3 true (by rfl) 10 (by rfl) false (by rfl)) (by rfl) ?_
      refine fl_skip 19 (by rfl) (by decide) (wanted_if hops 3 true (by rfl) 10 (by rfl) false (by rfl)) (by rfl) ?_
      refine fl_skip 20 (by rfl) (by decide) (wanted_if hops 3 true (by rfl) 10 (by rfl) false (by rfl)) (by rfl) ?_
      refine fl_pick 21 (by rfl) (by decide) (wanted_none (by rfl)) (by rw [hK.out]; rfl) (by rfl) _ _ _ (by rfl) false (by rfl) (.bool false) (by rfl) ?_
      refine fl_end (fun _ _ w1 (hg : Grow _ w1) _ hfacts => hT _ _ ?_)
      clear hops hA' hK hT
      simp only [putsL, Act.put, List.setIfInBounds_toArray, List.set_cons_zero, List.set_cons_succ, List.drop_succ_cons, List.drop_zero]
      clear hfacts
      have hs1 := hg.size
      go_wp2_with fail
      go_ret
      exact ⟨_, rfl, l, (hO.grows hg).mono fun b hb => ⟨hb.1, by have := hb.2; omega⟩, by rw [HLI.out]; omega, hK, hT.grow hg, hj.trans (Just.of_grow hg)⟩
end Go.Proofs.YtidkhokecekpgaaDoor
