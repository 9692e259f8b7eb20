/- The tape: numbers that are read one by one. -/
import Derived.Test.YtidkhokecekpgaaDoorRecs
import Derived.Test.YtidkhokecekpgaaDoorWithin
namespace Go.Proofs.YtidkhokecekpgaaDoor
open Go.RowKit Go.Hop
/-- a tape: its block; what it reads lies in blocks of D -/
def TapeAt (x : Nat) (D : Nat → Prop) (w : World) : Prop := ¬ D x ∧ ∃ (A : Option Addr) (n c : Nat) (xs : List Int) (p : Nat), Blk w x 25 #[.slice A n c, .int .i64 (p : Int)] ∧ In w D 1 A n (xs.map (Value.int .i64)) ∧ p ≤ n ∧ n ≤ 9223372036854775807 ∧ ∀ z ∈ xs, -9223372036854775808 ≤ z ∧ z ≤ 9223372036854775807
theorem TapeAt.keep {x : Nat} {D : Nat → Prop} {w w' : World} (h : TapeAt x D w) (hx : w'.heap[x]? = w.heap[x]?) (hk : ∀ b, D b → b < w.heap.size → w'.heap[b]? = w.heap[b]?) : TapeAt x D w' := by
  obtain ⟨h0, A, n, c, xs, p, h1, h2, h3⟩ := h
  exact ⟨h0, A, n, c, xs, p, hx.trans h1, h2.keep hk, h3⟩
theorem TapeAt.lt {x : Nat} {D : Nat → Prop} {w : World} (h : TapeAt x D w) : x < w.heap.size := by
  obtain ⟨_, _, _, _, _, _, h1, _⟩ := h
  exact h1.lt
theorem TapeAt.grow {x : Nat} {D : Nat → Prop} {w w' : World} (h : TapeAt x D w) (hg : Grow w w') : TapeAt x D w' := h.keep (hg.block x h.lt) fun b _ hb => hg.block b hb
theorem range_of_wf {l : List Int} (h : ∀ z ∈ l, (Lit.int .i64 z).wf = true) : ∀ z ∈ l, -9223372036854775808 ≤ z ∧ z ≤ 9223372036854775807 := fun z hz => by
  have := h z hz
  simpa [Lit.wf, IntKind.min, IntKind.max, IntKind.signed, IntKind.bits] using this
theorem at_int {w : World} {D : Nat → Prop} {A : Option Addr} {n : Nat} {xs : List Int} (h : In w D 1 A n (xs.map (Value.int .i64))) {k : Nat} (hk : k < n) : ∃ (ad : Addr) (z : Int), A = some ad ∧ z ∈ xs ∧ D ad.block ∧ ad.block < w.heap.size ∧ w.cell? (ad.add k) = some (.int .i64 z) := by
  obtain ⟨ad, e, hv, hb, hc⟩ := h.2 (by omega)
  have hl := h.1
  simp only [List.length_map, Nat.mul_one] at hl
  have hkl : k < xs.length := by omega
  exact ⟨ad, xs[k], e, List.getElem_mem hkl, hv, hb, hc k _ (by rw [List.getElem?_map, List.getElem?_eq_getElem hkl]; rfl)⟩
set_option maxRecDepth 20000 in
theorem Next_any (w : World) (x : Nat) (D : Nat → Prop) (h : TapeAt x D w) (m : Nat) (hm1 : 1 ≤ m) (hm2 : m ≤ 1073741824) :
    Calls Tryd.prog 27 #[.pointer (some ⟨x, 0, none⟩), .int .i64 (m : Int)] w fun e w' => ∃ k : Nat, k < m ∧ e = .returned (.int .i64 (k : Int)) ∧ TapeAt x D w' ∧ Just (fun b => b = x) w w' := by
  have h' := h
  obtain ⟨hDx, A, n, c, xs, p, hB, hI, hpn, hn, hxs⟩ := h
  by_cases hp : p < n
  · have hd0 : decide (n ≤ p) = false := decide_eq_false (by omega)
    have hd1 : decide ((n : Int) ≤ (p : Int)) = false := decide_eq_false (by omega)
    have hd2 : decide ((m : Int) < 1) = false := decide_eq_false (by omega)
    obtain ⟨ad, z, rfl, hzm, hzD, hzl, hz0⟩ := at_int hI hp
    have hzr := hxs z hzm
    have k9 : ∀ (vs : Array Value) (w : World), (callFunc 9 vs).run Tryd.prog w = .ok (.enter 9 vs) w := fun vs w => by go_simp
    go_enter Tryd.func27, Tryd.ntmps27
    go_wp2_with fail
    refine wp_region_flow 14 40 [] rfl rfl (by kernel_rfl) (by kernel_rfl) (by kernel_rfl) ?_ ?_
    · intro x hx φ he
      cases hx
    intro ops' A' K' T hops hA' hK hT
    refine fl_mv 5 (by rfl) (by decide) (wanted_none (by rfl)) (by rw [hK.out]; rfl) (by rfl) _ (Or.inl (by rfl)) (.pointer (some ⟨x, 0, none⟩)) (by rfl) ?_
    refine fl_op1 6 (by rfl) (by decide) (wanted_none (by rfl)) (by rw [hK.out]; rfl) (by rfl) (.tmp 5) (.pointer (some ⟨x, 0, none⟩)) (by rfl) (.pointer (some ⟨x, 0, none⟩)) (fun ρ h1 kk w1 (hg : Grow _ w1) hb hf => by go_simp) ?_
    refine fl_op1 7 (by rfl) (by decide) (wanted_none (by rfl)) (by rw [hK.out]; rfl) (by rfl) (.tmp 6) (.pointer (some ⟨x, 0, none⟩)) (by rfl) (.pointer (some ⟨x, 1, none⟩)) (fun ρ h1 kk w1 (hg : Grow _ w1) hb hf => by go_simp) ?_
    refine fl_op1 8 (by rfl) (by decide) (wanted_none (by rfl)) (by rw [hK.out]; rfl) (by rfl) (.tmp 7) (.pointer (some ⟨x, 1, none⟩)) (by rfl) (.int .i64 (p : Int)) (fun ρ h1 kk w1 (hg : Grow _ w1) hb hf => by have c := (hB.grow hg).cell 1; go_simp) ?_
    refine fl_mv 9 (by rfl) (by decide) (wanted_none (by rfl)) (by rw [hK.out]; rfl) (by rfl) _ (Or.inl (by rfl)) (.pointer (some ⟨x, 0, none⟩)) (by rfl) ?_
    refine fl_op1 10 (by rfl) (by decide) (wanted_none (by rfl)) (by rw [hK.out]; rfl) (by rfl) (.tmp 9) (.pointer (some ⟨x, 0, none⟩)) (by rfl) (.pointer (some ⟨x, 0, none⟩)) (fun ρ h1 kk w1 (hg : Grow _ w1) hb hf => by go_simp) ?_
    refine fl_op1 11 (by rfl) (by decide) (wanted_none (by rfl)) (by rw [hK.out]; rfl) (by rfl) (.tmp 10) (.pointer (some ⟨x, 0, none⟩)) (by rfl) (.pointer (some ⟨x, 0, none⟩)) (fun ρ h1 kk w1 (hg : Grow _ w1) hb hf => by go_simp) ?_
    refine fl_op1 12 (by rfl) (by decide) (wanted_none (by rfl)) (by rw [hK.out]; rfl) (by rfl) (.tmp 11) (.pointer (some ⟨x, 0, none⟩)) (by rfl) (.slice (some ad) n c) (fun ρ h1 kk w1 (hg : Grow _ w1) hb hf => by have c := (hB.grow hg).cell 0; go_simp) ?_
    refine fl_op1 13 (by rfl) (by decide) (wanted_none (by rfl)) (by rw [hK.out]; rfl) (by rfl) (.tmp 12) (.slice (some ad) n c) (by rfl) (.int .i64 (n : Int)) (fun ρ h1 kk w1 (hg : Grow _ w1) hb hf => by go_simp) ?_
    refine fl_op2 14 (by rfl) (by decide) (wanted_none (by rfl)) (by rw [hK.out]; rfl) (by rfl) (.tmp 8) (.tmp 13) (.int .i64 (p : Int)) (.int .i64 (n : Int)) (by rfl) (by rfl) (.bool false) (fun ρ h1 h2 kk w1 (hg : Grow _ w1) hb hf => by go_simp) ?_
    refine fl_mv 15 (by rfl) (by decide) (wanted_none (by rfl)) (by rw [hK.out]; rfl) (by rfl) _ (Or.inl (by rfl)) (.bool false) (by rfl) ?_
    refine fl_mv 16 (by rfl) (by decide) (wanted_if hops 10 false (by rfl) 15 (by rfl) false (by rfl)) (by rw [hK.out]; rfl) (by rfl) _ (Or.inl (by rfl)) (.int .i64 (m : Int)) (by rfl) ?_
    refine fl_op2 17 (by rfl) (by decide) (wanted_if hops 10 false (by rfl) 15 (by rfl) false (by rfl)) (by rw [hK.out]; rfl) (by rfl) (.tmp 16) (.const (.int .i64 1)) (.int .i64 (m : Int)) (.int .i64 1) (by rfl) (by rfl) (.bool false) (fun ρ h1 h2 kk w1 (hg : Grow _ w1) hb hf => by go_simp) ?_
    refine fl_pick 18 (by rfl) (by decide) (wanted_none (by rfl)) (by rw [hK.out]; rfl) (by rfl) _ _ _ (by rfl) false (by rfl) (.bool false) (by rfl) ?_
    refine fl_end (fun _ _ w1 (hg : Grow _ w1) _ hfacts => hT _ _ ?_)
    clear hops hA' hK hT
    simp only [putsL, Act.put, List.setIfInBounds_toArray, List.set_cons_zero, List.set_cons_succ, List.drop_succ_cons, List.drop_zero]
    clear hfacts
    have hB1 := hB.grow hg
    have c1 := hB1.cell 1
    have f1 := hB1.frozen 1
    have hgs := hg.size
    have hxl := hB.lt
    go_wp2_with fail
    obtain ⟨w3, H3⟩ : ∃ w3 : World, Hid (w3 = w1.setCell ⟨x, 1, none⟩ (.int .i64 ((p : Int) + 1))) := ⟨_, rfl⟩
    have hj3 : Just (fun b => b = x) w w3 := by rw [H3.out]; exact (Just.of_grow hg).trans (just_at w1 x 1 _)
    have hB3 : Blk w3 x 25 #[.slice (some ad) n c, .int .i64 ((p : Int) + 1)] := by rw [H3.out]; exact hB1.put 1 _
    have hI3 : In w3 D 1 (some ad) n (xs.map (Value.int .i64)) := hI.just hj3 fun b hb e => hDx (e ▸ hb)
    rw [← H3.out]
    have hax : ad.block ≠ x := fun e => hDx (e ▸ hzD)
    have hz3 : w3.cell? (ad.add p) = some (.int .i64 z) := by
      obtain ⟨ad', e, _, _, hc⟩ := hI3.2 (by omega)
      obtain ⟨ad2, e2, _, _, hc2⟩ := hI.2 (by omega)
      injection e with e
      injection e2 with e2
      subst e e2
      have hl := hI.1
      simp only [List.length_map, Nat.mul_one] at hl
      have hq : (xs.map (Value.int .i64))[p]? = some (.int .i64 xs[p]) := by rw [List.getElem?_map, List.getElem?_eq_getElem (by omega)]; rfl
      have h1 := hc2 p _ hq
      rw [hz0] at h1
      rw [hc p _ hq, h1]
    have hz : ∀ w1, Grow w3 w1 → w1.cell? (ad.add p) = some (.int .i64 z) := fun w1 hg => (hg.cell (by rw [block_add]; have := hj3.size; omega)).trans hz3
    obtain ⟨M, HM⟩ : ∃ M : Nat, Hid (withinF z 0 1073741824 = (M : Int)) := ⟨(withinF z 0 1073741824).toNat, Lib.hid (by have := withinF_in (n := z) (show (0 : Int) ≤ 1073741824 by omega); omega)⟩
    have hwi : ∀ w1, Calls Tryd.prog 9 #[.int .i64 z, .int .i64 0, .int .i64 1073741824] w1 fun e w' => e = .returned (.int .i64 (M : Int)) ∧ w1 = w' := fun w1 => by
      have := within_is w1 z 0 1073741824 hzr (by omega) (by omega) (by omega)
      rwa [HM.out] at this
    obtain ⟨R, HR⟩ : ∃ R : Nat, Hid (Int.tmod (M : Int) (m : Int) = (R : Int)) := ⟨M % m, Lib.hid (by rw [Int.tmod_eq_emod_of_nonneg (by omega)]; omega)⟩
    have hRm : R < m := by
      have := HR.out
      rw [Int.tmod_eq_emod_of_nonneg (by omega)] at this
      have := Int.emod_lt_of_pos (M : Int) (show (0 : Int) < m by omega)
      omega
    have hm0 : ¬ m = 0 := by omega
    have hwp : IntKind.i64.wrap (p : Int) = (p : Int) := by rw [IntKind.wrap_i64]; (try unfold wrap64); omega
    clear hg hB1 c1 f1
    go_wp2_with fail
    refine wp_region_flow 15 40 [(11, .inl (.int .i64 (M : Int)))] rfl rfl (by kernel_rfl) (by kernel_rfl) (by kernel_rfl) ?_ ?_
    · intro x hx φ he
      simp only [List.mem_cons, List.not_mem_nil, or_false] at hx
      rcases hx with rfl <;> cases he
    intro ops' A' K' T hops hA' hK hT
    refine fl_mv 26 (by rfl) (by decide) (wanted_none (by rfl)) (by rw [hK.out]; rfl) (by rfl) _ (Or.inl (by rfl)) (.pointer (some ⟨x, 0, none⟩)) (by rfl) ?_
    refine fl_op1 27 (by rfl) (by decide) (wanted_none (by rfl)) (by rw [hK.out]; rfl) (by rfl) (.tmp 26) (.pointer (some ⟨x, 0, none⟩)) (by rfl) (.pointer (some ⟨x, 0, none⟩)) (fun ρ h1 kk w1 (hg : Grow _ w1) hb hf => by go_simp) ?_
    refine fl_op1 28 (by rfl) (by decide) (wanted_none (by rfl)) (by rw [hK.out]; rfl) (by rfl) (.tmp 27) (.pointer (some ⟨x, 0, none⟩)) (by rfl) (.pointer (some ⟨x, 0, none⟩)) (fun ρ h1 kk w1 (hg : Grow _ w1) hb hf => by go_simp) ?_
    refine fl_op1 29 (by rfl) (by decide) (wanted_none (by rfl)) (by rw [hK.out]; rfl) (by rfl) (.tmp 28) (.pointer (some ⟨x, 0, none⟩)) (by rfl) (.slice (some ad) n c) (fun ρ h1 kk w1 (hg : Grow _ w1) hb hf => by have c := (hB3.grow hg).cell 0; go_simp) ?_
    refine fl_mv 30 (by rfl) (by decide) (wanted_none (by rfl)) (by rw [hK.out]; rfl) (by rfl) _ (Or.inl (by rfl)) (.pointer (some ⟨x, 0, none⟩)) (by rfl) ?_
    refine fl_op1 31 (by rfl) (by decide) (wanted_none (by rfl)) (by rw [hK.out]; rfl) (by rfl) (.tmp 30) (.pointer (some ⟨x, 0, none⟩)) (by rfl) (.pointer (some ⟨x, 0, none⟩)) (fun ρ h1 kk w1 (hg : Grow _ w1) hb hf => by go_simp) ?_
    refine fl_op1 32 (by rfl) (by decide) (wanted_none (by rfl)) (by rw [hK.out]; rfl) (by rfl) (.tmp 31) (.pointer (some ⟨x, 0, none⟩)) (by rfl) (.pointer (some ⟨x, 1, none⟩)) (fun ρ h1 kk w1 (hg : Grow _ w1) hb hf => by go_simp) ?_
    refine fl_op1 33 (by rfl) (by decide) (wanted_none (by rfl)) (by rw [hK.out]; rfl) (by rfl) (.tmp 32) (.pointer (some ⟨x, 1, none⟩)) (by rfl) (.int .i64 ((p : Int) + 1)) (fun ρ h1 kk w1 (hg : Grow _ w1) hb hf => by have c := (hB3.grow hg).cell 1; go_simp) ?_
    refine fl_op2 34 (by rfl) (by decide) (wanted_none (by rfl)) (by rw [hK.out]; rfl) (by rfl) (.tmp 33) (.const (.int .i64 1)) (.int .i64 ((p : Int) + 1)) (.int .i64 1) (by rfl) (by rfl) (.int .i64 (p : Int)) (fun ρ h1 h2 kk w1 (hg : Grow _ w1) hb hf => by go_simp) ?_
    refine fl_op2 35 (by rfl) (by decide) (wanted_none (by rfl)) (by rw [hK.out]; rfl) (by rfl) (.tmp 29) (.tmp 34) (.slice (some ad) n c) (.int .i64 (p : Int)) (by rfl) (by rfl) (.pointer (some (ad.add p))) (fun ρ h1 h2 kk w1 (hg : Grow _ w1) hb hf => by go_simp; try (intro hlt; omega)) ?_
    refine fl_op1 36 (by rfl) (by decide) (wanted_none (by rfl)) (by rw [hK.out]; rfl) (by rfl) (.tmp 35) (.pointer (some (ad.add p))) (by rfl) (.int .i64 z) (fun ρ h1 kk w1 (hg : Grow _ w1) hb hf => by have c := hz w1 hg; go_simp) ?_
    refine fl_call 37 (by rfl) (by decide) (wanted_none (by rfl)) (.int .i64 (M : Int)) (by rw [hK.out]; rfl) 9 _ _ (by rfl) [.int .i64 z, .int .i64 0, .int .i64 1073741824] (by rfl) k9 (fun kk w1 (hg : Grow _ w1) hb hf => calls_behind (by rfl) (by exact grew_same (hwi w1))) ?_
    refine fl_mv 38 (by rfl) (by decide) (wanted_none (by rfl)) (by rw [hK.out]; rfl) (by rfl) _ (Or.inl (by rfl)) (.int .i64 (m : Int)) (by rfl) ?_
    refine fl_op2 39 (by rfl) (by decide) (wanted_none (by rfl)) (by rw [hK.out]; rfl) (by rfl) (.tmp 37) (.tmp 38) (.int .i64 (M : Int)) (.int .i64 (m : Int)) (by rfl) (by rfl) (.int .i64 (R : Int)) (fun ρ h1 h2 kk w1 (hg : Grow _ w1) hb hf => by have h := HR.out; go_simp) ?_
    refine fl_mv 4 (by rfl) (by decide) (wanted_none (by rfl)) (by rw [hK.out]; rfl) (by rfl) _ (Or.inr (by rfl)) (.int .i64 (R : Int)) (by rfl) ?_
    refine fl_end (fun _ _ w1 (hg : Grow _ w1) _ hfacts => hT _ _ ?_)
    clear hops hA' hK hT
    simp only [putsL, Act.put, List.setIfInBounds_toArray, List.set_cons_zero, List.set_cons_succ, List.drop_succ_cons, List.drop_zero]
    clear hfacts
    go_wp2_with fail
    go_ret
    exact ⟨R, hRm, rfl, TapeAt.grow ⟨hDx, some ad, n, c, xs, p + 1, by rw [Int.natCast_add]; exact hB3, hI3, by omega, hn, hxs⟩ hg, hj3.trans (Just.of_grow hg)⟩
  · have hd0 : decide (n ≤ p) = true := decide_eq_true (by omega)
    have hd1 : decide ((n : Int) ≤ (p : Int)) = true := decide_eq_true (by omega)
    go_enter Tryd.func27, Tryd.ntmps27
    go_wp2_with fail
    refine wp_region_flow 14 40 [] rfl rfl (by kernel_rfl) (by kernel_rfl) (by kernel_rfl) ?_ ?_
    · intro x hx φ he
      cases hx
    intro ops' A' K' T hops hA' hK hT
    refine fl_mv 5 (by rfl) (by decide) (wanted_none (by rfl)) (by rw [hK.out]; rfl) (by rfl) _ (Or.inl (by rfl)) (.pointer (some ⟨x, 0, none⟩)) (by rfl) ?_
    refine fl_op1 6 (by rfl) (by decide) (wanted_none (by rfl)) (by rw [hK.out]; rfl) (by rfl) (.tmp 5) (.pointer (some ⟨x, 0, none⟩)) (by rfl) (.pointer (some ⟨x, 0, none⟩)) (fun ρ h1 kk w1 (hg : Grow _ w1) hb hf => by go_simp) ?_
    refine fl_op1 7 (by rfl) (by decide) (wanted_none (by rfl)) (by rw [hK.out]; rfl) (by rfl) (.tmp 6) (.pointer (some ⟨x, 0, none⟩)) (by rfl) (.pointer (some ⟨x, 1, none⟩)) (fun ρ h1 kk w1 (hg : Grow _ w1) hb hf => by go_simp) ?_
    refine fl_op1 8 (by rfl) (by decide) (wanted_none (by rfl)) (by rw [hK.out]; rfl) (by rfl) (.tmp 7) (.pointer (some ⟨x, 1, none⟩)) (by rfl) (.int .i64 (p : Int)) (fun ρ h1 kk w1 (hg : Grow _ w1) hb hf => by have c := (hB.grow hg).cell 1; go_simp) ?_
    refine fl_mv 9 (by rfl) (by decide) (wanted_none (by rfl)) (by rw [hK.out]; rfl) (by rfl) _ (Or.inl (by rfl)) (.pointer (some ⟨x, 0, none⟩)) (by rfl) ?_
    refine fl_op1 10 (by rfl) (by decide) (wanted_none (by rfl)) (by rw [hK.out]; rfl) (by rfl) (.tmp 9) (.pointer (some ⟨x, 0, none⟩)) (by rfl) (.pointer (some ⟨x, 0, none⟩)) (fun ρ h1 kk w1 (hg : Grow _ w1) hb hf => by go_simp) ?_
    refine fl_op1 11 (by rfl) (by decide) (wanted_none (by rfl)) (by rw [hK.out]; rfl) (by rfl) (.tmp 10) (.pointer (some ⟨x, 0, none⟩)) (by rfl) (.pointer (some ⟨x, 0, none⟩)) (fun ρ h1 kk w1 (hg : Grow _ w1) hb hf => by go_simp) ?_
    refine fl_op1 12 (by rfl) (by decide) (wanted_none (by rfl)) (by rw [hK.out]; rfl) (by rfl) (.tmp 11) (.pointer (some ⟨x, 0, none⟩)) (by rfl) (.slice A n c) (fun ρ h1 kk w1 (hg : Grow _ w1) hb hf => by have c := (hB.grow hg).cell 0; go_simp) ?_
    refine fl_op1 13 (by rfl) (by decide) (wanted_none (by rfl)) (by rw [hK.out]; rfl) (by rfl) (.tmp 12) (.slice A n c) (by rfl) (.int .i64 (n : Int)) (fun ρ h1 kk w1 (hg : Grow _ w1) hb hf => by go_simp) ?_
    refine fl_op2 14 (by rfl) (by decide) (wanted_none (by rfl)) (by rw [hK.out]; rfl) (by rfl) (.tmp 8) (.tmp 13) (.int .i64 (p : Int)) (.int .i64 (n : Int)) (by rfl) (by rfl) (.bool true) (fun ρ h1 h2 kk w1 (hg : Grow _ w1) hb hf => by go_simp) ?_
    refine fl_mv 15 (by rfl) (by decide) (wanted_none (by rfl)) (by rw [hK.out]; rfl) (by rfl) _ (Or.inl (by rfl)) (.bool true) (by rfl) ?_
    refine fl_skip 16 (by rfl) (by decide) (wanted_if hops 10 false (by rfl) 15 (by rfl) true (by rfl)) (by rfl) ?_
    refine fl_skip 17 (by rfl) (by decide) (wanted_if hops 10 false (by rfl) 15 (by rfl) true (by rfl)) (by rfl) ?_
    refine fl_pick 18 (by rfl) (by decide) (wanted_none (by rfl)) (by rw [hK.out]; rfl) (by rfl) _ _ _ (by rfl) true (by rfl) (.bool true) (by rfl) ?_
    refine fl_end (fun _ _ w1 (hg : Grow _ w1) _ hfacts => hT _ _ ?_)
    clear hops hA' hK hT
    simp only [putsL, Act.put, List.setIfInBounds_toArray, List.set_cons_zero, List.set_cons_succ, List.drop_succ_cons, List.drop_zero]
    clear hfacts
    go_wp2_with fail
    go_ret
    exact ⟨0, by omega, rfl, h'.grow hg, Just.of_grow hg⟩
end Go.Proofs.YtidkhokecekpgaaDoor
