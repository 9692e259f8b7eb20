/- What a queue is; what is read of it. -/
import Derived.Test.YtnlfkeajolfboaaSome
namespace Go.Proofs.Ytnlfkeajolfboaa
open Go.RowKit Go.Hop
abbrev Ab := Int × List Dl
/-- a queue's block, its row, what the batches hold -/
def QueueAt (g : Nat) (l : List Ab) (last : Int) : Thing := fun w V =>
  V g ∧ ∃ (v : Value) (q : List Bat) (R D : Nat → Prop), q.map Bat.abs = l ∧ q.length ≤ 16 ∧ Blk w g 49 #[v, .int .i64 last] ∧ Row w R 32 2 v q.length (q.flatMap Bat.cells) ∧ (∀ b ∈ q, BatIn w D b) ∧ (∀ b, R b → V b ∧ b ≠ g ∧ ¬ D b) ∧ (∀ b, D b → V b ∧ b ≠ g)
theorem BatIn.keep {w w' : World} {V : Nat → Prop} {b : Bat} (h : BatIn w V b) (hk : ∀ b, V b → b < w.heap.size → w'.heap[b]? = w.heap[b]?) : BatIn w' V b := ⟨In.keep h.ds hk, h.le, h.max, h.small⟩
theorem QueueAt.framed (g : Nat) (l : List Ab) (last : Int) : Framed (QueueAt g l last) := fun w w' V h hk => by
  obtain ⟨h1, v, q, R, D, h2, h3, h4, h5, h6, h7, h8⟩ := h
  exact ⟨h1, v, q, R, D, h2, h3, (hk g h1).trans h4, h5.keep fun b hb _ => hk b (h7 b hb).1, fun b hb => (h6 b hb).keep fun x hx _ => hk x (h8 x hx).1, h7, h8⟩
theorem QueueAt.wide {g : Nat} {l : List Ab} {last : Int} {w : World} {V V' : Nat → Prop} (h : QueueAt g l last w V) (hV : ∀ b, V b → V' b) : QueueAt g l last w V' := by
  obtain ⟨h1, v, q, R, D, h2, h3, h4, h5, h6, h7, h8⟩ := h
  exact ⟨hV g h1, v, q, R, D, h2, h3, h4, h5, h6, fun b hb => ⟨hV b (h7 b hb).1, (h7 b hb).2⟩, fun b hb => ⟨hV b (h8 b hb).1, (h8 b hb).2⟩⟩
/-- what is read of it -/
theorem QueueAt.bats {g : Nat} {l : List Ab} {last : Int} {w : World} {V : Nat → Prop} (h : QueueAt g l last w V) :
    ∃ A c q, Hid (q.map Bat.abs = l) ∧ l.length ≤ 16 ∧ Blk w g 49 #[.slice A l.length c, .int .i64 last] ∧ Bats w V V A l.length q ∧ l.length ≤ c ∧ c ≤ maxLen := by
  obtain ⟨h1, v, q, R, D, rfl, h3, h4, h5, h6, h7, h8⟩ := h
  obtain ⟨A, c, rfl, hI, hn, hm⟩ := h5.in_
  have e : (q.map Bat.abs).length = q.length := List.length_map ..
  rw [e]
  exact ⟨A, c, q, Lib.hid rfl, h3, h4, ⟨hI.mono fun b hb => (h7 b hb).1, fun b hb => (h6 b hb).mono fun x hx => (h8 x hx).1⟩, hn, hm⟩
theorem New_any (w : World) :
    Calls Try.prog 8 #[] w fun e w' => e = .returned (.pointer (some ⟨w.heap.size, 0, none⟩)) ∧ QueueAt w.heap.size [] 0 w' (New w w') ∧ Grow w w' := by
  go_enter Try.func8, Try.ntmps8
  go_wp2_with fail
  go_ret
  exact ⟨rfl, ⟨⟨Nat.le_refl _, by simp⟩, _, [], fun _ => False, fun _ => False, rfl, by simp, Blk.made w _ _, Row.nil, by simp, fun _ h => h.elim, fun _ h => h.elim⟩, (Below.refl w.heap.size w).alloc (Nat.le_refl _) _⟩
theorem Len_any (w : World) (g : Nat) (l : List Ab) (last : Int) (V : Nat → Prop) (hQ : QueueAt g l last w V) :
    Calls Try.prog 11 #[.pointer (some ⟨g, 0, none⟩)] w fun e w' => e = .returned (.int .i64 (l.length : Int)) ∧ w = w' := by
  obtain ⟨A, c, q, HQ, h3, hB, hI, hn, hm⟩ := hQ.bats
  have c0 := hB.cell 0
  go_enter Try.func11, Try.ntmps11
  go_wp2_with fail
  go_ret
  exact ⟨rfl, rfl⟩
/-- batches by themselves -/
def IsBats (l : List Ab) (u : Value) (w : World) : Prop := ∃ A n c q, u = .slice A n c ∧ Bats w (fun _ => True) (fun _ => True) A n q ∧ q.map Bat.abs = l ∧ n ≤ c
theorem IsBats.grow {l : List Ab} {u : Value} {w w' : World} (h : IsBats l u w) (hg : Grow w w') : IsBats l u w' := by
  obtain ⟨A, n, c, q, e, h1, h2⟩ := h
  exact ⟨A, n, c, q, e, h1.grow hg, h2⟩
theorem All_any (w : World) (g : Nat) (l : List Ab) (last : Int) (V : Nat → Prop) (hQ : QueueAt g l last w V) :
    Calls Try.prog 15 #[.pointer (some ⟨g, 0, none⟩)] w fun e w' => ∃ A' q', e = .returned (.slice A' l.length l.length) ∧ Bats w' (New w w') (New w w') A' l.length q' ∧ q'.map Bat.abs = l ∧ Grow w w' := by
  obtain ⟨A, c, q, HQ, h3, hB, hI, hn, hm⟩ := hQ.bats
  have c0 := hB.cell 0
  go_enter Try.func15, Try.ntmps15
  go_wp2_with (go_at_call 25; refine (some_any _ V V A _ c q hI (by omega) hn).mono ?_; rintro e w1 ⟨A1, q1, rfl, hI1, he1, hg1⟩)
  go_ret
  exact ⟨A1, q1, rfl, hI1, he1.trans HQ.out, hg1⟩
theorem Flight_any (w : World) (g : Nat) (l : List Ab) (last : Int) (V : Nat → Prop) (hQ : QueueAt g l last w V) :
    Calls Try.prog 16 #[.pointer (some ⟨g, 0, none⟩)] w fun e w' => ∃ A' q', e = .returned (.slice A' (min l.length 4) (min l.length 4)) ∧ Bats w' (New w w') (New w w') A' (min l.length 4) q' ∧ q'.map Bat.abs = l.take 4 ∧ Grow w w' := by
  obtain ⟨A, c, q, HQ, h3, hB, hI, hn, hm⟩ := hQ.bats
  have e4 : (q.take (min l.length 4)).map Bat.abs = l.take 4 := by
    rw [List.map_take, HQ.out]
    rcases Nat.lt_or_ge l.length 4 with h | h
    · rw [List.take_of_length_le (i := 4) (by omega), List.take_of_length_le (by omega)]
    · rw [show min l.length 4 = 4 by omega]
  obtain ⟨M, HM⟩ : ∃ M : Nat, Hid (M = min l.length 4) := ⟨_, rfl⟩
  rw [← HM.out] at e4 ⊢
  have HT := Lib.hid e4
  clear e4
  have hM : M ≤ l.length := by rw [HM.out]; omega
  have hck : ¬ c < M := by omega
  have hc4 : (l.length ≤ 4 ∧ M = l.length) ∨ (4 < l.length ∧ M = 4) := by have := HM.out; omega
  go_enter Try.func16, Try.ntmps16
  go_wp2_with fail
  rcases hc4 with ⟨h4, hM4⟩ | ⟨h4, hM4⟩
  · have HM4 := Lib.hid hM4
    clear hM4
    refine wp_region_flow 11 15 [] rfl rfl (by kernel_rfl) (by kernel_rfl) (by kernel_rfl) ?_ ?_
    · intro x hx φ he
      cases hx
    intro ops' A' K' T hops hA' hK hT
    refine fl_mv 3 (by rfl) (by decide) (wanted_none (by rfl)) (by rw [hK.out]; rfl) (by rfl) _ (Or.inl (by rfl)) (.pointer (some ⟨g, 0, none⟩)) (by rfl) ?_
    refine fl_op1 4 (by rfl) (by decide) (wanted_none (by rfl)) (by rw [hK.out]; rfl) (by rfl) (.tmp 3) (.pointer (some ⟨g, 0, none⟩)) (by rfl) (.pointer (some ⟨g, 0, none⟩)) (fun ρ h1 kk w1 (hg : Grow _ w1) hb hf => by go_simp) ?_
    refine fl_op1 5 (by rfl) (by decide) (wanted_none (by rfl)) (by rw [hK.out]; rfl) (by rfl) (.tmp 4) (.pointer (some ⟨g, 0, none⟩)) (by rfl) (.pointer (some ⟨g, 0, none⟩)) (fun ρ h1 kk w1 (hg : Grow _ w1) hb hf => by go_simp) ?_
    refine fl_op1 6 (by rfl) (by decide) (wanted_none (by rfl)) (by rw [hK.out]; rfl) (by rfl) (.tmp 5) (.pointer (some ⟨g, 0, none⟩)) (by rfl) (.slice A l.length c) (fun ρ h1 kk w1 (hg : Grow _ w1) hb hf => by have c := (hB.grow hg).cell 0; go_simp) ?_
    refine fl_mv 7 (by rfl) (by decide) (wanted_none (by rfl)) (by rw [hK.out]; rfl) (by rfl) _ (Or.inl (by rfl)) (.pointer (some ⟨g, 0, none⟩)) (by rfl) ?_
    refine fl_op1 8 (by rfl) (by decide) (wanted_none (by rfl)) (by rw [hK.out]; rfl) (by rfl) (.tmp 7) (.pointer (some ⟨g, 0, none⟩)) (by rfl) (.pointer (some ⟨g, 0, none⟩)) (fun ρ h1 kk w1 (hg : Grow _ w1) hb hf => by go_simp) ?_
    refine fl_op1 9 (by rfl) (by decide) (wanted_none (by rfl)) (by rw [hK.out]; rfl) (by rfl) (.tmp 8) (.pointer (some ⟨g, 0, none⟩)) (by rfl) (.pointer (some ⟨g, 0, none⟩)) (fun ρ h1 kk w1 (hg : Grow _ w1) hb hf => by go_simp) ?_
    refine fl_op1 10 (by rfl) (by decide) (wanted_none (by rfl)) (by rw [hK.out]; rfl) (by rfl) (.tmp 9) (.pointer (some ⟨g, 0, none⟩)) (by rfl) (.slice A l.length c) (fun ρ h1 kk w1 (hg : Grow _ w1) hb hf => by have c := (hB.grow hg).cell 0; go_simp) ?_
    refine fl_op1 11 (by rfl) (by decide) (wanted_none (by rfl)) (by rw [hK.out]; rfl) (by rfl) (.tmp 10) (.slice A l.length c) (by rfl) (.int .i64 (l.length : Int)) (fun ρ h1 kk w1 (hg : Grow _ w1) hb hf => by go_simp) ?_
    refine fl_op2 12 (by rfl) (by decide) (wanted_none (by rfl)) (by rw [hK.out]; rfl) (by rfl) (.tmp 11) (.const (.int .i64 4)) (.int .i64 (l.length : Int)) (.int .i64 4) (by rfl) (by rfl) (.int .i64 (M : Int)) (fun ρ h1 h2 kk w1 (hg : Grow _ w1) hb hf => by have h5 := HM4.out; go_simp; omega) ?_
    refine fl_op2 13 (by rfl) (by decide) (wanted_none (by rfl)) (by rw [hK.out]; rfl) (by rfl) (.tmp 6) (.tmp 12) (.slice A l.length c) (.int .i64 (M : Int)) (by rfl) (by rfl) (.slice A M c) (fun ρ h1 h2 kk w1 (hg : Grow _ w1) hb hf => by go_simp) ?_
    refine fl_end (fun _ _ w1 (hg : Grow _ w1) _ hfacts => hT _ _ ?_)
    clear hops hA' hK hT
    simp only [putsL, Act.put, List.setIfInBounds_toArray, List.set_cons_zero, List.set_cons_succ, List.drop_succ_cons, List.drop_zero]
    go_wp2_with (go_at_call 25; refine (some_any _ V V A M c (q.take M) ((hI.grow hg).take hM) (by omega) (by omega)).mono ?_; rintro e w2 ⟨A1, q1, rfl, hI1, he1, hg1⟩)
    go_ret
    exact ⟨A1, q1, rfl, hI1.mono (fun b hb => ⟨Nat.le_trans hg.size hb.1, hb.2⟩) (fun b hb => ⟨Nat.le_trans hg.size hb.1, hb.2⟩), he1.trans HT.out, hg.trans hg1⟩
  · have HM4 := Lib.hid hM4
    clear hM4
    refine wp_region_flow 11 15 [] rfl rfl (by kernel_rfl) (by kernel_rfl) (by kernel_rfl) ?_ ?_
    · intro x hx φ he
      cases hx
    intro ops' A' K' T hops hA' hK hT
    refine fl_mv 3 (by rfl) (by decide) (wanted_none (by rfl)) (by rw [hK.out]; rfl) (by rfl) _ (Or.inl (by rfl)) (.pointer (some ⟨g, 0, none⟩)) (by rfl) ?_
    refine fl_op1 4 (by rfl) (by decide) (wanted_none (by rfl)) (by rw [hK.out]; rfl) (by rfl) (.tmp 3) (.pointer (some ⟨g, 0, none⟩)) (by rfl) (.pointer (some ⟨g, 0, none⟩)) (fun ρ h1 kk w1 (hg : Grow _ w1) hb hf => by go_simp) ?_
    refine fl_op1 5 (by rfl) (by decide) (wanted_none (by rfl)) (by rw [hK.out]; rfl) (by rfl) (.tmp 4) (.pointer (some ⟨g, 0, none⟩)) (by rfl) (.pointer (some ⟨g, 0, none⟩)) (fun ρ h1 kk w1 (hg : Grow _ w1) hb hf => by go_simp) ?_
    refine fl_op1 6 (by rfl) (by decide) (wanted_none (by rfl)) (by rw [hK.out]; rfl) (by rfl) (.tmp 5) (.pointer (some ⟨g, 0, none⟩)) (by rfl) (.slice A l.length c) (fun ρ h1 kk w1 (hg : Grow _ w1) hb hf => by have c := (hB.grow hg).cell 0; go_simp) ?_
    refine fl_mv 7 (by rfl) (by decide) (wanted_none (by rfl)) (by rw [hK.out]; rfl) (by rfl) _ (Or.inl (by rfl)) (.pointer (some ⟨g, 0, none⟩)) (by rfl) ?_
    refine fl_op1 8 (by rfl) (by decide) (wanted_none (by rfl)) (by rw [hK.out]; rfl) (by rfl) (.tmp 7) (.pointer (some ⟨g, 0, none⟩)) (by rfl) (.pointer (some ⟨g, 0, none⟩)) (fun ρ h1 kk w1 (hg : Grow _ w1) hb hf => by go_simp) ?_
    refine fl_op1 9 (by rfl) (by decide) (wanted_none (by rfl)) (by rw [hK.out]; rfl) (by rfl) (.tmp 8) (.pointer (some ⟨g, 0, none⟩)) (by rfl) (.pointer (some ⟨g, 0, none⟩)) (fun ρ h1 kk w1 (hg : Grow _ w1) hb hf => by go_simp) ?_
    refine fl_op1 10 (by rfl) (by decide) (wanted_none (by rfl)) (by rw [hK.out]; rfl) (by rfl) (.tmp 9) (.pointer (some ⟨g, 0, none⟩)) (by rfl) (.slice A l.length c) (fun ρ h1 kk w1 (hg : Grow _ w1) hb hf => by have c := (hB.grow hg).cell 0; go_simp) ?_
    refine fl_op1 11 (by rfl) (by decide) (wanted_none (by rfl)) (by rw [hK.out]; rfl) (by rfl) (.tmp 10) (.slice A l.length c) (by rfl) (.int .i64 (l.length : Int)) (fun ρ h1 kk w1 (hg : Grow _ w1) hb hf => by go_simp) ?_
    refine fl_op2 12 (by rfl) (by decide) (wanted_none (by rfl)) (by rw [hK.out]; rfl) (by rfl) (.tmp 11) (.const (.int .i64 4)) (.int .i64 (l.length : Int)) (.int .i64 4) (by rfl) (by rfl) (.int .i64 (M : Int)) (fun ρ h1 h2 kk w1 (hg : Grow _ w1) hb hf => by have h5 := HM4.out; go_simp; omega) ?_
    refine fl_op2 13 (by rfl) (by decide) (wanted_none (by rfl)) (by rw [hK.out]; rfl) (by rfl) (.tmp 6) (.tmp 12) (.slice A l.length c) (.int .i64 (M : Int)) (by rfl) (by rfl) (.slice A M c) (fun ρ h1 h2 kk w1 (hg : Grow _ w1) hb hf => by go_simp) ?_
    refine fl_end (fun _ _ w1 (hg : Grow _ w1) _ hfacts => hT _ _ ?_)
    clear hops hA' hK hT
    simp only [putsL, Act.put, List.setIfInBounds_toArray, List.set_cons_zero, List.set_cons_succ, List.drop_succ_cons, List.drop_zero]
    go_wp2_with (go_at_call 25; refine (some_any _ V V A M c (q.take M) ((hI.grow hg).take hM) (by omega) (by omega)).mono ?_; rintro e w2 ⟨A1, q1, rfl, hI1, he1, hg1⟩)
    go_ret
    exact ⟨A1, q1, rfl, hI1.mono (fun b hb => ⟨Nat.le_trans hg.size hb.1, hb.2⟩) (fun b hb => ⟨Nat.le_trans hg.size hb.1, hb.2⟩), he1.trans HT.out, hg.trans hg1⟩
end Go.Proofs.Ytnlfkeajolfboaa
