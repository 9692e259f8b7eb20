/- Queue.Add: what is refused. -/
import Derived.Test.YtnlfkeajolfboaaQue
namespace Go.Proofs.Ytnlfkeajolfboaa
open Go.RowKit Go.Hop
set_option maxRecDepth 20000 in
theorem Add_a (w : World) (g : Nat) (l : List Ab) (last seq : Int) (A : Option Addr) (m c : Nat) (h1 : seq < 1) :
    Turns Try.prog 9 #[.pointer (some ⟨g, 0, none⟩), .agg #[.int .i64 seq, .slice A m c]] (fun e => e = .returned (.int .i64 1)) (QueueAt g l last) (QueueAt g l last) w := by
  intro V hQ hV
  have hQ' := hQ
  obtain ⟨h1, v, q, R, D, hql, h3, hB, hRow, h6, h7, h8⟩ := hQ
  obtain ⟨A0, c0, rfl, hI, hnc, hm0⟩ := hRow.in_
  have hga : Grow w (w.alloc (.cells #[.int .i64 seq, .slice A m c] 32)) := (Below.refl w.heap.size w).alloc (Nat.le_refl _) _
  have hBx0 := Blk.made w 32 #[.int .i64 seq, .slice A m c]
  obtain ⟨x, HX⟩ : ∃ x : Nat, Hid (x = w.heap.size) := ⟨_, rfl⟩
  obtain ⟨wa, HA⟩ : ∃ wa : World, Hid (wa = w.alloc (.cells #[.int .i64 seq, .slice A m c] 32)) := ⟨_, rfl⟩
  have hsa : wa.heap.size = x + 1 := by rw [HA.out, HX.out]; simp
  have HSA := Lib.hid hsa
  clear hsa
  rw [← HA.out] at hga
  have hBx : Blk wa x 32 #[.int .i64 seq, .slice A m c] := by rw [HA.out, HX.out]; exact hBx0
  clear hBx0
  have hBq := hB.grow hga
  go_enter Try.func9, Try.ntmps9
  go_wp2_with fail
  rw [← HA.out, ← HX.out]
  refine wp_region_flow 25 53 [] rfl rfl (by kernel_rfl) (by kernel_rfl) (by kernel_rfl) ?_ ?_
  · intro x hx φ he
    cases hx
  intro ops' A' K' T hops hA' hK hT
  refine fl_op1 6 (by rfl) (by decide) (wanted_none (by rfl)) (by rw [hK.out]; rfl) (by rfl) (.tmp 3) (.pointer (some ⟨x, 0, none⟩)) (by rfl) (.pointer (some ⟨x, 0, none⟩)) (fun ρ h1 kk w1 (hg : Grow _ w1) hb hf => by go_simp) ?_
  refine fl_op1 7 (by rfl) (by decide) (wanted_none (by rfl)) (by rw [hK.out]; rfl) (by rfl) (.tmp 6) (.pointer (some ⟨x, 0, none⟩)) (by rfl) (.int .i64 seq) (fun ρ h1 kk w1 (hg : Grow _ w1) hb hf => by have c := (hBx.grow hg).cell 0; go_simp) ?_
  refine fl_op2 8 (by rfl) (by decide) (wanted_none (by rfl)) (by rw [hK.out]; rfl) (by rfl) (.tmp 7) (.const (.int .i64 1)) (.int .i64 seq) (.int .i64 1) (by rfl) (by rfl) (.bool true) (fun ρ h1 h2 kk w1 (hg : Grow _ w1) hb hf => by first | (go_simp; done) | (go_simp; omega)) ?_
  refine fl_mv 9 (by rfl) (by decide) (wanted_none (by rfl)) (by rw [hK.out]; rfl) (by rfl) _ (Or.inl (by rfl)) (.bool true) (by rfl) ?_
  refine fl_skip 10 (by rfl) (by decide) (wanted_if hops 3 false (by rfl) 9 (by rfl) true (by rfl)) (by rfl) ?_
  refine fl_skip 11 (by rfl) (by decide) (wanted_if hops 3 false (by rfl) 9 (by rfl) true (by rfl)) (by rfl) ?_
  refine fl_skip 12 (by rfl) (by decide) (wanted_if hops 3 false (by rfl) 9 (by rfl) true (by rfl)) (by rfl) ?_
  refine fl_skip 13 (by rfl) (by decide) (wanted_if hops 3 false (by rfl) 9 (by rfl) true (by rfl)) (by rfl) ?_
  refine fl_skip 14 (by rfl) (by decide) (wanted_if hops 3 false (by rfl) 9 (by rfl) true (by rfl)) (by rfl) ?_
  refine fl_skip 15 (by rfl) (by decide) (wanted_if hops 3 false (by rfl) 9 (by rfl) true (by rfl)) (by rfl) ?_
  refine fl_skip 16 (by rfl) (by decide) (wanted_if hops 3 false (by rfl) 9 (by rfl) true (by rfl)) (by rfl) ?_
  refine fl_pick 17 (by rfl) (by decide) (wanted_none (by rfl)) (by rw [hK.out]; rfl) (by rfl) _ _ _ (by rfl) true (by rfl) (.bool true) (by rfl) ?_
  refine fl_mv 18 (by rfl) (by decide) (wanted_none (by rfl)) (by rw [hK.out]; rfl) (by rfl) _ (Or.inl (by rfl)) (.bool true) (by rfl) ?_
  refine fl_skip 19 (by rfl) (by decide) (wanted_if hops 12 false (by rfl) 18 (by rfl) true (by rfl)) (by rfl) ?_
  refine fl_skip 20 (by rfl) (by decide) (wanted_if hops 12 false (by rfl) 18 (by rfl) true (by rfl)) (by rfl) ?_
  refine fl_skip 21 (by rfl) (by decide) (wanted_if hops 12 false (by rfl) 18 (by rfl) true (by rfl)) (by rfl) ?_
  refine fl_skip 22 (by rfl) (by decide) (wanted_if hops 12 false (by rfl) 18 (by rfl) true (by rfl)) (by rfl) ?_
  refine fl_pick 23 (by rfl) (by decide) (wanted_none (by rfl)) (by rw [hK.out]; rfl) (by rfl) _ _ _ (by rfl) true (by rfl) (.bool true) (by rfl) ?_
  refine fl_mv 24 (by rfl) (by decide) (wanted_none (by rfl)) (by rw [hK.out]; rfl) (by rfl) _ (Or.inl (by rfl)) (.bool true) (by rfl) ?_
  refine fl_skip 25 (by rfl) (by decide) (wanted_if hops 18 false (by rfl) 24 (by rfl) true (by rfl)) (by rfl) ?_
  refine fl_skip 26 (by rfl) (by decide) (wanted_if hops 18 false (by rfl) 24 (by rfl) true (by rfl)) (by rfl) ?_
  refine fl_skip 27 (by rfl) (by decide) (wanted_if hops 18 false (by rfl) 24 (by rfl) true (by rfl)) (by rfl) ?_
  refine fl_skip 28 (by rfl) (by decide) (wanted_if hops 18 false (by rfl) 24 (by rfl) true (by rfl)) (by rfl) ?_
  refine fl_pick 29 (by rfl) (by decide) (wanted_none (by rfl)) (by rw [hK.out]; rfl) (by rfl) _ _ _ (by rfl) true (by rfl) (.bool true) (by rfl) ?_
  refine fl_mv 5 (by rfl) (by decide) (wanted_none (by rfl)) (by rw [hK.out]; rfl) (by rfl) _ (Or.inr (by rfl)) (.bool true) (by rfl) ?_
  refine fl_end (fun _ _ w1 (hg : Grow _ w1) _ hfacts => hT _ _ ?_)
  clear hops hA' hK hT
  simp only [putsL, Act.put, List.setIfInBounds_toArray, List.set_cons_zero, List.set_cons_succ, List.drop_succ_cons, List.drop_zero]
  go_wp2_with fail
  go_ret
  exact ⟨rfl, QueueAt.wide (QueueAt.framed _ _ _ w w1 V hQ' fun b hb => (hga.trans hg).block b (hV b hb)) (fun _ => .inl), Just.of_grow (hga.trans hg)⟩
set_option maxRecDepth 20000 in
theorem Add_b (w : World) (g : Nat) (l : List Ab) (last seq : Int) (A : Option Addr) (m c : Nat) (h1 : ¬ seq < 1) (h2 : seq ≤ last) :
    Turns Try.prog 9 #[.pointer (some ⟨g, 0, none⟩), .agg #[.int .i64 seq, .slice A m c]] (fun e => e = .returned (.int .i64 1)) (QueueAt g l last) (QueueAt g l last) w := by
  intro V hQ hV
  have hQ' := hQ
  obtain ⟨h1, v, q, R, D, hql, h3, hB, hRow, h6, h7, h8⟩ := hQ
  obtain ⟨A0, c0, rfl, hI, hnc, hm0⟩ := hRow.in_
  have hga : Grow w (w.alloc (.cells #[.int .i64 seq, .slice A m c] 32)) := (Below.refl w.heap.size w).alloc (Nat.le_refl _) _
  have hBx0 := Blk.made w 32 #[.int .i64 seq, .slice A m c]
  obtain ⟨x, HX⟩ : ∃ x : Nat, Hid (x = w.heap.size) := ⟨_, rfl⟩
  obtain ⟨wa, HA⟩ : ∃ wa : World, Hid (wa = w.alloc (.cells #[.int .i64 seq, .slice A m c] 32)) := ⟨_, rfl⟩
  have hsa : wa.heap.size = x + 1 := by rw [HA.out, HX.out]; simp
  have HSA := Lib.hid hsa
  clear hsa
  rw [← HA.out] at hga
  have hBx : Blk wa x 32 #[.int .i64 seq, .slice A m c] := by rw [HA.out, HX.out]; exact hBx0
  clear hBx0
  have hBq := hB.grow hga
  go_enter Try.func9, Try.ntmps9
  go_wp2_with fail
  rw [← HA.out, ← HX.out]
  refine wp_region_flow 25 53 [] rfl rfl (by kernel_rfl) (by kernel_rfl) (by kernel_rfl) ?_ ?_
  · intro x hx φ he
    cases hx
  intro ops' A' K' T hops hA' hK hT
  refine fl_op1 6 (by rfl) (by decide) (wanted_none (by rfl)) (by rw [hK.out]; rfl) (by rfl) (.tmp 3) (.pointer (some ⟨x, 0, none⟩)) (by rfl) (.pointer (some ⟨x, 0, none⟩)) (fun ρ h1 kk w1 (hg : Grow _ w1) hb hf => by go_simp) ?_
  refine fl_op1 7 (by rfl) (by decide) (wanted_none (by rfl)) (by rw [hK.out]; rfl) (by rfl) (.tmp 6) (.pointer (some ⟨x, 0, none⟩)) (by rfl) (.int .i64 seq) (fun ρ h1 kk w1 (hg : Grow _ w1) hb hf => by have c := (hBx.grow hg).cell 0; go_simp) ?_
  refine fl_op2 8 (by rfl) (by decide) (wanted_none (by rfl)) (by rw [hK.out]; rfl) (by rfl) (.tmp 7) (.const (.int .i64 1)) (.int .i64 seq) (.int .i64 1) (by rfl) (by rfl) (.bool false) (fun ρ h1 h2 kk w1 (hg : Grow _ w1) hb hf => by first | (go_simp; done) | (go_simp; omega)) ?_
  refine fl_mv 9 (by rfl) (by decide) (wanted_none (by rfl)) (by rw [hK.out]; rfl) (by rfl) _ (Or.inl (by rfl)) (.bool false) (by rfl) ?_
  refine fl_op1 10 (by rfl) (by decide) (wanted_if hops 3 false (by rfl) 9 (by rfl) false (by rfl)) (by rw [hK.out]; rfl) (by rfl) (.tmp 3) (.pointer (some ⟨x, 0, none⟩)) (by rfl) (.pointer (some ⟨x, 0, none⟩)) (fun ρ h1 kk w1 (hg : Grow _ w1) hb hf => by go_simp) ?_
  refine fl_op1 11 (by rfl) (by decide) (wanted_if hops 3 false (by rfl) 9 (by rfl) false (by rfl)) (by rw [hK.out]; rfl) (by rfl) (.tmp 10) (.pointer (some ⟨x, 0, none⟩)) (by rfl) (.int .i64 seq) (fun ρ h1 kk w1 (hg : Grow _ w1) hb hf => by have c := (hBx.grow hg).cell 0; go_simp) ?_
  refine fl_mv 12 (by rfl) (by decide) (wanted_if hops 3 false (by rfl) 9 (by rfl) false (by rfl)) (by rw [hK.out]; rfl) (by rfl) _ (Or.inl (by rfl)) (.pointer (some ⟨g, 0, none⟩)) (by rfl) ?_
  refine fl_op1 13 (by rfl) (by decide) (wanted_if hops 3 false (by rfl) 9 (by rfl) false (by rfl)) (by rw [hK.out]; rfl) (by rfl) (.tmp 12) (.pointer (some ⟨g, 0, none⟩)) (by rfl) (.pointer (some ⟨g, 0, none⟩)) (fun ρ h1 kk w1 (hg : Grow _ w1) hb hf => by go_simp) ?_
  refine fl_op1 14 (by rfl) (by decide) (wanted_if hops 3 false (by rfl) 9 (by rfl) false (by rfl)) (by rw [hK.out]; rfl) (by rfl) (.tmp 13) (.pointer (some ⟨g, 0, none⟩)) (by rfl) (.pointer (some ⟨g, 1, none⟩)) (fun ρ h1 kk w1 (hg : Grow _ w1) hb hf => by go_simp) ?_
  refine fl_op1 15 (by rfl) (by decide) (wanted_if hops 3 false (by rfl) 9 (by rfl) false (by rfl)) (by rw [hK.out]; rfl) (by rfl) (.tmp 14) (.pointer (some ⟨g, 1, none⟩)) (by rfl) (.int .i64 last) (fun ρ h1 kk w1 (hg : Grow _ w1) hb hf => by have c := (hBq.grow hg).cell 1; go_simp) ?_
  refine fl_op2 16 (by rfl) (by decide) (wanted_if hops 3 false (by rfl) 9 (by rfl) false (by rfl)) (by rw [hK.out]; rfl) (by rfl) (.tmp 11) (.tmp 15) (.int .i64 seq) (.int .i64 last) (by rfl) (by rfl) (.bool true) (fun ρ h1 h2 kk w1 (hg : Grow _ w1) hb hf => by first | (go_simp; done) | (go_simp; omega)) ?_
  refine fl_pick 17 (by rfl) (by decide) (wanted_none (by rfl)) (by rw [hK.out]; rfl) (by rfl) _ _ _ (by rfl) false (by rfl) (.bool true) (by rfl) ?_
  refine fl_mv 18 (by rfl) (by decide) (wanted_none (by rfl)) (by rw [hK.out]; rfl) (by rfl) _ (Or.inl (by rfl)) (.bool true) (by rfl) ?_
  refine fl_skip 19 (by rfl) (by decide) (wanted_if hops 12 false (by rfl) 18 (by rfl) true (by rfl)) (by rfl) ?_
  refine fl_skip 20 (by rfl) (by decide) (wanted_if hops 12 false (by rfl) 18 (by rfl) true (by rfl)) (by rfl) ?_
  refine fl_skip 21 (by rfl) (by decide) (wanted_if hops 12 false (by rfl) 18 (by rfl) true (by rfl)) (by rfl) ?_
  refine fl_skip 22 (by rfl) (by decide) (wanted_if hops 12 false (by rfl) 18 (by rfl) true (by rfl)) (by rfl) ?_
  refine fl_pick 23 (by rfl) (by decide) (wanted_none (by rfl)) (by rw [hK.out]; rfl) (by rfl) _ _ _ (by rfl) true (by rfl) (.bool true) (by rfl) ?_
  refine fl_mv 24 (by rfl) (by decide) (wanted_none (by rfl)) (by rw [hK.out]; rfl) (by rfl) _ (Or.inl (by rfl)) (.bool true) (by rfl) ?_
  refine fl_skip 25 (by rfl) (by decide) (wanted_if hops 18 false (by rfl) 24 (by rfl) true (by rfl)) (by rfl) ?_
  refine fl_skip 26 (by rfl) (by decide) (wanted_if hops 18 false (by rfl) 24 (by rfl) true (by rfl)) (by rfl) ?_
  refine fl_skip 27 (by rfl) (by decide) (wanted_if hops 18 false (by rfl) 24 (by rfl) true (by rfl)) (by rfl) ?_
  refine fl_skip 28 (by rfl) (by decide) (wanted_if hops 18 false (by rfl) 24 (by rfl) true (by rfl)) (by rfl) ?_
  refine fl_pick 29 (by rfl) (by decide) (wanted_none (by rfl)) (by rw [hK.out]; rfl) (by rfl) _ _ _ (by rfl) true (by rfl) (.bool true) (by rfl) ?_
  refine fl_mv 5 (by rfl) (by decide) (wanted_none (by rfl)) (by rw [hK.out]; rfl) (by rfl) _ (Or.inr (by rfl)) (.bool true) (by rfl) ?_
  refine fl_end (fun _ _ w1 (hg : Grow _ w1) _ hfacts => hT _ _ ?_)
  clear hops hA' hK hT
  simp only [putsL, Act.put, List.setIfInBounds_toArray, List.set_cons_zero, List.set_cons_succ, List.drop_succ_cons, List.drop_zero]
  go_wp2_with fail
  go_ret
  exact ⟨rfl, QueueAt.wide (QueueAt.framed _ _ _ w w1 V hQ' fun b hb => (hga.trans hg).block b (hV b hb)) (fun _ => .inl), Just.of_grow (hga.trans hg)⟩
set_option maxRecDepth 20000 in
theorem Add_c (w : World) (g : Nat) (l : List Ab) (last seq : Int) (A : Option Addr) (m c : Nat) (h1 : ¬ seq < 1) (h2 : ¬ seq ≤ last) (h3 : m ≤ 0) :
    Turns Try.prog 9 #[.pointer (some ⟨g, 0, none⟩), .agg #[.int .i64 seq, .slice A m c]] (fun e => e = .returned (.int .i64 1)) (QueueAt g l last) (QueueAt g l last) w := by
  intro V hQ hV
  have hQ' := hQ
  obtain ⟨h1, v, q, R, D, hql, h3, hB, hRow, h6, h7, h8⟩ := hQ
  obtain ⟨A0, c0, rfl, hI, hnc, hm0⟩ := hRow.in_
  have hga : Grow w (w.alloc (.cells #[.int .i64 seq, .slice A m c] 32)) := (Below.refl w.heap.size w).alloc (Nat.le_refl _) _
  have hBx0 := Blk.made w 32 #[.int .i64 seq, .slice A m c]
  obtain ⟨x, HX⟩ : ∃ x : Nat, Hid (x = w.heap.size) := ⟨_, rfl⟩
  obtain ⟨wa, HA⟩ : ∃ wa : World, Hid (wa = w.alloc (.cells #[.int .i64 seq, .slice A m c] 32)) := ⟨_, rfl⟩
  have hsa : wa.heap.size = x + 1 := by rw [HA.out, HX.out]; simp
  have HSA := Lib.hid hsa
  clear hsa
  rw [← HA.out] at hga
  have hBx : Blk wa x 32 #[.int .i64 seq, .slice A m c] := by rw [HA.out, HX.out]; exact hBx0
  clear hBx0
  have hBq := hB.grow hga
  go_enter Try.func9, Try.ntmps9
  go_wp2_with fail
  rw [← HA.out, ← HX.out]
  refine wp_region_flow 25 53 [] rfl rfl (by kernel_rfl) (by kernel_rfl) (by kernel_rfl) ?_ ?_
  · intro x hx φ he
    cases hx
  intro ops' A' K' T hops hA' hK hT
  refine fl_op1 6 (by rfl) (by decide) (wanted_none (by rfl)) (by rw [hK.out]; rfl) (by rfl) (.tmp 3) (.pointer (some ⟨x, 0, none⟩)) (by rfl) (.pointer (some ⟨x, 0, none⟩)) (fun ρ h1 kk w1 (hg : Grow _ w1) hb hf => by go_simp) ?_
  refine fl_op1 7 (by rfl) (by decide) (wanted_none (by rfl)) (by rw [hK.out]; rfl) (by rfl) (.tmp 6) (.pointer (some ⟨x, 0, none⟩)) (by rfl) (.int .i64 seq) (fun ρ h1 kk w1 (hg : Grow _ w1) hb hf => by have c := (hBx.grow hg).cell 0; go_simp) ?_
  refine fl_op2 8 (by rfl) (by decide) (wanted_none (by rfl)) (by rw [hK.out]; rfl) (by rfl) (.tmp 7) (.const (.int .i64 1)) (.int .i64 seq) (.int .i64 1) (by rfl) (by rfl) (.bool false) (fun ρ h1 h2 kk w1 (hg : Grow _ w1) hb hf => by first | (go_simp; done) | (go_simp; omega)) ?_
  refine fl_mv 9 (by rfl) (by decide) (wanted_none (by rfl)) (by rw [hK.out]; rfl) (by rfl) _ (Or.inl (by rfl)) (.bool false) (by rfl) ?_
  refine fl_op1 10 (by rfl) (by decide) (wanted_if hops 3 false (by rfl) 9 (by rfl) false (by rfl)) (by rw [hK.out]; rfl) (by rfl) (.tmp 3) (.pointer (some ⟨x, 0, none⟩)) (by rfl) (.pointer (some ⟨x, 0, none⟩)) (fun ρ h1 kk w1 (hg : Grow _ w1) hb hf => by go_simp) ?_
  refine fl_op1 11 (by rfl) (by decide) (wanted_if hops 3 false (by rfl) 9 (by rfl) false (by rfl)) (by rw [hK.out]; rfl) (by rfl) (.tmp 10) (.pointer (some ⟨x, 0, none⟩)) (by rfl) (.int .i64 seq) (fun ρ h1 kk w1 (hg : Grow _ w1) hb hf => by have c := (hBx.grow hg).cell 0; go_simp) ?_
  refine fl_mv 12 (by rfl) (by decide) (wanted_if hops 3 false (by rfl) 9 (by rfl) false (by rfl)) (by rw [hK.out]; rfl) (by rfl) _ (Or.inl (by rfl)) (.pointer (some ⟨g, 0, none⟩)) (by rfl) ?_
  refine fl_op1 13 (by rfl) (by decide) (wanted_if hops 3 false (by rfl) 9 (by rfl) false (by rfl)) (by rw [hK.out]; rfl) (by rfl) (.tmp 12) (.pointer (some ⟨g, 0, none⟩)) (by rfl) (.pointer (some ⟨g, 0, none⟩)) (fun ρ h1 kk w1 (hg : Grow _ w1) hb hf => by go_simp) ?_
  refine fl_op1 14 (by rfl) (by decide) (wanted_if hops 3 false (by rfl) 9 (by rfl) false (by rfl)) (by rw [hK.out]; rfl) (by rfl) (.tmp 13) (.pointer (some ⟨g, 0, none⟩)) (by rfl) (.pointer (some ⟨g, 1, none⟩)) (fun ρ h1 kk w1 (hg : Grow _ w1) hb hf => by go_simp) ?_
  refine fl_op1 15 (by rfl) (by decide) (wanted_if hops 3 false (by rfl) 9 (by rfl) false (by rfl)) (by rw [hK.out]; rfl) (by rfl) (.tmp 14) (.pointer (some ⟨g, 1, none⟩)) (by rfl) (.int .i64 last) (fun ρ h1 kk w1 (hg : Grow _ w1) hb hf => by have c := (hBq.grow hg).cell 1; go_simp) ?_
  refine fl_op2 16 (by rfl) (by decide) (wanted_if hops 3 false (by rfl) 9 (by rfl) false (by rfl)) (by rw [hK.out]; rfl) (by rfl) (.tmp 11) (.tmp 15) (.int .i64 seq) (.int .i64 last) (by rfl) (by rfl) (.bool false) (fun ρ h1 h2 kk w1 (hg : Grow _ w1) hb hf => by first | (go_simp; done) | (go_simp; omega)) ?_
  refine fl_pick 17 (by rfl) (by decide) (wanted_none (by rfl)) (by rw [hK.out]; rfl) (by rfl) _ _ _ (by rfl) false (by rfl) (.bool false) (by rfl) ?_
  refine fl_mv 18 (by rfl) (by decide) (wanted_none (by rfl)) (by rw [hK.out]; rfl) (by rfl) _ (Or.inl (by rfl)) (.bool false) (by rfl) ?_
  refine fl_op1 19 (by rfl) (by decide) (wanted_if hops 12 false (by rfl) 18 (by rfl) false (by rfl)) (by rw [hK.out]; rfl) (by rfl) (.tmp 3) (.pointer (some ⟨x, 0, none⟩)) (by rfl) (.pointer (some ⟨x, 1, none⟩)) (fun ρ h1 kk w1 (hg : Grow _ w1) hb hf => by go_simp) ?_
  refine fl_op1 20 (by rfl) (by decide) (wanted_if hops 12 false (by rfl) 18 (by rfl) false (by rfl)) (by rw [hK.out]; rfl) (by rfl) (.tmp 19) (.pointer (some ⟨x, 1, none⟩)) (by rfl) (.slice A m c) (fun ρ h1 kk w1 (hg : Grow _ w1) hb hf => by have c := (hBx.grow hg).cell 1; go_simp) ?_
  refine fl_op1 21 (by rfl) (by decide) (wanted_if hops 12 false (by rfl) 18 (by rfl) false (by rfl)) (by rw [hK.out]; rfl) (by rfl) (.tmp 20) (.slice A m c) (by rfl) (.int .i64 (m : Int)) (fun ρ h1 kk w1 (hg : Grow _ w1) hb hf => by go_simp) ?_
  refine fl_op2 22 (by rfl) (by decide) (wanted_if hops 12 false (by rfl) 18 (by rfl) false (by rfl)) (by rw [hK.out]; rfl) (by rfl) (.tmp 21) (.const (.int .i64 0)) (.int .i64 (m : Int)) (.int .i64 0) (by rfl) (by rfl) (.bool true) (fun ρ h1 h2 kk w1 (hg : Grow _ w1) hb hf => by first | (go_simp; done) | (go_simp; omega)) ?_
  refine fl_pick 23 (by rfl) (by decide) (wanted_none (by rfl)) (by rw [hK.out]; rfl) (by rfl) _ _ _ (by rfl) false (by rfl) (.bool true) (by rfl) ?_
  refine fl_mv 24 (by rfl) (by decide) (wanted_none (by rfl)) (by rw [hK.out]; rfl) (by rfl) _ (Or.inl (by rfl)) (.bool true) (by rfl) ?_
  refine fl_skip 25 (by rfl) (by decide) (wanted_if hops 18 false (by rfl) 24 (by rfl) true (by rfl)) (by rfl) ?_
  refine fl_skip 26 (by rfl) (by decide) (wanted_if hops 18 false (by rfl) 24 (by rfl) true (by rfl)) (by rfl) ?_
  refine fl_skip 27 (by rfl) (by decide) (wanted_if hops 18 false (by rfl) 24 (by rfl) true (by rfl)) (by rfl) ?_
  refine fl_skip 28 (by rfl) (by decide) (wanted_if hops 18 false (by rfl) 24 (by rfl) true (by rfl)) (by rfl) ?_
  refine fl_pick 29 (by rfl) (by decide) (wanted_none (by rfl)) (by rw [hK.out]; rfl) (by rfl) _ _ _ (by rfl) true (by rfl) (.bool true) (by rfl) ?_
  refine fl_mv 5 (by rfl) (by decide) (wanted_none (by rfl)) (by rw [hK.out]; rfl) (by rfl) _ (Or.inr (by rfl)) (.bool true) (by rfl) ?_
  refine fl_end (fun _ _ w1 (hg : Grow _ w1) _ hfacts => hT _ _ ?_)
  clear hops hA' hK hT
  simp only [putsL, Act.put, List.setIfInBounds_toArray, List.set_cons_zero, List.set_cons_succ, List.drop_succ_cons, List.drop_zero]
  go_wp2_with fail
  go_ret
  exact ⟨rfl, QueueAt.wide (QueueAt.framed _ _ _ w w1 V hQ' fun b hb => (hga.trans hg).block b (hV b hb)) (fun _ => .inl), Just.of_grow (hga.trans hg)⟩
set_option maxRecDepth 20000 in
theorem Add_d (w : World) (g : Nat) (l : List Ab) (last seq : Int) (A : Option Addr) (m c : Nat) (h1 : ¬ seq < 1) (h2 : ¬ seq ≤ last) (h3 : 8 < m) :
    Turns Try.prog 9 #[.pointer (some ⟨g, 0, none⟩), .agg #[.int .i64 seq, .slice A m c]] (fun e => e = .returned (.int .i64 1)) (QueueAt g l last) (QueueAt g l last) w := by
  intro V hQ hV
  have hQ' := hQ
  obtain ⟨h1, v, q, R, D, hql, h3, hB, hRow, h6, h7, h8⟩ := hQ
  obtain ⟨A0, c0, rfl, hI, hnc, hm0⟩ := hRow.in_
  have hga : Grow w (w.alloc (.cells #[.int .i64 seq, .slice A m c] 32)) := (Below.refl w.heap.size w).alloc (Nat.le_refl _) _
  have hBx0 := Blk.made w 32 #[.int .i64 seq, .slice A m c]
  obtain ⟨x, HX⟩ : ∃ x : Nat, Hid (x = w.heap.size) := ⟨_, rfl⟩
  obtain ⟨wa, HA⟩ : ∃ wa : World, Hid (wa = w.alloc (.cells #[.int .i64 seq, .slice A m c] 32)) := ⟨_, rfl⟩
  have hsa : wa.heap.size = x + 1 := by rw [HA.out, HX.out]; simp
  have HSA := Lib.hid hsa
  clear hsa
  rw [← HA.out] at hga
  have hBx : Blk wa x 32 #[.int .i64 seq, .slice A m c] := by rw [HA.out, HX.out]; exact hBx0
  clear hBx0
  have hBq := hB.grow hga
  go_enter Try.func9, Try.ntmps9
  go_wp2_with fail
  rw [← HA.out, ← HX.out]
  refine wp_region_flow 25 53 [] rfl rfl (by kernel_rfl) (by kernel_rfl) (by kernel_rfl) ?_ ?_
  · intro x hx φ he
    cases hx
  intro ops' A' K' T hops hA' hK hT
  refine fl_op1 6 (by rfl) (by decide) (wanted_none (by rfl)) (by rw [hK.out]; rfl) (by rfl) (.tmp 3) (.pointer (some ⟨x, 0, none⟩)) (by rfl) (.pointer (some ⟨x, 0, none⟩)) (fun ρ h1 kk w1 (hg : Grow _ w1) hb hf => by go_simp) ?_
  refine fl_op1 7 (by rfl) (by decide) (wanted_none (by rfl)) (by rw [hK.out]; rfl) (by rfl) (.tmp 6) (.pointer (some ⟨x, 0, none⟩)) (by rfl) (.int .i64 seq) (fun ρ h1 kk w1 (hg : Grow _ w1) hb hf => by have c := (hBx.grow hg).cell 0; go_simp) ?_
  refine fl_op2 8 (by rfl) (by decide) (wanted_none (by rfl)) (by rw [hK.out]; rfl) (by rfl) (.tmp 7) (.const (.int .i64 1)) (.int .i64 seq) (.int .i64 1) (by rfl) (by rfl) (.bool false) (fun ρ h1 h2 kk w1 (hg : Grow _ w1) hb hf => by first | (go_simp; done) | (go_simp; omega)) ?_
  refine fl_mv 9 (by rfl) (by decide) (wanted_none (by rfl)) (by rw [hK.out]; rfl) (by rfl) _ (Or.inl (by rfl)) (.bool false) (by rfl) ?_
  refine fl_op1 10 (by rfl) (by decide) (wanted_if hops 3 false (by rfl) 9 (by rfl) false (by rfl)) (by rw [hK.out]; rfl) (by rfl) (.tmp 3) (.pointer (some ⟨x, 0, none⟩)) (by rfl) (.pointer (some ⟨x, 0, none⟩)) (fun ρ h1 kk w1 (hg : Grow _ w1) hb hf => by go_simp) ?_
  refine fl_op1 11 (by rfl) (by decide) (wanted_if hops 3 false (by rfl) 9 (by rfl) false (by rfl)) (by rw [hK.out]; rfl) (by rfl) (.tmp 10) (.pointer (some ⟨x, 0, none⟩)) (by rfl) (.int .i64 seq) (fun ρ h1 kk w1 (hg : Grow _ w1) hb hf => by have c := (hBx.grow hg).cell 0; go_simp) ?_
  refine fl_mv 12 (by rfl) (by decide) (wanted_if hops 3 false (by rfl) 9 (by rfl) false (by rfl)) (by rw [hK.out]; rfl) (by rfl) _ (Or.inl (by rfl)) (.pointer (some ⟨g, 0, none⟩)) (by rfl) ?_
  refine fl_op1 13 (by rfl) (by decide) (wanted_if hops 3 false (by rfl) 9 (by rfl) false (by rfl)) (by rw [hK.out]; rfl) (by rfl) (.tmp 12) (.pointer (some ⟨g, 0, none⟩)) (by rfl) (.pointer (some ⟨g, 0, none⟩)) (fun ρ h1 kk w1 (hg : Grow _ w1) hb hf => by go_simp) ?_
  refine fl_op1 14 (by rfl) (by decide) (wanted_if hops 3 false (by rfl) 9 (by rfl) false (by rfl)) (by rw [hK.out]; rfl) (by rfl) (.tmp 13) (.pointer (some ⟨g, 0, none⟩)) (by rfl) (.pointer (some ⟨g, 1, none⟩)) (fun ρ h1 kk w1 (hg : Grow _ w1) hb hf => by go_simp) ?_
  refine fl_op1 15 (by rfl) (by decide) (wanted_if hops 3 false (by rfl) 9 (by rfl) false (by rfl)) (by rw [hK.out]; rfl) (by rfl) (.tmp 14) (.pointer (some ⟨g, 1, none⟩)) (by rfl) (.int .i64 last) (fun ρ h1 kk w1 (hg : Grow _ w1) hb hf => by have c := (hBq.grow hg).cell 1; go_simp) ?_
  refine fl_op2 16 (by rfl) (by decide) (wanted_if hops 3 false (by rfl) 9 (by rfl) false (by rfl)) (by rw [hK.out]; rfl) (by rfl) (.tmp 11) (.tmp 15) (.int .i64 seq) (.int .i64 last) (by rfl) (by rfl) (.bool false) (fun ρ h1 h2 kk w1 (hg : Grow _ w1) hb hf => by first | (go_simp; done) | (go_simp; omega)) ?_
  refine fl_pick 17 (by rfl) (by decide) (wanted_none (by rfl)) (by rw [hK.out]; rfl) (by rfl) _ _ _ (by rfl) false (by rfl) (.bool false) (by rfl) ?_
  refine fl_mv 18 (by rfl) (by decide) (wanted_none (by rfl)) (by rw [hK.out]; rfl) (by rfl) _ (Or.inl (by rfl)) (.bool false) (by rfl) ?_
  refine fl_op1 19 (by rfl) (by decide) (wanted_if hops 12 false (by rfl) 18 (by rfl) false (by rfl)) (by rw [hK.out]; rfl) (by rfl) (.tmp 3) (.pointer (some ⟨x, 0, none⟩)) (by rfl) (.pointer (some ⟨x, 1, none⟩)) (fun ρ h1 kk w1 (hg : Grow _ w1) hb hf => by go_simp) ?_
  refine fl_op1 20 (by rfl) (by decide) (wanted_if hops 12 false (by rfl) 18 (by rfl) false (by rfl)) (by rw [hK.out]; rfl) (by rfl) (.tmp 19) (.pointer (some ⟨x, 1, none⟩)) (by rfl) (.slice A m c) (fun ρ h1 kk w1 (hg : Grow _ w1) hb hf => by have c := (hBx.grow hg).cell 1; go_simp) ?_
  refine fl_op1 21 (by rfl) (by decide) (wanted_if hops 12 false (by rfl) 18 (by rfl) false (by rfl)) (by rw [hK.out]; rfl) (by rfl) (.tmp 20) (.slice A m c) (by rfl) (.int .i64 (m : Int)) (fun ρ h1 kk w1 (hg : Grow _ w1) hb hf => by go_simp) ?_
  refine fl_op2 22 (by rfl) (by decide) (wanted_if hops 12 false (by rfl) 18 (by rfl) false (by rfl)) (by rw [hK.out]; rfl) (by rfl) (.tmp 21) (.const (.int .i64 0)) (.int .i64 (m : Int)) (.int .i64 0) (by rfl) (by rfl) (.bool false) (fun ρ h1 h2 kk w1 (hg : Grow _ w1) hb hf => by first | (go_simp; done) | (go_simp; omega)) ?_
  refine fl_pick 23 (by rfl) (by decide) (wanted_none (by rfl)) (by rw [hK.out]; rfl) (by rfl) _ _ _ (by rfl) false (by rfl) (.bool false) (by rfl) ?_
  refine fl_mv 24 (by rfl) (by decide) (wanted_none (by rfl)) (by rw [hK.out]; rfl) (by rfl) _ (Or.inl (by rfl)) (.bool false) (by rfl) ?_
  refine fl_op1 25 (by rfl) (by decide) (wanted_if hops 18 false (by rfl) 24 (by rfl) false (by rfl)) (by rw [hK.out]; rfl) (by rfl) (.tmp 3) (.pointer (some ⟨x, 0, none⟩)) (by rfl) (.pointer (some ⟨x, 1, none⟩)) (fun ρ h1 kk w1 (hg : Grow _ w1) hb hf => by go_simp) ?_
  refine fl_op1 26 (by rfl) (by decide) (wanted_if hops 18 false (by rfl) 24 (by rfl) false (by rfl)) (by rw [hK.out]; rfl) (by rfl) (.tmp 25) (.pointer (some ⟨x, 1, none⟩)) (by rfl) (.slice A m c) (fun ρ h1 kk w1 (hg : Grow _ w1) hb hf => by have c := (hBx.grow hg).cell 1; go_simp) ?_
  refine fl_op1 27 (by rfl) (by decide) (wanted_if hops 18 false (by rfl) 24 (by rfl) false (by rfl)) (by rw [hK.out]; rfl) (by rfl) (.tmp 26) (.slice A m c) (by rfl) (.int .i64 (m : Int)) (fun ρ h1 kk w1 (hg : Grow _ w1) hb hf => by go_simp) ?_
  refine fl_op2 28 (by rfl) (by decide) (wanted_if hops 18 false (by rfl) 24 (by rfl) false (by rfl)) (by rw [hK.out]; rfl) (by rfl) (.tmp 27) (.const (.int .i64 8)) (.int .i64 (m : Int)) (.int .i64 8) (by rfl) (by rfl) (.bool true) (fun ρ h1 h2 kk w1 (hg : Grow _ w1) hb hf => by first | (go_simp; done) | (go_simp; omega)) ?_
  refine fl_pick 29 (by rfl) (by decide) (wanted_none (by rfl)) (by rw [hK.out]; rfl) (by rfl) _ _ _ (by rfl) false (by rfl) (.bool true) (by rfl) ?_
  refine fl_mv 5 (by rfl) (by decide) (wanted_none (by rfl)) (by rw [hK.out]; rfl) (by rfl) _ (Or.inr (by rfl)) (.bool true) (by rfl) ?_
  refine fl_end (fun _ _ w1 (hg : Grow _ w1) _ hfacts => hT _ _ ?_)
  clear hops hA' hK hT
  simp only [putsL, Act.put, List.setIfInBounds_toArray, List.set_cons_zero, List.set_cons_succ, List.drop_succ_cons, List.drop_zero]
  go_wp2_with fail
  go_ret
  exact ⟨rfl, QueueAt.wide (QueueAt.framed _ _ _ w w1 V hQ' fun b hb => (hga.trans hg).block b (hV b hb)) (fun _ => .inl), Just.of_grow (hga.trans hg)⟩

set_option maxRecDepth 20000 in
theorem Add_full (w : World) (g : Nat) (l : List Ab) (last seq : Int) (A : Option Addr) (m c : Nat) (ha : ¬ seq < 1) (hb : ¬ seq ≤ last) (hc : 0 < m) (hd : m ≤ 8) (hl : l.length = 16) :
    Turns Try.prog 9 #[.pointer (some ⟨g, 0, none⟩), .agg #[.int .i64 seq, .slice A m c]] (fun e => e = .returned (.int .i64 24)) (QueueAt g l last) (QueueAt g l last) w := by
  intro V hQ hV
  have hQ' := hQ
  obtain ⟨h1, v, q, R, D, hql, h3, hB, hRow, h6, h7, h8⟩ := hQ
  obtain ⟨A0, c0, rfl, hI, hnc, hm0⟩ := hRow.in_
  have hga : Grow w (w.alloc (.cells #[.int .i64 seq, .slice A m c] 32)) := (Below.refl w.heap.size w).alloc (Nat.le_refl _) _
  have hBx0 := Blk.made w 32 #[.int .i64 seq, .slice A m c]
  obtain ⟨x, HX⟩ : ∃ x : Nat, Hid (x = w.heap.size) := ⟨_, rfl⟩
  obtain ⟨wa, HA⟩ : ∃ wa : World, Hid (wa = w.alloc (.cells #[.int .i64 seq, .slice A m c] 32)) := ⟨_, rfl⟩
  have hsa : wa.heap.size = x + 1 := by rw [HA.out, HX.out]; simp
  have HSA := Lib.hid hsa
  clear hsa
  rw [← HA.out] at hga
  have hBx : Blk wa x 32 #[.int .i64 seq, .slice A m c] := by rw [HA.out, HX.out]; exact hBx0
  clear hBx0
  have hBq := hB.grow hga
  have hq16 : q.length = 16 := by rw [← hl, ← hql, List.length_map]
  have hq17 := Nat.le_of_eq hq16.symm
  clear hq16 hql hl
  go_enter Try.func9, Try.ntmps9
  go_wp2_with fail
  rw [← HA.out, ← HX.out]
  refine wp_region_flow 25 53 [] rfl rfl (by kernel_rfl) (by kernel_rfl) (by kernel_rfl) ?_ ?_
  · intro x hx φ he
    cases hx
  intro ops' A' K' T hops hA' hK hT
  refine fl_op1 6 (by rfl) (by decide) (wanted_none (by rfl)) (by rw [hK.out]; rfl) (by rfl) (.tmp 3) (.pointer (some ⟨x, 0, none⟩)) (by rfl) (.pointer (some ⟨x, 0, none⟩)) (fun ρ h1 kk w1 (hg : Grow _ w1) hb hf => by go_simp) ?_
  refine fl_op1 7 (by rfl) (by decide) (wanted_none (by rfl)) (by rw [hK.out]; rfl) (by rfl) (.tmp 6) (.pointer (some ⟨x, 0, none⟩)) (by rfl) (.int .i64 seq) (fun ρ h1 kk w1 (hg : Grow _ w1) hb hf => by have c := (hBx.grow hg).cell 0; go_simp) ?_
  refine fl_op2 8 (by rfl) (by decide) (wanted_none (by rfl)) (by rw [hK.out]; rfl) (by rfl) (.tmp 7) (.const (.int .i64 1)) (.int .i64 seq) (.int .i64 1) (by rfl) (by rfl) (.bool false) (fun ρ h1 h2 kk w1 (hg : Grow _ w1) hb hf => by first | (go_simp; done) | (go_simp; omega)) ?_
  refine fl_mv 9 (by rfl) (by decide) (wanted_none (by rfl)) (by rw [hK.out]; rfl) (by rfl) _ (Or.inl (by rfl)) (.bool false) (by rfl) ?_
  refine fl_op1 10 (by rfl) (by decide) (wanted_if hops 3 false (by rfl) 9 (by rfl) false (by rfl)) (by rw [hK.out]; rfl) (by rfl) (.tmp 3) (.pointer (some ⟨x, 0, none⟩)) (by rfl) (.pointer (some ⟨x, 0, none⟩)) (fun ρ h1 kk w1 (hg : Grow _ w1) hb hf => by go_simp) ?_
  refine fl_op1 11 (by rfl) (by decide) (wanted_if hops 3 false (by rfl) 9 (by rfl) false (by rfl)) (by rw [hK.out]; rfl) (by rfl) (.tmp 10) (.pointer (some ⟨x, 0, none⟩)) (by rfl) (.int .i64 seq) (fun ρ h1 kk w1 (hg : Grow _ w1) hb hf => by have c := (hBx.grow hg).cell 0; go_simp) ?_
  refine fl_mv 12 (by rfl) (by decide) (wanted_if hops 3 false (by rfl) 9 (by rfl) false (by rfl)) (by rw [hK.out]; rfl) (by rfl) _ (Or.inl (by rfl)) (.pointer (some ⟨g, 0, none⟩)) (by rfl) ?_
  refine fl_op1 13 (by rfl) (by decide) (wanted_if hops 3 false (by rfl) 9 (by rfl) false (by rfl)) (by rw [hK.out]; rfl) (by rfl) (.tmp 12) (.pointer (some ⟨g, 0, none⟩)) (by rfl) (.pointer (some ⟨g, 0, none⟩)) (fun ρ h1 kk w1 (hg : Grow _ w1) hb hf => by go_simp) ?_
  refine fl_op1 14 (by rfl) (by decide) (wanted_if hops 3 false (by rfl) 9 (by rfl) false (by rfl)) (by rw [hK.out]; rfl) (by rfl) (.tmp 13) (.pointer (some ⟨g, 0, none⟩)) (by rfl) (.pointer (some ⟨g, 1, none⟩)) (fun ρ h1 kk w1 (hg : Grow _ w1) hb hf => by go_simp) ?_
  refine fl_op1 15 (by rfl) (by decide) (wanted_if hops 3 false (by rfl) 9 (by rfl) false (by rfl)) (by rw [hK.out]; rfl) (by rfl) (.tmp 14) (.pointer (some ⟨g, 1, none⟩)) (by rfl) (.int .i64 last) (fun ρ h1 kk w1 (hg : Grow _ w1) hb hf => by have c := (hBq.grow hg).cell 1; go_simp) ?_
  refine fl_op2 16 (by rfl) (by decide) (wanted_if hops 3 false (by rfl) 9 (by rfl) false (by rfl)) (by rw [hK.out]; rfl) (by rfl) (.tmp 11) (.tmp 15) (.int .i64 seq) (.int .i64 last) (by rfl) (by rfl) (.bool false) (fun ρ h1 h2 kk w1 (hg : Grow _ w1) hb hf => by first | (go_simp; done) | (go_simp; omega)) ?_
  refine fl_pick 17 (by rfl) (by decide) (wanted_none (by rfl)) (by rw [hK.out]; rfl) (by rfl) _ _ _ (by rfl) false (by rfl) (.bool false) (by rfl) ?_
  refine fl_mv 18 (by rfl) (by decide) (wanted_none (by rfl)) (by rw [hK.out]; rfl) (by rfl) _ (Or.inl (by rfl)) (.bool false) (by rfl) ?_
  refine fl_op1 19 (by rfl) (by decide) (wanted_if hops 12 false (by rfl) 18 (by rfl) false (by rfl)) (by rw [hK.out]; rfl) (by rfl) (.tmp 3) (.pointer (some ⟨x, 0, none⟩)) (by rfl) (.pointer (some ⟨x, 1, none⟩)) (fun ρ h1 kk w1 (hg : Grow _ w1) hb hf => by go_simp) ?_
  refine fl_op1 20 (by rfl) (by decide) (wanted_if hops 12 false (by rfl) 18 (by rfl) false (by rfl)) (by rw [hK.out]; rfl) (by rfl) (.tmp 19) (.pointer (some ⟨x, 1, none⟩)) (by rfl) (.slice A m c) (fun ρ h1 kk w1 (hg : Grow _ w1) hb hf => by have c := (hBx.grow hg).cell 1; go_simp) ?_
  refine fl_op1 21 (by rfl) (by decide) (wanted_if hops 12 false (by rfl) 18 (by rfl) false (by rfl)) (by rw [hK.out]; rfl) (by rfl) (.tmp 20) (.slice A m c) (by rfl) (.int .i64 (m : Int)) (fun ρ h1 kk w1 (hg : Grow _ w1) hb hf => by go_simp) ?_
  refine fl_op2 22 (by rfl) (by decide) (wanted_if hops 12 false (by rfl) 18 (by rfl) false (by rfl)) (by rw [hK.out]; rfl) (by rfl) (.tmp 21) (.const (.int .i64 0)) (.int .i64 (m : Int)) (.int .i64 0) (by rfl) (by rfl) (.bool false) (fun ρ h1 h2 kk w1 (hg : Grow _ w1) hb hf => by first | (go_simp; done) | (go_simp; omega)) ?_
  refine fl_pick 23 (by rfl) (by decide) (wanted_none (by rfl)) (by rw [hK.out]; rfl) (by rfl) _ _ _ (by rfl) false (by rfl) (.bool false) (by rfl) ?_
  refine fl_mv 24 (by rfl) (by decide) (wanted_none (by rfl)) (by rw [hK.out]; rfl) (by rfl) _ (Or.inl (by rfl)) (.bool false) (by rfl) ?_
  refine fl_op1 25 (by rfl) (by decide) (wanted_if hops 18 false (by rfl) 24 (by rfl) false (by rfl)) (by rw [hK.out]; rfl) (by rfl) (.tmp 3) (.pointer (some ⟨x, 0, none⟩)) (by rfl) (.pointer (some ⟨x, 1, none⟩)) (fun ρ h1 kk w1 (hg : Grow _ w1) hb hf => by go_simp) ?_
  refine fl_op1 26 (by rfl) (by decide) (wanted_if hops 18 false (by rfl) 24 (by rfl) false (by rfl)) (by rw [hK.out]; rfl) (by rfl) (.tmp 25) (.pointer (some ⟨x, 1, none⟩)) (by rfl) (.slice A m c) (fun ρ h1 kk w1 (hg : Grow _ w1) hb hf => by have c := (hBx.grow hg).cell 1; go_simp) ?_
  refine fl_op1 27 (by rfl) (by decide) (wanted_if hops 18 false (by rfl) 24 (by rfl) false (by rfl)) (by rw [hK.out]; rfl) (by rfl) (.tmp 26) (.slice A m c) (by rfl) (.int .i64 (m : Int)) (fun ρ h1 kk w1 (hg : Grow _ w1) hb hf => by go_simp) ?_
  refine fl_op2 28 (by rfl) (by decide) (wanted_if hops 18 false (by rfl) 24 (by rfl) false (by rfl)) (by rw [hK.out]; rfl) (by rfl) (.tmp 27) (.const (.int .i64 8)) (.int .i64 (m : Int)) (.int .i64 8) (by rfl) (by rfl) (.bool false) (fun ρ h1 h2 kk w1 (hg : Grow _ w1) hb hf => by first | (go_simp; done) | (go_simp; omega)) ?_
  refine fl_pick 29 (by rfl) (by decide) (wanted_none (by rfl)) (by rw [hK.out]; rfl) (by rfl) _ _ _ (by rfl) false (by rfl) (.bool false) (by rfl) ?_
  refine fl_mv 5 (by rfl) (by decide) (wanted_none (by rfl)) (by rw [hK.out]; rfl) (by rfl) _ (Or.inr (by rfl)) (.bool false) (by rfl) ?_
  refine fl_end (fun _ _ w1 (hg : Grow _ w1) _ hfacts => hT _ _ ?_)
  clear hops hA' hK hT
  simp only [putsL, Act.put, List.setIfInBounds_toArray, List.set_cons_zero, List.set_cons_succ, List.drop_succ_cons, List.drop_zero]
  have c00 := (hBq.grow hg).cell 0
  go_wp2_with fail
  go_ret
  exact ⟨rfl, QueueAt.wide (QueueAt.framed _ _ _ w w1 V hQ' fun b hb => (hga.trans hg).block b (hV b hb)) (fun _ => .inl), Just.of_grow (hga.trans hg)⟩
end Go.Proofs.Ytnlfkeajolfboaa
