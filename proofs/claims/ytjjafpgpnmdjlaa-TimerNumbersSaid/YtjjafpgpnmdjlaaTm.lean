/- Timers: what they are; New, Len, Next, Stop, Set. -/
import Derived.Test.YtjjafpgpnmdjlaaHeap2
import Derived.Test.YtjjafpgpnmdjlaaSrt
import Derived.Test.YtjjafpgpnmdjlaaMore
namespace Go.Proofs.Ytjjafpgpnmdjlaa
open Go.RowKit Go.Hop
/-- timers that hold S, in blocks of V -/
def TimersAt (t : Nat) (S : List It) : Thing := fun w V =>
  V t ∧ ∃ (r : Nat) (h : List It) (U : Nat → Prop), Blk w t 52 #[.pointer (some ⟨r, 0, none⟩)] ∧ RowsAt r h w U ∧ (∀ b, U b → V b ∧ b ≠ t) ∧ HeapN h.length h ∧ h.Perm S ∧ Sorted S
theorem TimersAt.framed (t : Nat) (S : List It) : Framed (TimersAt t S) := fun w w' V hh hk => by
  obtain ⟨h1, r, h, U, h2, h3, h4, h5⟩ := hh
  exact ⟨h1, r, h, U, (hk t h1).trans h2, RowsAt.framed r h w w' U h3 fun b hb => hk b (h4 b hb).1, h4, h5⟩
theorem timers_wide (t : Nat) (S : List It) : Wide (TimersAt t S) := fun w V V' hh hV => by
  obtain ⟨h1, r, h, U, h2, h3, h4, h5⟩ := hh
  exact ⟨hV t h1, r, h, U, h2, h3, fun b hb => ⟨hV b (h4 b hb).1, (h4 b hb).2⟩, h5⟩
theorem RowsAt.good {r : Nat} {h : List It} {w : World} {V : Nat → Prop} (hQ : RowsAt r h w V) : Good h := by
  obtain ⟨_, _, _, _, _, _, _, _, _, hG, _⟩ := hQ; exact hG
theorem TimersAt.facts {t : Nat} {S : List It} {w : World} {V : Nat → Prop} (hh : TimersAt t S w V) : Keys S ∧ Sorted S ∧ S.length ≤ 1048576 ∧ ∀ a ∈ S, in64 a.1 ∧ in64 a.2 := by
  obtain ⟨_, r, h, U, _, h3, _, _, hp, hs⟩ := hh
  have hG := h3.good
  exact ⟨Keys.perm hG.1 hp.symm, hs, by rw [← hp.length_eq]; exact hG.2.2, fun a ha => hG.2.1 a (hp.mem_iff.2 ha)⟩
theorem New_any (w : World) : Calls Try.prog 10 #[] w fun e w' => ∃ t, e = .returned (.pointer (some ⟨t, 0, none⟩)) ∧ TimersAt t [] w' (New w w') ∧ Grow w w' := by
  have hmm := @run_makeMap Try.prog
  have hP := (PMap.made (P := Try.prog) (k := 2) (e := 3) (qk := .i64) (qe := .i64) w)
  have hg0 : Grow w (w.alloc (.map #[] 0)) := (Below.refl _ _).alloc (Nat.le_refl _) _
  have hs1 : (w.alloc (.map #[] 0)).heap.size = w.heap.size + 1 := by simp
  have hB1 := Blk.made (w.alloc (.map #[] 0)) 50 #[.slice none 0 0, .map (some w.heap.size)]
  have hg1 : Grow (w.alloc (.map #[] 0)) ((w.alloc (.map #[] 0)).alloc (.cells #[.slice none 0 0, .map (some w.heap.size)] 50)) := (Below.refl _ _).alloc (Nat.le_refl _) _
  have hs2 : ((w.alloc (.map #[] 0)).alloc (.cells #[.slice none 0 0, .map (some w.heap.size)] 50)).heap.size = w.heap.size + 2 := by simp
  have hB2 := Blk.made ((w.alloc (.map #[] 0)).alloc (.cells #[.slice none 0 0, .map (some w.heap.size)] 50)) 52 #[.pointer (some ⟨w.heap.size + 1, 0, none⟩)]
  have hg2 : Grow ((w.alloc (.map #[] 0)).alloc (.cells #[.slice none 0 0, .map (some w.heap.size)] 50)) (((w.alloc (.map #[] 0)).alloc (.cells #[.slice none 0 0, .map (some w.heap.size)] 50)).alloc (.cells #[.pointer (some ⟨w.heap.size + 1, 0, none⟩)] 52)) := (Below.refl _ _).alloc (Nat.le_refl _) _
  have hs3 : (((w.alloc (.map #[] 0)).alloc (.cells #[.slice none 0 0, .map (some w.heap.size)] 50)).alloc (.cells #[.pointer (some ⟨w.heap.size + 1, 0, none⟩)] 52)).heap.size = w.heap.size + 3 := by simp
  rw [hs1] at hB1
  rw [hs2] at hB2
  have hP3 := (hP.grow hg1).grow hg2
  have hB13 := hB1.grow hg2
  have hgg := (hg0.trans hg1).trans hg2
  obtain ⟨x, HX⟩ : ∃ x : Nat, Hid (x = w.heap.size) := ⟨_, rfl⟩
  have HW := Lib.hid (And.intro hP3 (And.intro hB13 (And.intro hB2 (And.intro hgg hs3))))
  clear hP hg0 hs1 hB1 hg1 hs2 hB2 hg2 hs3 hP3 hB13 hgg
  go_enter Try.func10, Try.ntmps10
  go_wp2_with fail
  go_ret
  obtain ⟨h1, h2, h3, h4, h5⟩ := HW.out
  refine ⟨w.heap.size + 2, rfl, ⟨⟨by omega, by rw [h5]; omega⟩, w.heap.size + 1, [], fun b => b = w.heap.size ∨ b = w.heap.size + 1, h3, ⟨.inr rfl, .slice none 0 0, fun _ => False, w.heap.size, fun _ => none, h2, Row.nil, h1, fun k p => ?_, ⟨by simp, by simp, by simp⟩, fun _ hb => hb.elim, .inl rfl, by omega⟩, fun b hb => ⟨⟨?_, ?_⟩, ?_⟩, fun k k1 k2 => ?_, List.Perm.refl _, List.Pairwise.nil⟩, h4⟩
  · constructor
    · intro h; cases h
    · rintro ⟨i, hi, _⟩; simp at hi
  · rcases hb with rfl | rfl <;> omega
  · rw [h5]; rcases hb with rfl | rfl <;> omega
  · rcases hb with rfl | rfl <;> omega
  · simp at k2
/-- the object's parts -/
theorem TimersAt.cells {t : Nat} {S : List It} {w : World} {V : Nat → Prop} (hh : TimersAt t S w V) : ∃ (r : Nat) (h : List It) (A : Option Addr) (c m : Nat) (R : Nat → Prop) (f : Int → Option Int),
    Blk w t 52 #[.pointer (some ⟨r, 0, none⟩)] ∧ Blk w r 50 #[.slice A h.length c, .map (some m)] ∧ Its w R (.slice A h.length c) h ∧ PM w m h.length f ∧ IdxIs h f ∧ Good h ∧ HeapN h.length h ∧ h.Perm S ∧ Sorted S := by
  obtain ⟨_, r, h, U, h2, ⟨_, v, R, m, f, hB, hI, hP, hf, hG, _⟩, _, hH, hp, hs⟩ := hh
  obtain ⟨A, c, rfl, _, _, _⟩ := hI.in_
  exact ⟨r, h, A, c, m, R, f, h2, hB, hI, hP, hf, hG, hH, hp, hs⟩
theorem tLen_any (w : World) (t : Nat) (S : List It) (V : Nat → Prop) (hQ : TimersAt t S w V) : Calls Try.prog 13 #[.pointer (some ⟨t, 0, none⟩)] w fun e w' => e = .returned (.int .i64 (S.length : Int)) ∧ w = w' := by
  obtain ⟨r, h, A, c, m, R, f, hT, hB, _, _, _, _, _, hp, _⟩ := hQ.cells
  have c0 : w.cell? ⟨t, 0, none⟩ = some (.pointer (some ⟨r, 0, none⟩)) := hT.cell 0
  have c1 : w.cell? ⟨r, 0, none⟩ = some (.slice A h.length c) := hB.cell 0
  have hl := Lib.hid hp.length_eq
  go_enter Try.func13, Try.ntmps13
  go_wp2_with fail
  go_ret
  exact ⟨by show Ending.returned (.int .i64 (h.length : Int)) = _; rw [hl.out], rfl⟩
/-- the first of all -/
def firstV : List It → Value
  | [] => .tuple #[.agg #[.int .i64 0, .int .i64 0], .bool false]
  | a :: _ => .tuple #[.agg #[.int .i64 a.1, .int .i64 a.2], .bool true]
theorem Next_any (w : World) (t : Nat) (S : List It) (V : Nat → Prop) (hQ : TimersAt t S w V) : Calls Try.prog 17 #[.pointer (some ⟨t, 0, none⟩)] w fun e w' => e = .returned (firstV S) ∧ Grow w w' := by
  obtain ⟨r, h, A, c, m, R, f, hT, hB, hI, _, _, hG, hH, hp, hs⟩ := hQ.cells
  have hg0 : Grow w (w.alloc (.cells #[.int .i64 0, .int .i64 0] 36)) := (Below.refl _ _).alloc (Nat.le_refl _) _
  have c0 : (w.alloc (.cells #[.int .i64 0, .int .i64 0] 36)).cell? ⟨t, 0, none⟩ = some (.pointer (some ⟨r, 0, none⟩)) := (hT.grow hg0).cell 0
  have c1 : (w.alloc (.cells #[.int .i64 0, .int .i64 0] 36)).cell? ⟨r, 0, none⟩ = some (.slice A h.length c) := (hB.grow hg0).cell 0
  by_cases hl : h.length = 0
  · obtain rfl : S = [] := by
      have := hp.length_eq
      exact List.eq_nil_of_length_eq_zero (by omega)
    go_enter Try.func17, Try.ntmps17
    go_wp2_with fail
    refine bodyPost_ret (v := firstV []) (by simp [results, Try.results17, go_sem, firstV]) rfl ⟨rfl, hg0⟩
  · obtain ⟨a, l, rfl, ha⟩ := heap_head hH hp hs (by omega)
    have hl' : (((h.length : Nat) : Int) == 0) = false := beq_eq_false_iff_ne.2 (by omega)
    obtain ⟨g, c', hA, _⟩ := its_shape hI (by omega)
    injection hA with hA _ _
    subst hA
    obtain ⟨d0, d1, _⟩ := its_at (hI.grow hg0) (k := 0) (by omega)
    rw [ha] at d0 d1
    have hpos : 0 < h.length := by omega
    go_enter Try.func17, Try.ntmps17
    go_wp2_with fail
    refine bodyPost_ret (v := firstV (a :: l)) (by simp [results, Try.results17, go_sem, firstV]) rfl ⟨rfl, (Below.refl _ _).alloc (Nat.le_refl _) _⟩
end Go.Proofs.Ytjjafpgpnmdjlaa
