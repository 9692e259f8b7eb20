/- Queue.Done. -/
import Derived.Test.YtnlfkeajolfboaaDel
namespace Go.Proofs.Ytnlfkeajolfboaa
open Go.RowKit Go.Hop
def isSeq (s : Int) (b : Ab) : Bool := b.1 == s
def doneB (l : List Ab) (s : Int) : Bool := l.any (isSeq s)
def doneL (l : List Ab) (s : Int) : List Ab := l.eraseP (isSeq s)
theorem eraseP_at {α : Type} {p : α → Bool} : ∀ {l : List α} {i : Nat} (hi : i < l.length), p l[i] = true → (∀ (j : Nat) (hj : j < l.length), j < i → p l[j] = false) → l.eraseP p = l.take i ++ l.drop (i + 1)
  | [], i, hi, _, _ => absurd hi (by simp)
  | a :: l, 0, _, h, _ => by have h : p a = true := h; simp [List.eraseP_cons, h]
  | a :: l, i + 1, hi, h, hn => by
    have h0 := hn 0 (by simp) (by omega)
    have hi' : i < l.length := by simpa using hi
    have h0 : p a = false := h0
    rw [List.eraseP_cons, h0, cond_false, eraseP_at hi' (by simpa using h) (fun j hj hji => by have := hn (j + 1) (by simp; omega) (by omega); simpa using this)]
    simp
theorem done_none {q : List Bat} {s : Int} (h : ∀ b ∈ q, b.seq ≠ s) : doneB (q.map Bat.abs) s = false ∧ doneL (q.map Bat.abs) s = q.map Bat.abs := by
  have h1 : ∀ a ∈ q.map Bat.abs, ¬ isSeq s a = true := fun a ha => by
    obtain ⟨b, hb, rfl⟩ := List.mem_map.1 ha
    simp [isSeq, Bat.abs, h b hb]
  exact ⟨by unfold doneB; rw [List.any_eq_false]; exact h1, List.eraseP_of_forall_not h1⟩
theorem done_some {q : List Bat} {s : Int} {i : Nat} (hi : i < q.length) (h : q[i].seq = s) (hn : ∀ (j : Nat) (hj : j < q.length), j < i → q[j].seq ≠ s) :
    doneB (q.map Bat.abs) s = true ∧ doneL (q.map Bat.abs) s = (q.take i ++ q.drop (i + 1)).map Bat.abs := by
  have hi' : i < (q.map Bat.abs).length := by simpa using hi
  refine ⟨?_, ?_⟩
  · unfold doneB
    rw [List.any_eq_true]
    exact ⟨q[i].abs, List.mem_map_of_mem (List.getElem_mem hi), by simp [isSeq, Bat.abs, h]⟩
  · unfold doneL
    rw [eraseP_at hi' (by simp [isSeq, Bat.abs, h]) (fun j hj hji => by have := hn j (by simpa using hj) hji; simp [isSeq, Bat.abs, this]), List.map_append, List.map_take, List.map_drop]
theorem Done_any (w : World) (g : Nat) (l : List Ab) (last s : Int) :
    Turns Try.prog 10 #[.pointer (some ⟨g, 0, none⟩), .int .i64 s] (fun e => e = .returned (.bool (doneB l s))) (QueueAt g l last) (QueueAt g (doneL l s) last) w := by
  intro V hQ hV
  have hQ' := hQ
  obtain ⟨h1, v, q, R, D, hql, h3, hB, hRow, h6, h7, h8⟩ := hQ
  obtain ⟨A0, c0, rfl, hI, hnc, hm0⟩ := hRow.in_
  have hga : Grow w (w.alloc (.cells #[.int .i64 s] 2)) := (Below.refl w.heap.size w).alloc (Nat.le_refl _) _
  have hBx0 := Blk.made w 2 #[.int .i64 s]
  have cc0 := (hB.grow hga).cell 0
  have hIx := indexFunc_any _ R D A0 _ c0 q ⟨hI.grow hga, fun b hb => (h6 b hb).grow hga⟩ (by omega) s w.heap.size hBx0
  have hgR : ¬ R g := fun h => (h7 g h).2.1 rfl
  go_enter Try.func10, Try.ntmps10
  go_wp2_with fail
  refine hIx.mono ?_
  clear hIx
  rintro e w1 ⟨r, rfl, hidx, hg1⟩
  have hgw := hga.trans hg1
  rcases hidx with ⟨rfl, hne⟩ | ⟨i, hi, rfl, hs, hn⟩
  · obtain ⟨d1, d2⟩ := done_none hne
    rw [hql] at d1 d2
    have HD := Lib.hid (And.intro d1 d2)
    clear hne d1 d2 hql
    go_wp2_with fail
    go_ret
    rw [HD.out.1, HD.out.2]
    exact ⟨rfl, QueueAt.wide (QueueAt.framed _ _ _ w w1 V hQ' fun b hb => hgw.block b (hV b hb)) (fun _ => .inl), Just.of_grow hgw⟩
  · obtain ⟨d1, d2⟩ := done_some hi hs hn
    rw [hql] at d1 d2
    have HD := Lib.hid (And.intro d1 d2)
    clear d1 d2 hql hs hn
    have hB1 := hB.grow hgw
    have c1 := hB1.cell 0
    go_wp2_with fail
    refine (delete_any w1 R A0 q.length c0 i _ (hRow.grow hgw) hi (by omega) (bats_one q)).mono ?_
    rintro e w2 ⟨rfl, hR2, hj2⟩
    have hB2 := hj2.blk hB1 hgR
    have f0 := hB2.frozen 0
    have c2 := hB2.cell 0
    go_wp2_with fail
    go_ret
    rw [HD.out.1, HD.out.2]
    have hql' : (q.take i ++ q.drop (i + 1)).length = q.length - 1 := by rw [List.length_append, List.length_take, List.length_drop]; omega
    have hcs : (q.take i ++ q.drop (i + 1)).flatMap Bat.cells = (q.flatMap Bat.cells).take (i * 2) ++ (q.flatMap Bat.cells).drop ((i + 1) * 2) := by
      rw [List.flatMap_append, flat_take Bat.cells 2 bat_len, flat_drop Bat.cells 2 bat_len]
    have hmem : ∀ b ∈ q.take i ++ q.drop (i + 1), b ∈ q := fun b hb => by
      rcases List.mem_append.1 hb with h | h
      · exact List.mem_of_mem_take h
      · exact List.mem_of_mem_drop h
    have hjs := just_at w2 g 0 (.slice A0 (q.length - 1) c0)
    refine ⟨rfl, ⟨.inl h1, _, q.take i ++ q.drop (i + 1), R, D, rfl, by omega, hB2.put 0 _, ?_, fun b hb => ?_, fun b hb => ⟨.inl (h7 b hb).1, (h7 b hb).2⟩, fun b hb => ⟨.inl (h8 b hb).1, (h8 b hb).2⟩⟩, ?_⟩
    · rw [hql', hcs]
      exact hR2.just hjs fun b hb e => hgR (by rw [← show b = g from e]; exact hb)
    · exact (((h6 b (hmem b hb)).grow hgw).just hj2 fun x hx hr => (h7 x hr).2.2 hx).just hjs fun x hx e => (h8 x hx).2 e
    · exact ((Just.of_grow hgw).trans (hj2.imp fun x hx => (h7 x hx).1)).trans (hjs.imp fun x hx => by rw [show x = g from hx]; exact h1)
end Go.Proofs.Ytnlfkeajolfboaa
