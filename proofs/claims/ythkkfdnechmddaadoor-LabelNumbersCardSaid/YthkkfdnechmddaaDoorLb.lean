/- Rows of labels (two texts each), rows of texts: what they read as. -/
import Derived.Test.YthkkfdnechmddaaDoorRecs
import Derived.Test.YthkkfdnechmddaaDoorKit
namespace Go.Proofs.YthkkfdnechmddaaDoor
open Go.RowKit Go.Hop
/-- what is new -/
def New (w w' : World) (b : Nat) : Prop := w.heap.size ≤ b ∧ b < w'.heap.size
theorem info_parts {e size bytes : Nat} {z : Value} (h : (Tryd.prog.info? e).map (fun i => (i.zero, i.size, i.bytes)) = some (some z, size, bytes)) : ∃ i, Tryd.prog.info? e = some i ∧ i.zero = some z ∧ i.size = size ∧ i.bytes = bytes := by
  cases hi : Tryd.prog.info? e with
  | none => rw [hi] at h; cases h
  | some i => rw [hi] at h; injection h with h; injection h with h1 h2; injection h2 with h2 h3; exact ⟨i, rfl, h1, h2, h3⟩
theorem own_new {w w1 : World} {t e : TypeId} {size : Nat} {v : Value} {n : Nat} {xs : List Value} (hO : Own w1 (Ext (fun b => b = w.heap.size) (w.alloc (.cells #[] t)) w1) e size v n xs) (hj : Just (fun b => b = w.heap.size) (w.alloc (.cells #[] t)) w1) : Own w1 (New w w1) e size v n xs ∧ Grow w w1 := by
  have hs : w.heap.size < w1.heap.size := by have := hj.size; simp at this; omega
  refine ⟨hO.mono (fun b hb => ?_), ((Below.refl w.heap.size w).alloc (Nat.le_refl _) (.cells #[] t)).trans (hj.below (B := w.heap.size) (fun b hb => by rw [hb]; exact Nat.le_refl _) (by simp))⟩
  rcases hb with rfl | ⟨h1, h2⟩
  · exact ⟨Nat.le_refl _, hs⟩
  · simp at h1; exact ⟨by omega, h2⟩
theorem made_own (w : World) (e : TypeId) (size : Nat) : Own (w.alloc (.cells #[] e)) (fun b => b = w.heap.size) e size (.slice (some ⟨w.heap.size, 0, none⟩) 0 0) 0 [] :=
  ⟨by simp, .inr ⟨w.heap.size, 0, #[], rfl, rfl, heap_alloc_new w _, Nat.le_refl _, Nat.zero_le _, .inl (by simp), by simp⟩⟩
abbrev Lb := ByteArray × ByteArray
def lcell (d : Lb) : List Value := [.string d.1, .string d.2]
def lcells (l : List Lb) : List Value := l.flatMap lcell
theorem lcell_len (d : Lb) : (lcell d).length = 2 := rfl
theorem lcells_one (l : List Lb) : ∀ u ∈ lcells l, u.oneCell' = true := by
  intro u hu
  unfold lcells at hu
  obtain ⟨d, _, hd⟩ := List.mem_flatMap.1 hu
  simp only [lcell, List.mem_cons, List.not_mem_nil, or_false] at hd
  rcases hd with rfl | rfl <;> rfl
theorem lcells_len (l : List Lb) : (lcells l).length = l.length * 2 := flat_length lcell 2 lcell_len l
theorem label_info : (Tryd.prog.info? 25).map (fun i => (i.zero, i.size, i.bytes)) = some (some (.agg #[.string .empty, .string .empty]), 2, 32) := by kernel_rfl
theorem labelE : Elem Tryd.prog 26 25 2 32 (.agg #[.string .empty, .string .empty]) := ⟨Tryd.underlying26, info_parts label_info, rfl, by decide, by decide⟩
theorem str_info : (Tryd.prog.info? 9).map (fun i => (i.zero, i.size, i.bytes)) = some (some (.string .empty), 1, 16) := by kernel_rfl
theorem strE : Elem Tryd.prog 22 9 1 16 (.string .empty) := ⟨Tryd.underlying22, info_parts str_info, rfl, by decide, by decide⟩
theorem scells_one (l : List ByteArray) : ∀ u ∈ l.map Value.string, u.oneCell' = true := by
  intro u hu
  obtain ⟨x, _, rfl⟩ := List.mem_map.1 hu
  rfl
theorem lab_at {w : World} {V : Nat → Prop} {A : Option Addr} {n : Nat} {q : List Lb} (h : In w V 2 A n (lcells q)) {k : Nat} (hk : k < n) :
    ∃ (ad : Addr) (hq : k < q.length), A = some ad ∧ (∀ w1, Grow w w1 → w1.cell? (ad.add (k * 2)) = some (.string q[k].1)) ∧ ∀ w1, Grow w w1 → w1.cell? ⟨(ad.add (k * 2)).block, (ad.add (k * 2)).off + 1, none⟩ = some (.string q[k].2) := by
  obtain ⟨ad, hq, e, _, hb, e0, e12⟩ := In.rec_ (cells := lcell) h (by omega) lcell_len hk
  exact ⟨ad, hq, e, fun w1 hg => (hg.cell (by rw [block_add]; exact hb)).trans (e0 _ rfl), fun w1 hg => (hg.cell (p := ⟨(ad.add (k * 2)).block, (ad.add (k * 2)).off + 1, none⟩) (show (ad.add (k * 2)).block < _ by rw [block_add]; exact hb)).trans (e12 0 _ rfl)⟩
theorem str_at {w : World} {V : Nat → Prop} {A : Option Addr} {n : Nat} {q : List ByteArray} (h : In w V 1 A n (q.map Value.string)) {k : Nat} (hk : k < n) :
    ∃ (ad : Addr) (hq : k < q.length), A = some ad ∧ ∀ w1, Grow w w1 → w1.cell? (ad.add k) = some (.string q[k]) := by
  obtain ⟨ad, e, _, hb, hc⟩ := h.2 (by omega)
  have hl := h.1
  simp only [List.length_map, Nat.mul_one] at hl
  have hq : k < q.length := by omega
  exact ⟨ad, hq, e, fun w1 hg => (hg.cell (by rw [block_add]; exact hb)).trans (hc k _ (by rw [List.getElem?_map, List.getElem?_eq_getElem hq]; rfl))⟩
theorem LIn.len {w : World} {V : Nat → Prop} {A : Option Addr} {n : Nat} {l : List Lb} (h : In w V 2 A n (lcells l)) : l.length = n := by
  have := h.1; rw [lcells_len] at this; omega
end Go.Proofs.YthkkfdnechmddaaDoor
