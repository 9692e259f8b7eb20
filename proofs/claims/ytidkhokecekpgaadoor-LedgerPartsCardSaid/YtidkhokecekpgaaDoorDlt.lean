/- Rows of deltas: what they read as. -/
import Derived.Test.YtidkhokecekpgaaDoorRecs
import Derived.Test.YtidkhokecekpgaaDoorKit
namespace Go.Proofs.YtidkhokecekpgaaDoor
open Go.RowKit Go.Hop
abbrev Dl := ByteArray × Nat
def dcell (d : Dl) : List Value := [.string d.1, .int .u64 (d.2 : Int)]
def dcells (l : List Dl) : List Value := l.flatMap dcell
theorem dcell_len (d : Dl) : (dcell d).length = 2 := rfl
theorem dcells_one (l : List Dl) : ∀ u ∈ dcells l, u.oneCell' = true := by
  intro u hu
  unfold dcells at hu
  obtain ⟨d, _, hd⟩ := List.mem_flatMap.1 hu
  simp only [dcell, List.mem_cons, List.not_mem_nil, or_false] at hd
  rcases hd with rfl | rfl <;> rfl
theorem dcells_len (l : List Dl) : (dcells l).length = l.length * 2 := flat_length dcell 2 dcell_len l
/-- what is new -/
def New (w w' : World) (b : Nat) : Prop := w.heap.size ≤ b ∧ b < w'.heap.size
/-- from then on -/
def From (n : Nat) (b : Nat) : Prop := n ≤ b
theorem info_parts {e size bytes : Nat} {z : Value} (h : (Tryd.prog.info? e).map (fun i => (i.zero, i.size, i.bytes)) = some (some z, size, bytes)) : ∃ i, Tryd.prog.info? e = some i ∧ i.zero = some z ∧ i.size = size ∧ i.bytes = bytes := by
  cases hi : Tryd.prog.info? e with
  | none => rw [hi] at h; cases h
  | some i => rw [hi] at h; injection h with h; injection h with h1 h2; injection h2 with h2 h3; exact ⟨i, rfl, h1, h2, h3⟩
theorem delta_info : (Tryd.prog.info? 30).map (fun i => (i.zero, i.size, i.bytes)) = some (some (.agg #[.string .empty, .int .u64 0]), 2, 24) := by kernel_rfl
theorem deltaE : Elem Tryd.prog 26 30 2 24 (.agg #[.string .empty, .int .u64 0]) := ⟨Tryd.underlying26, info_parts delta_info, rfl, by decide, by decide⟩
/-- deltas, in blocks of V -/
def DIn (w : World) (V : Nat → Prop) (A : Option Addr) (n : Nat) (l : List Dl) : Prop := In w V 2 A n (dcells l)
theorem DIn.len {w : World} {V : Nat → Prop} {A : Option Addr} {n : Nat} {l : List Dl} (h : DIn w V A n l) : l.length = n := by
  have := h.1; rw [dcells_len] at this; omega
theorem own_new {w w1 : World} {t e : TypeId} {size : Nat} {v : Value} {n : Nat} {xs : List Value} (hO : Own w1 (Ext (fun b => b = w.heap.size) (w.alloc (.cells #[] t)) w1) e size v n xs) (hj : Just (fun b => b = w.heap.size) (w.alloc (.cells #[] t)) w1) : Own w1 (New w w1) e size v n xs ∧ Grow w w1 := by
  have hs : w.heap.size < w1.heap.size := by have := hj.size; simp at this; omega
  refine ⟨hO.mono (fun b hb => ?_), ((Below.refl w.heap.size w).alloc (Nat.le_refl _) (.cells #[] t)).trans (hj.below (B := w.heap.size) (fun b hb => by rw [hb]; exact Nat.le_refl _) (by simp))⟩
  rcases hb with rfl | ⟨h1, h2⟩
  · exact ⟨Nat.le_refl _, hs⟩
  · simp at h1; exact ⟨by omega, h2⟩
theorem made_own (w : World) (e : TypeId) (size : Nat) : Own (w.alloc (.cells #[] e)) (fun b => b = w.heap.size) e size (.slice (some ⟨w.heap.size, 0, none⟩) 0 0) 0 [] :=
  ⟨by simp, .inr ⟨w.heap.size, 0, #[], rfl, rfl, heap_alloc_new w _, Nat.le_refl _, Nat.zero_le _, .inl (by simp), by simp⟩⟩
end Go.Proofs.YtidkhokecekpgaaDoor
