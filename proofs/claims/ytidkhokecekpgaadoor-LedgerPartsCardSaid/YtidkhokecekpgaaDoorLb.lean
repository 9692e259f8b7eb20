/- Rows of labels (two texts each), rows of texts: what they read as. -/
import Derived.Test.YtidkhokecekpgaaDoorDlt
namespace Go.Proofs.YtidkhokecekpgaaDoor
open Go.RowKit Go.Hop
abbrev Lb := ByteArray × ByteArray
def lcell (d : Lb) : List Value := [.string d.1, .string d.2]
def lcells (l : List Lb) : List Value := l.flatMap lcell
theorem lcell_len (d : Lb) : (lcell d).length = 2 := rfl
theorem lcells_one (l : List Lb) : ∀ u ∈ lcells l, u.oneCell' = true := by
  intro u hu
  unfold lcells at hu
  obtain ⟨d, _, hd⟩ := List.mem_flatMap.1 hu
  simp only [lcell, List.mem_cons, List.not_mem_nil, or_false] at hd
  rcases hd with rfl | rfl <;> rfl
theorem lcells_len (l : List Lb) : (lcells l).length = l.length * 2 := flat_length lcell 2 lcell_len l
theorem label_info : (Tryd.prog.info? 36).map (fun i => (i.zero, i.size, i.bytes)) = some (some (.agg #[.string .empty, .string .empty]), 2, 32) := by kernel_rfl
theorem labelE : Elem Tryd.prog 37 36 2 32 (.agg #[.string .empty, .string .empty]) := ⟨Tryd.underlying37, info_parts label_info, rfl, by decide, by decide⟩
theorem str_info : (Tryd.prog.info? 9).map (fun i => (i.zero, i.size, i.bytes)) = some (some (.string .empty), 1, 16) := by kernel_rfl
theorem strE : Elem Tryd.prog 33 9 1 16 (.string .empty) := ⟨Tryd.underlying33, info_parts str_info, rfl, by decide, by decide⟩
theorem scells_one (l : List ByteArray) : ∀ u ∈ l.map Value.string, u.oneCell' = true := by
  intro u hu
  obtain ⟨x, _, rfl⟩ := List.mem_map.1 hu
  rfl
theorem lab_at {w : World} {V : Nat → Prop} {A : Option Addr} {n : Nat} {q : List Lb} (h : In w V 2 A n (lcells q)) {k : Nat} (hk : k < n) :
    ∃ (ad : Addr) (hq : k < q.length), A = some ad ∧ (∀ w1, Grow w w1 → w1.cell? (ad.add (k * 2)) = some (.string q[k].1)) ∧ ∀ w1, Grow w w1 → w1.cell? ⟨(ad.add (k * 2)).block, (ad.add (k * 2)).off + 1, none⟩ = some (.string q[k].2) := by
  obtain ⟨ad, hq, e, _, hb, e0, e12⟩ := In.rec_ (cells := lcell) h (by omega) lcell_len hk
  exact ⟨ad, hq, e, fun w1 hg => (hg.cell (by rw [block_add]; exact hb)).trans (e0 _ rfl), fun w1 hg => (hg.cell (p := ⟨(ad.add (k * 2)).block, (ad.add (k * 2)).off + 1, none⟩) (show (ad.add (k * 2)).block < _ by rw [block_add]; exact hb)).trans (e12 0 _ rfl)⟩
theorem str_at {w : World} {V : Nat → Prop} {A : Option Addr} {n : Nat} {q : List ByteArray} (h : In w V 1 A n (q.map Value.string)) {k : Nat} (hk : k < n) :
    ∃ (ad : Addr) (hq : k < q.length), A = some ad ∧ ∀ w1, Grow w w1 → w1.cell? (ad.add k) = some (.string q[k]) := by
  obtain ⟨ad, e, _, hb, hc⟩ := h.2 (by omega)
  have hl := h.1
  simp only [List.length_map, Nat.mul_one] at hl
  have hq : k < q.length := by omega
  exact ⟨ad, hq, e, fun w1 hg => (hg.cell (by rw [block_add]; exact hb)).trans (hc k _ (by rw [List.getElem?_map, List.getElem?_eq_getElem hq]; rfl))⟩
theorem LIn.len {w : World} {V : Nat → Prop} {A : Option Addr} {n : Nat} {l : List Lb} (h : In w V 2 A n (lcells l)) : l.length = n := by
  have := h.1; rw [lcells_len] at this; omega
end Go.Proofs.YtidkhokecekpgaaDoor
