/- The tape: series, numbers, deltas. -/
import Derived.Test.YthkkfdnechmddaaDoorTape
import Derived.Test.YthkkfdnechmddaaDoorRecs
namespace Go.Proofs.YthkkfdnechmddaaDoor
open Go.RowKit Go.Hop
/-- the names of series that there are -/
def nameL : List ByteArray := [{ data := #[97, 61, 49] }, { data := #[97, 61, 50] }, { data := #[97, 61, 49, 44, 98, 61, 120] }, { data := #[106, 111, 98, 61, 97, 112, 105, 44, 122, 111, 110, 101, 61, 101, 117] }, { data := #[106, 111, 98, 61, 119, 101, 98] }, { data := #[107, 61, 118] }, { data := #[110, 61, 48] }, { data := #[97, 61, 51, 44, 99, 61, 57] }]
def nameV : Array Value := #[.string { data := #[97, 61, 49] }, .string { data := #[97, 61, 50] }, .string { data := #[97, 61, 49, 44, 98, 61, 120] }, .string { data := #[106, 111, 98, 61, 97, 112, 105, 44, 122, 111, 110, 101, 61, 101, 117] }, .string { data := #[106, 111, 98, 61, 119, 101, 98] }, .string { data := #[107, 61, 118] }, .string { data := #[110, 61, 48] }, .string { data := #[97, 61, 51, 44, 99, 61, 57] }]
theorem nameV_at {k : Nat} (hk : k < 8) : ∃ s : ByteArray, s ∈ nameL ∧ nameV[k]? = some (.string s) := by
  have : ∀ k : Fin 8, ∃ s : ByteArray, s ∈ nameL ∧ nameV[k.val]? = some (.string s) := by
    intro k
    match k with
    | 0 => exact ⟨_, List.mem_of_getElem? (i := 0) rfl, rfl⟩
    | 1 => exact ⟨_, List.mem_of_getElem? (i := 1) rfl, rfl⟩
    | 2 => exact ⟨_, List.mem_of_getElem? (i := 2) rfl, rfl⟩
    | 3 => exact ⟨_, List.mem_of_getElem? (i := 3) rfl, rfl⟩
    | 4 => exact ⟨_, List.mem_of_getElem? (i := 4) rfl, rfl⟩
    | 5 => exact ⟨_, List.mem_of_getElem? (i := 5) rfl, rfl⟩
    | 6 => exact ⟨_, List.mem_of_getElem? (i := 6) rfl, rfl⟩
    | 7 => exact ⟨_, List.mem_of_getElem? (i := 7) rfl, rfl⟩
  exact this ⟨k, hk⟩
theorem nameL_small {s : ByteArray} (h : s ∈ nameL) : s.size ≤ 16 := by
  have : ∀ s ∈ nameL, s.size ≤ 16 := by decide +kernel
  exact this s h
theorem Names_any (w : World) :
    Calls Tryd.prog 33 #[] w fun e w' => ∃ g, e = .returned (.slice (some ⟨g, 0, none⟩) 8 8) ∧ w.heap.size ≤ g ∧ Blk w' g 9 nameV ∧ Grow w w' := by
  go_enter Tryd.func33, Tryd.ntmps33
  go_wp2_with fail
  go_ret
  exact ⟨_, rfl, Nat.le_refl _, Blk.made w _ _, (Below.refl _ w).alloc (Nat.le_refl _) _⟩
theorem Series_any (w : World) (x : Nat) (D : Nat → Prop) (h : TapeAt x D w) :
    Calls Tryd.prog 19 #[.pointer (some ⟨x, 0, none⟩)] w fun e w' => ∃ s : ByteArray, s ∈ nameL ∧ e = .returned (.string s) ∧ TapeAt x D w' ∧ Just (fun b => b = x) w w' := by
  go_enter Tryd.func19, Tryd.ntmps19
  go_wp2_with fail
  refine (Names_any w).mono ?_
  rintro e w1 ⟨g, rfl, hgs, hB, hg1⟩
  have hx := h.lt
  have hn := Next_any w1 x D (h.grow hg1) 8 (by omega) (by omega)
  rw [show ((8 : Nat) : Int) = 8 from rfl] at hn
  go_wp2_with fail
  refine hn.mono ?_
  rintro e w2 ⟨k, hk, rfl, hT2, hj2⟩
  clear hn
  have hB2 := hj2.blk hB (show ¬ g = x by omega)
  obtain ⟨s, hs, hc⟩ := nameV_at hk
  have c0 := (hB2.cell k).trans hc
  have hk8 : ¬ 8 ≤ k := by omega
  go_wp2_with fail
  go_ret
  exact ⟨s, hs, rfl, hT2, (Just.of_grow hg1).trans hj2⟩
end Go.Proofs.YthkkfdnechmddaaDoor
