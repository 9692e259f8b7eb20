/- The tape: series, numbers, deltas. -/
import Derived.Test.YtidkhokecekpgaaDoorTape
import Derived.Test.YtidkhokecekpgaaDoorGbase
namespace Go.Proofs.YtidkhokecekpgaaDoor
open Go.RowKit Go.Hop
/-- the names of series that there are -/
def nameL : List ByteArray := [{ data := #[97, 61, 49] }, { data := #[97, 61, 50] }, { data := #[97, 61, 49, 44, 98, 61, 120] }, { data := #[106, 111, 98, 61, 97, 112, 105, 44, 122, 111, 110, 101, 61, 101, 117] }, { data := #[106, 111, 98, 61, 119, 101, 98] }, { data := #[107, 61, 118] }, { data := #[110, 61, 48] }, { data := #[97, 61, 51, 44, 99, 61, 57] }]
def nameV : Array Value := #[.string { data := #[97, 61, 49] }, .string { data := #[97, 61, 50] }, .string { data := #[97, 61, 49, 44, 98, 61, 120] }, .string { data := #[106, 111, 98, 61, 97, 112, 105, 44, 122, 111, 110, 101, 61, 101, 117] }, .string { data := #[106, 111, 98, 61, 119, 101, 98] }, .string { data := #[107, 61, 118] }, .string { data := #[110, 61, 48] }, .string { data := #[97, 61, 51, 44, 99, 61, 57] }]
theorem nameV_at {k : Nat} (hk : k < 8) : ∃ s : ByteArray, s ∈ nameL ∧ nameV[k]? = some (.string s) := by
  have : ∀ k : Fin 8, ∃ s : ByteArray, s ∈ nameL ∧ nameV[k.val]? = some (.string s) := by
    intro k
    match k with
    | 0 => exact ⟨_, List.mem_of_getElem? (i := 0) rfl, rfl⟩
    | 1 => exact ⟨_, List.mem_of_getElem? (i := 1) rfl, rfl⟩
    | 2 => exact ⟨_, List.mem_of_getElem? (i := 2) rfl, rfl⟩
    | 3 => exact ⟨_, List.mem_of_getElem? (i := 3) rfl, rfl⟩
    | 4 => exact ⟨_, List.mem_of_getElem? (i := 4) rfl, rfl⟩
    | 5 => exact ⟨_, List.mem_of_getElem? (i := 5) rfl, rfl⟩
    | 6 => exact ⟨_, List.mem_of_getElem? (i := 6) rfl, rfl⟩
    | 7 => exact ⟨_, List.mem_of_getElem? (i := 7) rfl, rfl⟩
  exact this ⟨k, hk⟩
theorem nameL_small {s : ByteArray} (h : s ∈ nameL) : s.size ≤ 16 := by
  have : ∀ s ∈ nameL, s.size ≤ 16 := by decide +kernel
  exact this s h
theorem Names_any (w : World) :
    Calls Tryd.prog 47 #[] w fun e w' => ∃ g, e = .returned (.slice (some ⟨g, 0, none⟩) 8 8) ∧ w.heap.size ≤ g ∧ Blk w' g 9 nameV ∧ Grow w w' := by
  go_enter Tryd.func47, Tryd.ntmps47
  go_wp2_with fail
  go_ret
  exact ⟨_, rfl, Nat.le_refl _, Blk.made w _ _, (Below.refl _ w).alloc (Nat.le_refl _) _⟩
theorem Series_any (w : World) (x : Nat) (D : Nat → Prop) (h : TapeAt x D w) :
    Calls Tryd.prog 31 #[.pointer (some ⟨x, 0, none⟩)] w fun e w' => ∃ s : ByteArray, s ∈ nameL ∧ e = .returned (.string s) ∧ TapeAt x D w' ∧ Just (fun b => b = x) w w' := by
  go_enter Tryd.func31, Tryd.ntmps31
  go_wp2_with fail
  refine (Names_any w).mono ?_
  rintro e w1 ⟨g, rfl, hgs, hB, hg1⟩
  have hx := h.lt
  have hn := Next_any w1 x D (h.grow hg1) 8 (by omega) (by omega)
  rw [show ((8 : Nat) : Int) = 8 from rfl] at hn
  go_wp2_with fail
  refine hn.mono ?_
  rintro e w2 ⟨k, hk, rfl, hT2, hj2⟩
  clear hn
  have hB2 := hj2.blk hB (show ¬ g = x by omega)
  obtain ⟨s, hs, hc⟩ := nameV_at hk
  have c0 := (hB2.cell k).trans hc
  have hk8 : ¬ 8 ≤ k := by omega
  go_wp2_with fail
  go_ret
  exact ⟨s, hs, rfl, hT2, (Just.of_grow hg1).trans hj2⟩
set_option maxRecDepth 20000 in
theorem N_any (w : World) (x : Nat) (D : Nat → Prop) (h : TapeAt x D w) :
    Calls Tryd.prog 32 #[.pointer (some ⟨x, 0, none⟩)] w fun e w' => ∃ v : Nat, 1 ≤ v ∧ v ≤ M64 ∧ e = .returned (.int .u64 (v : Int)) ∧ TapeAt x D w' ∧ Just (fun b => b = x) w w' := by
  have hn := Next_any w x D h 12 (by omega) (by omega)
  rw [show ((12 : Nat) : Int) = 12 from rfl] at hn
  unfold M64
  go_enter Tryd.func32, Tryd.ntmps32
  go_wp2_with fail
  refine hn.mono ?_
  rintro e w1 ⟨k, hk, rfl, hT1, hj1⟩
  clear hn
  have hn2 := Next_any w1 x D hT1 1073741824 (by omega) (by omega)
  rw [show ((1073741824 : Nat) : Int) = 1073741824 from rfl] at hn2
  have hn3 := Next_any w1 x D hT1 50 (by omega) (by omega)
  rw [show ((50 : Nat) : Int) = 50 from rfl] at hn3
  by_cases h0 : k = 0
  · have e0 : ((k : Int) == 0) = true := beq_iff_eq.2 (by omega)
    clear h0 hn2 hn3
    go_wp2_with fail
    go_ret
    exact ⟨18446744073709551615, by omega, by omega, rfl, hT1, hj1⟩
  have e0 : ((k : Int) == 0) = false := beq_eq_false_iff_ne.2 (by omega)
  by_cases h1 : k = 1
  · have e1 : ((k : Int) == 1) = true := beq_iff_eq.2 (by omega)
    clear h0 h1 hn2 hn3
    go_wp2_with fail
    go_ret
    exact ⟨9223372036854775808, by omega, by omega, rfl, hT1, hj1⟩
  have e1 : ((k : Int) == 1) = false := beq_eq_false_iff_ne.2 (by omega)
  by_cases h2 : k = 2
  · have e2 : ((k : Int) == 2) = true := beq_iff_eq.2 (by omega)
    clear h0 h1 h2 hn3
    go_wp2_with fail
    refine hn2.mono ?_
    rintro e w2 ⟨m, hm, rfl, hT2, hj2⟩
    clear hn2
    have hw1 : IntKind.u64.wrap (m : Int) = (m : Int) := by rw [IntKind.wrap_u64]; omega
    have hw2 : IntKind.u64.wrap ((m : Int) * 1048576) = (m : Int) * 1048576 := by rw [IntKind.wrap_u64]; omega
    have hw3 : IntKind.u64.wrap ((m : Int) * 1048576 + 1) = ((m * 1048576 + 1 : Nat) : Int) := by rw [IntKind.wrap_u64]; omega
    go_wp2_with fail
    go_ret
    exact ⟨m * 1048576 + 1, by omega, by omega, rfl, hT2, hj1.trans hj2⟩
  have e2 : ((k : Int) == 2) = false := beq_eq_false_iff_ne.2 (by omega)
  clear h0 h1 h2 hn2
  go_wp2_with fail
  refine hn3.mono ?_
  rintro e w2 ⟨m, hm, rfl, hT2, hj2⟩
  clear hn3
  have hw1 : IntKind.u64.wrap (m : Int) = (m : Int) := by rw [IntKind.wrap_u64]; omega
  have hw3 : IntKind.u64.wrap ((m : Int) + 1) = ((m + 1 : Nat) : Int) := by rw [IntKind.wrap_u64]; omega
  go_wp2_with fail
  go_ret
  exact ⟨m + 1, by omega, by omega, rfl, hT2, hj1.trans hj2⟩
/-- what the tape's deltas are -/
def Kept (l : List Dl) : Prop := ∀ d ∈ l, d.1 ∈ nameL ∧ 1 ≤ d.2 ∧ d.2 ≤ M64
theorem Kept.ok {l : List Dl} (h : Kept l) : ∀ d ∈ l, d.1.size ≤ maxLen ∧ d.2 ≤ M64 := fun d hd => ⟨by have := nameL_small (h d hd).1; unfold maxLen; omega, (h d hd).2.2⟩
set_option maxRecDepth 20000 in
set_option maxHeartbeats 1000000 in
theorem Deltas_any (w : World) (x : Nat) (D : Nat → Prop) (h : TapeAt x D w) (hDw : ∀ b, D b → b < w.heap.size) (m : Nat) (hm1 : 1 ≤ m) (hm2 : m ≤ 1000000) :
    Calls Tryd.prog 15 #[.pointer (some ⟨x, 0, none⟩), .int .i64 (m : Int)] w fun e w' => ∃ (v : Value) (l : List Dl), e = .returned v ∧ Own w' (New w w') 30 2 v l.length (dcells l) ∧ 1 ≤ l.length ∧ l.length ≤ m ∧ Kept l ∧ TapeAt x D w' ∧ Just (fun b => b = x) w w' := by
  have hn := Next_any w x D h m hm1 (by omega)
  have hxw := h.lt
  go_enter Tryd.func15, Tryd.ntmps15
  go_wp2_with fail
  refine hn.mono ?_
  rintro e w1 ⟨k0, hk0, rfl, hT1, hj1⟩
  clear hn h
  go_wp2_with fail
  go_loopw [5, 6] (fun o i wr => ∃ (j : Nat) (l : List Dl), i = .int .i64 (j : Int) ∧ l.length + j = 1 + k0 ∧ Own wr (New w wr) 30 2 o l.length (dcells l) ∧ Kept l ∧ TapeAt x D wr ∧ Just (fun b => b = x) w wr) (fun _ i _ => (intOf i).toNat)
  case atStart => exact ⟨1 + k0, [], by go_num, by simp, Own.nil, fun d hd => absurd hd List.not_mem_nil, hT1, hj1⟩
  case round =>
    clear hT1 hj1
    obtain ⟨j, l, rfl, hlj, hO, hK, hT, hj⟩ := hrel
    obtain ⟨A1, c1, rfl, hI1, hn1, hm1⟩ := hO.in_
    by_cases hj0 : 0 < j
    · have hd0 : decide ((0 : Int) < (j : Int)) = true := decide_eq_true (by omega)
      go_wp2_with fail
      refine (Series_any wr x D hT).mono ?_
      rintro e w2 ⟨s, hs, rfl, hT2, hj2⟩
      go_wp2_with fail
      refine (N_any w2 x D hT2).mono ?_
      rintro e w3 ⟨v, hv1, hv2, rfl, hT3, hj3⟩
      have hj03 := hj.trans (hj2.trans hj3)
      have hO3 : Own w3 (New w wr) 30 2 (.slice A1 l.length c1) l.length (dcells l) := hO.keep fun b hb => (hj2.trans hj3).block b hb.2 (fun e => by have := hb.1; omega)
      have hs23 := (hj2.trans hj3).size
      have hsw := hj.size
      clear hI1 hO
      go_wp2_with (at_builtin; refine stay ?_)
      refine stay_out ?_
      have hga : Grow w3 (w3.alloc (.cells #[.string s, .int .u64 (v : Int)] 30)) := (Below.refl _ _).alloc (Nat.le_refl _) _
      refine wpList_own (V := New w wr) deltaE _ rfl (.tmp 15) (.tmp 21) rfl (.slice A1 l.length c1) l.length (dcells l) rfl (hO3.grow (fun b hb => by have := hb.2; omega) hga) (w3.heap.size + 1) (some ⟨w3.heap.size, 0, none⟩) 1 1 (dcells [(s, v)]) rfl (reads_laid w3 _ 30 _ rfl _ rfl) (dcells_one _) (by omega) ?_
      intro v5 w5 hO5 hj5
      have hs5 := hj5.size
      simp at hs5
      have hO6 : Own w5 (New w w5) 30 2 v5 (l ++ [(s, v)]).length (dcells (l ++ [(s, v)])) := by
        rw [List.length_append]
        have : dcells (l ++ [(s, v)]) = dcells l ++ dcells [(s, v)] := by unfold dcells; rw [List.flatMap_append]
        rw [this]
        refine hO5.mono fun b hb => ?_
        rcases hb with hb | hb
        · exact ⟨hb.1, by have := hb.2; omega⟩
        · have h6 := hb.1
          simp at h6
          exact ⟨by omega, hb.2⟩
      have hj06 : Just (fun b => b = x) w w5 := just_new (just_new hj03 (Just.of_grow (V := fun _ => False) hga) (fun _ h => h.elim)) hj5 (fun b hb => .inl hb.1)
      have hT6 : TapeAt x D w5 := by
        obtain ⟨h0, A, n, c, xs, p, h1, h2, h3⟩ := hT3
        have hDb : ∀ b, D b → b < w3.heap.size → w5.heap[b]? = w3.heap[b]? := fun b hb hbl => (hj5.block b (by simp; omega) (fun e => by have := e.1; have := hDw b hb; omega)).trans (hga.block b hbl)
        have hxb : w5.heap[x]? = w3.heap[x]? := (hj5.block x (by simp; have := h1.lt; omega) (fun e => by have := e.1; omega)).trans (hga.block x h1.lt)
        exact ⟨h0, A, n, c, xs, p, hxb.trans h1, h2.keep hDb, h3⟩
      have hK6 : Kept (l ++ [(s, v)]) := fun d hd => by
        rcases List.mem_append.1 hd with hd | hd
        · exact hK d hd
        · rw [List.mem_singleton.1 hd]; exact ⟨hs, hv1, hv2⟩
      have hl6 : (l ++ [(s, v)]).length = l.length + 1 := by simp
      clear hO5 hj5 hT2 hT3 hj2 hj3 hO3 hga
      generalize l ++ [(s, v)] = l6 at hO6 hK6 hl6
      go_wp2_with fail
      go_roundw
      case rel => exact ⟨j - 1, l6, by go_num, by omega, hO6, hK6, hT6, hj06⟩
      case measure => simp [intOf]; omega
    · obtain rfl : j = 0 := by omega
      have hd0 : decide ((0 : Int) < ((0 : Nat) : Int)) = false := rfl
      go_wp2_with fail
      go_ret
      exact ⟨_, l, rfl, hO, by omega, by omega, hK, hT, hj⟩
end Go.Proofs.YtidkhokecekpgaaDoor
