/- LabelNumbers: its walk. -/
import Derived.Test.YthkkfdnechmddaaDoorWrefuses
namespace Go.Proofs.YthkkfdnechmddaaDoor
open Go.RowKit Go.Hop
def nmA (L : ByteArray) : Array Value := #[.string { data := #[] }, .string { data := #[97] }, .string { data := #[95] }, .string { data := #[65] }, .string { data := #[97, 32, 98] }, .string L, .string (L ++ { data := #[97] }), .string { data := #[61] }, .string { data := #[44] }]
def vlA (L : ByteArray) : Array Value := #[.string { data := #[] }, .string { data := #[49] }, .string { data := #[45] }, .string L, .string (L ++ { data := #[98] })]
def txA : Array Value := #[.string { data := #[] }, .string { data := #[97] }, .string { data := #[97, 61] }, .string { data := #[61, 49] }, .string { data := #[97, 61, 49, 44] }, .string { data := #[44, 97, 61, 49] }, .string { data := #[97, 61, 49, 44, 44, 98, 61, 50] }, .string { data := #[97, 61, 49, 44, 97, 61, 50] }, .string { data := #[97, 61, 49, 44, 98, 61, 50] }, .string { data := #[98, 61, 49, 44, 97, 61, 50] }, .string { data := #[97, 61, 61, 49] }, .string { data := #[97, 61, 49, 61, 50] }, .string { data := #[97, 61, 49, 32] }, .string { data := #[65, 61, 49] }]
theorem nmA_at {L : ByteArray} (hL : L.size ≤ 32) {k : Nat} (hk : k < 9) : ∃ s : ByteArray, s.size ≤ 33 ∧ (nmA L)[k]? = some (.string s) := by
  have : ∀ k : Fin 9, ∃ s : ByteArray, s.size ≤ 33 ∧ (nmA L)[k.val]? = some (.string s) := by
    intro k
    match k with
    | 0 => exact ⟨_, (by decide +kernel), rfl⟩
    | 1 => exact ⟨_, (by decide +kernel), rfl⟩
    | 2 => exact ⟨_, (by decide +kernel), rfl⟩
    | 3 => exact ⟨_, (by decide +kernel), rfl⟩
    | 4 => exact ⟨_, (by decide +kernel), rfl⟩
    | 5 => exact ⟨_, (by omega), rfl⟩
    | 6 => exact ⟨_, (by rw [ByteArray.size_append]; show L.size + 1 ≤ _; omega), rfl⟩
    | 7 => exact ⟨_, (by decide +kernel), rfl⟩
    | 8 => exact ⟨_, (by decide +kernel), rfl⟩
  exact this ⟨k, hk⟩
theorem vlA_at {L : ByteArray} (hL : L.size ≤ 32) {k : Nat} (hk : k < 5) : ∃ s : ByteArray, s.size ≤ 33 ∧ (vlA L)[k]? = some (.string s) := by
  have : ∀ k : Fin 5, ∃ s : ByteArray, s.size ≤ 33 ∧ (vlA L)[k.val]? = some (.string s) := by
    intro k
    match k with
    | 0 => exact ⟨_, (by decide +kernel), rfl⟩
    | 1 => exact ⟨_, (by decide +kernel), rfl⟩
    | 2 => exact ⟨_, (by decide +kernel), rfl⟩
    | 3 => exact ⟨_, (by omega), rfl⟩
    | 4 => exact ⟨_, (by rw [ByteArray.size_append]; show L.size + 1 ≤ _; omega), rfl⟩
  exact this ⟨k, hk⟩
theorem txA_at {k : Nat} (hk : k < 14) : ∃ s : ByteArray, s.size ≤ 33 ∧ (txA)[k]? = some (.string s) := by
  have : ∀ k : Fin 14, ∃ s : ByteArray, s.size ≤ 33 ∧ (txA)[k.val]? = some (.string s) := by
    intro k
    match k with
    | 0 => exact ⟨_, (by decide +kernel), rfl⟩
    | 1 => exact ⟨_, (by decide +kernel), rfl⟩
    | 2 => exact ⟨_, (by decide +kernel), rfl⟩
    | 3 => exact ⟨_, (by decide +kernel), rfl⟩
    | 4 => exact ⟨_, (by decide +kernel), rfl⟩
    | 5 => exact ⟨_, (by decide +kernel), rfl⟩
    | 6 => exact ⟨_, (by decide +kernel), rfl⟩
    | 7 => exact ⟨_, (by decide +kernel), rfl⟩
    | 8 => exact ⟨_, (by decide +kernel), rfl⟩
    | 9 => exact ⟨_, (by decide +kernel), rfl⟩
    | 10 => exact ⟨_, (by decide +kernel), rfl⟩
    | 11 => exact ⟨_, (by decide +kernel), rfl⟩
    | 12 => exact ⟨_, (by decide +kernel), rfl⟩
    | 13 => exact ⟨_, (by decide +kernel), rfl⟩
  exact this ⟨k, hk⟩
theorem rune_at {k : Nat} (hk : k < 10) : (Utf8.encode (104 - (k : Int) % 8 + (k : Int) / 8)).size ≤ 4 := by
  have : ∀ k : Fin 10, (Utf8.encode (104 - (k.val : Int) % 8 + (k.val : Int) / 8)).size ≤ 4 := by decide +kernel
  exact this ⟨k, hk⟩
theorem small_one {s v : ByteArray} (hs : s.size ≤ 1000000) (hv : v.size ≤ 1000000) : ∀ d ∈ [((s, v) : Lb)], d.1.size ≤ maxLen ∧ d.2.size ≤ maxLen := fun d hd => by
  rw [List.mem_singleton.1 hd]; unfold maxLen; exact ⟨by show s.size ≤ _; omega, by show v.size ≤ _; omega⟩
theorem small_cons {s v : ByteArray} {q : List Lb} (hs : s.size ≤ 1000000) (hv : v.size ≤ 1000000) (hq : ∀ d ∈ q, d.1.size ≤ maxLen ∧ d.2.size ≤ maxLen) : ∀ d ∈ ((s, v) : Lb) :: q, d.1.size ≤ maxLen ∧ d.2.size ≤ maxLen := fun d hd => by
  rcases List.mem_cons.1 hd with rfl | hd
  · unfold maxLen; exact ⟨by show s.size ≤ _; omega, by show v.size ≤ _; omega⟩
  · exact hq d hd
theorem own_in3 {w : World} {V : Nat → Prop} {e : TypeId} {size n c : Nat} {A : Option Addr} {xs : List Value} (h : Own w V e size (.slice A n c) n xs) : In w V size A n xs := by
  obtain ⟨A', c', e1, hI, _⟩ := Own.in_ h
  injection e1 with e1 e2 e3
  subst e1
  exact hI
set_option maxRecDepth 100000 in
set_option maxHeartbeats 2000000 in
theorem numbers_any (w : World) : Calls Tryd.prog 3 #[] w fun e w' => e = .returned (.bool true) ∧ Grow w w' := by
  obtain ⟨L, HL⟩ : ∃ L : ByteArray, Hid (L = { data := #[97, 97, 97, 97, 97, 97, 97, 97, 97, 97, 97, 97, 97, 97, 97, 97, 97, 97, 97, 97, 97, 97, 97, 97, 97, 97, 97, 97, 97, 97, 97, 97] }) := ⟨_, rfl⟩
  have hL : L.size ≤ 32 := by rw [HL.out]; decide +kernel
  have hg0 : Grow w (w.alloc (.cells (nmA L) 9)) := (Below.refl _ _).alloc (Nat.le_refl _) _
  have hB0 : Blk (w.alloc (.cells (nmA L) 9)) w.heap.size 9 (nmA L) := Blk.made w _ _
  have hL1 : L.size + 1 ≤ 9223372036854775807 := by omega
  go_enter Tryd.func3, Tryd.ntmps3
  go_wp2_with fail
  rw [← HL.out]
  have e1 : w.alloc (.cells #[.string { data := #[] }, .string { data := #[97] }, .string { data := #[95] }, .string { data := #[65] }, .string { data := #[97, 32, 98] }, .string L, .string (L ++ { data := #[97] }), .string { data := #[61] }, .string { data := #[44] }] 9) = w.alloc (.cells (nmA L) 9) := rfl
  rw [e1]
  clear e1
  generalize (w.alloc (.cells (nmA L) 9)) = w0 at hg0 hB0
  go_loopw [16] (fun i wr => ∃ k : Nat, k ≤ 9 ∧ i = .int .i64 (k : Int) ∧ Grow w0 wr) (fun i _ => 9 - (intOf i).toNat)
  case atStart => exact ⟨0, by omega, rfl, Grow.refl _⟩
  case round =>
    obtain ⟨i, hi9, rfl, hgr⟩ := hrel
    obtain ⟨wo, rfl⟩ : ∃ wo : World, wo = wr := ⟨_, rfl⟩
    by_cases hi : i < 9
    · have hd1 : decide ((i : Int) < 9) = true := decide_eq_true (by omega)
      have hi' : ¬ 9 ≤ i := by omega
      obtain ⟨s, hs, hcs⟩ := nmA_at hL hi
      have c0 := ((hB0.grow hgr).cell i).trans hcs
      have hgv : Grow wo (wo.alloc (.cells (vlA L) 9)) := (Below.refl _ _).alloc (Nat.le_refl _) _
      have hBv : Blk (wo.alloc (.cells (vlA L) 9)) wo.heap.size 9 (vlA L) := Blk.made wo _ _
      go_wp2_with fail
      have e1 : wo.alloc (.cells #[.string { data := #[] }, .string { data := #[49] }, .string { data := #[45] }, .string L, .string (L ++ { data := #[98] })] 9) = wo.alloc (.cells (vlA L) 9) := rfl
      rw [e1]
      clear e1 c0
      generalize (wo.alloc (.cells (vlA L) 9)) = w1 at hgv hBv
      have hg1 := hgr.trans hgv
      clear hgr hgv
      go_loopw [25] (fun i wr => ∃ k : Nat, k ≤ 5 ∧ i = .int .i64 (k : Int) ∧ Grow w1 wr) (fun i _ => 5 - (intOf i).toNat)
      case atStart => exact ⟨0, by omega, rfl, Grow.refl _⟩
      case round =>
        obtain ⟨j, hj5, rfl, hgr⟩ := hrel
        obtain ⟨wz, rfl⟩ : ∃ wz : World, wz = wr := ⟨_, rfl⟩
        by_cases hj : j < 5
        · have hd2 : decide ((j : Int) < 5) = true := decide_eq_true (by omega)
          have hj' : ¬ 5 ≤ j := by omega
          obtain ⟨v, hv, hcv⟩ := vlA_at hL hj
          have c1 := ((hBv.grow hgr).cell j).trans hcv
          have hS1 := same_any (wz.alloc (.cells #[.string s, .string v] 25)) _ (some ⟨wz.heap.size, 0, none⟩) 1 1 [(s, v)] (in_laid wz #[.string s, .string v] 25 rfl) (small_one (by omega) (by omega)) (by omega)
          have hS2 := fun w2 : World => same_any (w2.alloc (.cells #[.string { data := #[122] }, .string { data := #[49] }, .string s, .string v, .string { data := #[97] }, .string { data := #[50] }] 25)) _ (some ⟨w2.heap.size, 0, none⟩) 3 3 [({ data := #[122] }, { data := #[49] }), (s, v), ({ data := #[97] }, { data := #[50] })] (in_laid w2 #[.string { data := #[122] }, .string { data := #[49] }, .string s, .string v, .string { data := #[97] }, .string { data := #[50] }] 25 rfl) (small_cons (by decide +kernel) (by decide +kernel) (small_cons (by omega) (by omega) (small_one (by decide +kernel) (by decide +kernel)))) (by omega)
          have hz1 : (s ++ { data := #[61] } : ByteArray).size = s.size + 1 := by rw [ByteArray.size_append]; rfl
          have hz2 : (s ++ { data := #[61] } ++ v : ByteArray).size = s.size + 1 + v.size := by rw [ByteArray.size_append, hz1]
          have hR := fun w2 => reads_any w2 (s ++ { data := #[61] } ++ v) 2 (by omega) (by omega)
          have hq1 : s.size + 1 ≤ 9223372036854775807 := by omega
          have hq2 : s.size + 1 + v.size ≤ 9223372036854775807 := by omega
          have hga : Grow wz (wz.alloc (.cells #[.string s, .string v] 25)) := (Below.refl _ _).alloc (Nat.le_refl _) _
          have hgz := hgr.trans hga
          clear hz1 hz2
          go_wp2_with fail
          refine hS1.mono ?_
          rintro e w2 ⟨rfl, hg2⟩
          clear hS1
          have hgz2 := hgz.trans hg2
          have hgb : Grow w2 (w2.alloc (.cells #[.string { data := #[122] }, .string { data := #[49] }, .string s, .string v, .string { data := #[97] }, .string { data := #[50] }] 25)) := (Below.refl _ _).alloc (Nat.le_refl _) _
          go_wp2_with fail
          refine (hS2 w2).mono ?_
          rintro e w3 ⟨rfl, hg3⟩
          clear hS2
          have hgz3 := hgz2.trans (hgb.trans hg3)
          go_wp2_with fail
          refine (hR w3).mono ?_
          rintro e w4 ⟨rfl, hg4⟩
          clear hR
          go_wp2_with fail
          go_roundw
          case rel => exact ⟨j + 1, by omega, by go_num, hgz3.trans hg4⟩
          case measure => simp [intOf]; omega
        · obtain rfl : j = 5 := by omega
          have hd2 : decide (((5 : Nat) : Int) < 5) = false := by decide
          go_wp2_with fail
          go_roundw
          case rel => exact ⟨i + 1, by omega, by go_num, hg1.trans hgr⟩
          case measure => simp [intOf]; omega
    · obtain rfl : i = 9 := by omega
      have hd1 : decide (((9 : Nat) : Int) < 9) = false := by decide
      have hgq := hg0.trans hgr
      clear hgr hg0 hB0
      obtain ⟨wq, rfl⟩ : ∃ wq : World, wq = wo := ⟨_, rfl⟩
      go_wp2_with fail
      go_loopw [6, 7] (fun o i wr => ∃ (k : Nat) (l : List Lb), k ≤ 10 ∧ i = .int .i64 (k : Int) ∧ l.length = k ∧ (∀ d ∈ l, d.1.size ≤ maxLen ∧ d.2.size ≤ maxLen) ∧ Own wr (New wq wr) 25 2 o k (lcells l) ∧ Grow wq wr) (fun _ i _ => 10 - (intOf i).toNat)
      case atStart => exact ⟨0, [], by omega, rfl, rfl, fun d hd => absurd hd List.not_mem_nil, Own.nil, Grow.refl _⟩
      case round =>
        obtain ⟨k, l, hk10, rfl, hlk, hls, hO, hgr⟩ := hrel
        obtain ⟨A1, c1, rfl, hI1, hn1, hm1⟩ := hO.in_
        obtain ⟨wz, rfl⟩ : ∃ wz : World, wz = wr := ⟨_, rfl⟩
        by_cases hk : k < 10
        · have hd2 : decide ((k : Int) < 10) = true := decide_eq_true (by omega)
          have hS1 := same_any wz _ A1 k c1 l hI1 hls (by omega)
          go_wp2_with fail
          refine hS1.mono ?_
          rintro e w2 ⟨rfl, hg2⟩
          clear hS1
          have hO2 := hO.grows hg2
          have hgq2 := hgr.trans hg2
          have hI2 := own_in3 hO2
          go_wp2_with (at_builtin; refine stay ?_)
          refine stay_out ?_
          refine wpList_own2 (V := New wq wz) labelE _ rfl (.tmp 63) (.tmp 64) rfl (.slice A1 k c1) k (lcells l) rfl hO2 w2.heap.size A1 k c1 (lcells l) rfl hI2.reads (lcells_one l) (by omega) ?_
          intro v5 w5 hO5 hj5 hO6
          have hszq := hgr.size
          have hsz2 := hg2.size
          have hsz5 := hj5.size
          have hgq5 : Grow wq w5 := Below.trans hgq2 (hj5.below (B := wq.heap.size) (fun b hb => hb.1) (by omega))
          obtain ⟨A5, c5, rfl, hI5, _, _⟩ := Own.in_ hO5
          rw [show lcells l ++ lcells l = lcells (l ++ l) by unfold lcells; rw [List.flatMap_append]] at hI5
          have hS2 := same_any w5 _ A5 (k + k) c5 (l ++ l) hI5 (fun d hd => (List.mem_append.1 hd).elim (hls d) (hls d)) (by omega)
          clear hO5 hI5 hj5 hI2 hI1 hO hO2
          go_wp2_with fail
          refine hS2.mono ?_
          rintro e w6 ⟨rfl, hg6⟩
          clear hS2
          have hO7 := hO6.grows hg6
          have hgq6 := hgq5.trans hg6
          have hsz6 := hg6.size
          clear hO6
          have hru := rune_at hk
          go_wp2_with (at_builtin; refine stay ?_)
          refine stay_out ?_
          generalize Utf8.encode (104 - (k : Int) % 8 + (k : Int) / 8) = s at hru
          have hga : Grow w6 (w6.alloc (.cells #[.string s, .string { data := #[118] }] 25)) := (Below.refl _ _).alloc (Nat.le_refl _) _
          refine wpList_own (V := New wq wz) labelE _ rfl (.tmp 69) (.tmp 79) rfl (.slice A1 k c1) k (lcells l) rfl (hO7.grows hga) (w6.heap.size + 1) (some ⟨w6.heap.size, 0, none⟩) 1 1 (lcells [(s, { data := #[118] })]) rfl (reads_laid w6 #[.string s, .string { data := #[118] }] 25 (0, 0) (n := 1) (size := 2) rfl w6.heap.size rfl) (lcells_one _) (by omega) ?_
          intro v8 w8 hO8 hj8
          have hsz8 := hj8.size
          simp at hsz8
          have hO9 : Own w8 (New wq w8) 25 2 v8 (k + 1) (lcells (l ++ [(s, { data := #[118] })])) := by
            rw [show lcells (l ++ [(s, { data := #[118] })]) = lcells l ++ lcells [(s, { data := #[118] })] by unfold lcells; rw [List.flatMap_append]]
            refine hO8.mono fun b hb => ?_
            rcases hb with hb | hb
            · exact ⟨hb.1, by have := hb.2; omega⟩
            · have h6 := hb.1
              simp at h6
              exact ⟨by omega, hb.2⟩
          have hgq8 : Grow wq w8 := Below.trans (hgq6.trans hga) (hj8.below (B := wq.heap.size) (fun b hb => hb.1) (by simp; omega))
          have hls8 : ∀ d ∈ l ++ [(s, { data := #[118] })], d.1.size ≤ maxLen ∧ d.2.size ≤ maxLen := fun d hd => (List.mem_append.1 hd).elim (hls d) fun hd => small_one (v := { data := #[118] }) (by omega) (by decide +kernel) d hd
          have hl8 : (l ++ [(s, ({ data := #[118] } : ByteArray))]).length = k + 1 := by rw [List.length_append, hlk]; rfl
          clear hO8 hj8 hO7 hga hls
          generalize l ++ [(s, ({ data := #[118] } : ByteArray))] = l8 at hO9 hls8 hl8
          go_wp2_with fail
          go_roundw
          case rel => exact ⟨_, _, _, _, _, _, _, _, _, _, _, _, _, _, _, _, _, _, _, _, _, _, _, _, _, _, _, _, _, ⟨k + 1, l8, by omega, by go_num, hl8, hls8, hO9, hgq8⟩, rfl⟩
          case measure => simp [intOf]; omega
        · obtain rfl : k = 10 := by omega
          have hd2 : decide (((10 : Nat) : Int) < 10) = false := by decide
          have hgp := hgq.trans hgr
          clear hO hI1 hgq hgr
          have hgt : Grow wz (wz.alloc (.cells txA 9)) := (Below.refl _ _).alloc (Nat.le_refl _) _
          have hBt : Blk (wz.alloc (.cells txA 9)) wz.heap.size 9 txA := Blk.made wz _ _
          go_wp2_with fail
          have e1 : wz.alloc (.cells #[.string { data := #[] }, .string { data := #[97] }, .string { data := #[97, 61] }, .string { data := #[61, 49] }, .string { data := #[97, 61, 49, 44] }, .string { data := #[44, 97, 61, 49] }, .string { data := #[97, 61, 49, 44, 44, 98, 61, 50] }, .string { data := #[97, 61, 49, 44, 97, 61, 50] }, .string { data := #[97, 61, 49, 44, 98, 61, 50] }, .string { data := #[98, 61, 49, 44, 97, 61, 50] }, .string { data := #[97, 61, 61, 49] }, .string { data := #[97, 61, 49, 61, 50] }, .string { data := #[97, 61, 49, 32] }, .string { data := #[65, 61, 49] }] 9) = wz.alloc (.cells txA 9) := rfl
          rw [e1]
          clear e1
          generalize (wz.alloc (.cells txA 9)) = wt at hgt hBt
          have hgs := hgp.trans hgt
          clear hgp hgt
          go_loopw [83] (fun i wr => ∃ k : Nat, k ≤ 14 ∧ i = .int .i64 (k : Int) ∧ Grow wt wr) (fun i _ => 14 - (intOf i).toNat)
          case atStart => exact ⟨0, by omega, rfl, Grow.refl _⟩
          case round =>
            obtain ⟨i, hi14, rfl, hgr⟩ := hrel
            obtain ⟨wo, rfl⟩ : ∃ wo : World, wo = wr := ⟨_, rfl⟩
            by_cases hi : i < 14
            · have hd1 : decide ((i : Int) < 14) = true := decide_eq_true (by omega)
              have hi' : ¬ 14 ≤ i := by omega
              obtain ⟨s, hs, hcs⟩ := txA_at hi
              have c0 := ((hBt.grow hgr).cell i).trans hcs
              go_wp2_with fail
              clear c0
              go_loopw [10] (fun i wr => ∃ z : Int, -1 ≤ z ∧ z ≤ 7 ∧ i = .int .i64 z ∧ Grow wo wr) (fun i _ => (7 - intOf i).toNat)
              case atStart => exact ⟨-1, by omega, by omega, rfl, Grow.refl _⟩
              case round =>
                obtain ⟨z, hz1, hz2, rfl, hgz⟩ := hrel
                by_cases hz : z < 7
                · have hd3 : decide (z < 7) = true := decide_eq_true hz
                  have hwz : wrap64 (z + 1) = z + 1 := by unfold wrap64; omega
                  go_wp2_with fail
                  refine (reads_any wr s z (by omega) (by omega)).mono ?_
                  rintro e w9 ⟨rfl, hg9⟩
                  go_wp2_with fail
                  go_roundw
                  case rel => exact ⟨_, _, _, _, _, _, _, _, _, _, ⟨z + 1, by omega, by omega, rfl, hgz.trans hg9⟩, rfl⟩
                  case measure => simp [intOf]; omega
                · obtain rfl : z = 7 := by omega
                  go_wp2_with fail
                  go_roundw
                  case rel => exact ⟨i + 1, by omega, by go_num, hgr.trans hgz⟩
                  case measure => simp [intOf]; omega
            · obtain rfl : i = 14 := by omega
              have hd1 : decide (((14 : Nat) : Int) < 14) = false := by decide
              go_wp2_with fail
              refine (reads_any wo { data := #[97, 61, 49] } 4611686018427387904 (by decide +kernel) (by omega)).mono ?_
              rintro e w9 ⟨rfl, hg9⟩
              go_wp2_with fail
              refine (known_any w9).mono ?_
              rintro e w10 ⟨rfl, hg10⟩
              go_wp2_with fail
              go_ret
              exact ⟨rfl, ((hgs.trans hgr).trans hg9).trans hg10⟩
end Go.Proofs.YthkkfdnechmddaaDoor
