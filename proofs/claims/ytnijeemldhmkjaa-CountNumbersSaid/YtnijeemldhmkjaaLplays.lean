/- CountPlays: its walk. -/
import Derived.Test.YtnijeemldhmkjaaPlay
namespace Go.Proofs.Ytnijeemldhmkjaa
open Go.RowKit Go.Hop
theorem RowsOwn.past {w w' : World} {V : Nat → Prop} {v : Value} {q : List Dr} (h : RowsOwn w V v q) (hj : Just (fun b => V b ∧ b ∉ q.map Dr.g) w w') : ∀ b ∈ q.map Dr.rr, RrIn w' V b := fun b hb => by
  obtain ⟨_, _, _, _, _, h1⟩ := h.ins
  have h2 := h1.all b hb
  obtain ⟨d, hd, rfl⟩ := List.mem_map.1 hb
  have hdg := (h.all d hd).1
  have h3 := (h.all d hd).2.own.in_
  obtain ⟨A9, c9, e9, h9, _⟩ := h3
  injection e9 with e9
  have h4 : In w (fun x => x = d.g) 2 d.rr.A d.rr.l.length (dcells d.rr.l) := by
    show In w (fun x => x = d.g) 2 (some ⟨d.g, 0, none⟩) d.l.length (dcells d.l)
    rw [e9]; exact h9
  exact ⟨(h4.just hj (fun x hx hv => hv.2 (by rw [hx]; exact List.mem_map.2 ⟨d, hd, rfl⟩))).mono fun x hx => by rw [hx]; exact hdg, h2.ok, h2.small⟩
theorem dr_cells (q : List Dr) : (q.map Dr.rr).flatMap Rr.cells = q.flatMap Dr.cells := by rw [List.flatMap_map]; rfl
set_option maxRecDepth 100000 in
set_option maxHeartbeats 1000000 in
theorem plays_any (w : World) (A0 : Option Addr) (n0 c0 : Nat) (l0 : List Int) (hl0 : Reads w w.heap.size 1 A0 n0 (l0.map (Value.int .i64))) (hx0 : ∀ z ∈ l0, -9223372036854775808 ≤ z ∧ z ≤ 9223372036854775807) (hn0 : n0 ≤ 9223372036854775807)
    (A1 : Option Addr) (n1 c1 : Nat) (l1 : List Dl) (hl1 : In w (fun b => b < w.heap.size) 2 A1 n1 (dcells l1) ∧ ∀ d ∈ l1, d.1.size ≤ maxLen ∧ d.2 ≤ M64) (hc1 : n1 ≤ c1) :
    Calls Try.prog 7 #[.slice A0 n0 c0, .slice A1 n1 c1] w fun e w' => e = .returned (.bool true) ∧ Grow w w' := by
  have hI0 : In w (fun b => b < w.heap.size) 1 A0 n0 (l0.map (Value.int .i64)) := Reads.in_ hl0 (Nat.le_refl _) fun _ h => h
  obtain ⟨hI1, hd1⟩ := hl1
  have hln : l1.length = n1 := by have := hI1.1; rw [dcells_len] at this; omega
  have hrows := rows_any w A0 n0 c0 l0 (fun b => b < w.heap.size) hI0 (fun b hb => hb) hn0 hx0 40 (by omega)
  rw [show ((40 : Nat) : Int) = 40 from rfl] at hrows
  go_enter Try.func7, Try.ntmps7
  by_cases h30 : 30 < n1
  · have h30' : decide ((30 : Int) < (n1 : Int)) = true := decide_eq_true (by omega)
    have hI2 : In w (fun b => b < w.heap.size) 2 A1 30 (dcells (l1.take 30)) := by
      have := hI1.take (k := 30) (by omega)
      unfold dcells at this ⊢
      rwa [flat_take dcell 2 dcell_len] at this
    have hd2 : ∀ d ∈ l1.take 30, d.1.size ≤ maxLen ∧ d.2 ≤ M64 := fun d hd => hd1 d (List.mem_of_mem_take hd)
    have hl2 : (l1.take 30).length = 30 := by rw [List.length_take]; omega
    generalize l1.take 30 = l2 at hI2 hd2 hl2
    have hc30 : ¬ c1 < 30 := by omega
    have hn30 : ¬ n1 < 30 := by omega
    clear hd1 hI1 hln
    obtain ⟨m2, HM2⟩ : ∃ m2 : Nat, Hid (30 = m2) := ⟨_, rfl⟩
    rw [HM2.out] at hI2 hl2
    have hm30 : m2 ≤ 30 := by have := HM2.out; omega
    go_wp2_with fail
    rw [HM2.out]
    refine hrows.mono ?_
    rintro e w1 ⟨v, q, rfl, hR, hqn, hg1⟩
    clear hrows
    have hs1 := hg1.size
    have hR' := hR
    obtain ⟨A, c, rfl, hnc, hcm, hRI⟩ := hR.ins
    have hp1 := play_any w1 A c (q.map Dr.rr) (New w w1) hRI (fun b hb => hb.2) q.length (by rw [List.length_map])
    go_wp2_with fail
    refine hp1.mono ?_
    rintro e w2 ⟨rfl, hg2⟩
    clear hp1 hRI
    have hR2 : RowsOwn w2 (New w w1) (.slice A q.length c) q := hR'.keep fun b hb => hg2.block b hb.2
    have hs2 := hg2.size
    have hga : Grow w2 (w2.alloc (.cells #[.slice A1 m2 c1, .slice A1 m2 c1] 27)) := (Below.refl _ _).alloc (Nat.le_refl _) _
    obtain ⟨rw_, HRW⟩ : ∃ b : Rr, Hid (b = ⟨A1, c1, l2⟩) := ⟨_, rfl⟩
    have hval : rw_.val = .slice A1 m2 c1 := by rw [HRW.out, ← hl2]; rfl
    clear hR hR'
    go_wp2_with (at_builtin; refine stay ?_)
    refine stay_out ?_
    refine wpList_own (V := _) sdE _ rfl (.tmp 16) (.tmp 19) rfl (.slice A q.length c) q.length (q.flatMap Dr.cells) rfl (hR2.row.grow (fun b hb => by have := hb.1.2; omega) hga) (w2.heap.size + 1) (some ⟨w2.heap.size, 0, none⟩) 2 2 ([rw_, rw_].flatMap Rr.cells) rfl (by have h := reads_laid w2 #[.slice A1 m2 c1, .slice A1 m2 c1] 27 (0, 0) (n := 2) (size := 1) rfl _ rfl; simpa [Rr.cells, hval] using h) (rcells_one _) (by omega) ?_
    intro v5 w5 hO5 hj5
    have hs5 := hj5.size
    simp at hs5
    obtain ⟨A5, c5, rfl, hI5, hn5, hm5⟩ := hO5.in_
    have hj25 : Just (fun b => New w w1 b ∧ b ∉ q.map Dr.g) w2 w5 := (Just.of_grow hga).trans hj5
    have hg5 : Grow w w5 := Below.trans (below_trans (below_trans hg1 hg2 hs1) hga (by omega)) (hj5.below (B := w.heap.size) (fun b hb => hb.1.1) (by simp; omega))
    have hRI5 : RowsIn w5 (fun b => b < w5.heap.size) A5 (q.map Dr.rr ++ [rw_, rw_]) := by
      refine ⟨?_, fun b hb => ?_⟩
      · rw [List.flatMap_append, dr_cells, List.length_append, List.length_map]
        refine hI5.mono fun b hb => ?_
        rcases hb with hb | hb
        · have := hb.1.2; omega
        · exact hb.2
      · rcases List.mem_append.1 hb with hb | hb
        · exact (hR2.past hj25 b hb).mono fun x hx => by have := hx.2; omega
        · have hb : b = rw_ := by simpa using hb
          rw [hb, HRW.out]
          refine ⟨?_, hd2, by show l2.length ≤ 1000000; omega⟩
          show In w5 (fun b => b < w5.heap.size) 2 A1 l2.length (dcells l2)
          rw [hl2]
          exact (hI2.grow hg5).mono fun b hb => by omega
    have hp2 := play_any w5 A5 c5 _ _ hRI5 (fun b hb => hb) (q.length + 2) (by simp)
    clear hO5 hj5 hI5 hRI5 hR2 hj25 hga
    go_wp2_with fail
    refine hp2.mono ?_
    rintro e w6 ⟨rfl, hg6⟩
    go_wp2_with fail
    refine (known_any _).mono ?_
    rintro e w7 ⟨rfl, hg7⟩
    go_wp2_with fail
    go_ret
    have hg56 := below_trans hg5 hg6 hg5.size
    exact ⟨rfl, below_trans hg56 hg7 hg56.size⟩
  · have h30' : decide ((30 : Int) < (n1 : Int)) = false := decide_eq_false (by omega)
    obtain ⟨l2, hl2e⟩ : ∃ l2, l2 = l1 := ⟨_, rfl⟩
    obtain ⟨m2, HM2⟩ : ∃ m2 : Nat, Hid (n1 = m2) := ⟨_, rfl⟩
    have hI2 := hI1
    have hd2 := hd1
    have hl2 := hln
    rw [HM2.out] at hI2 hl2
    rw [← hl2e] at hI2 hd2 hl2
    have hm30 : m2 ≤ 30 := by have := HM2.out; omega
    clear hd1 hI1 hln hl2e
    go_wp2_with fail
    rw [HM2.out]
    refine hrows.mono ?_
    rintro e w1 ⟨v, q, rfl, hR, hqn, hg1⟩
    clear hrows
    have hs1 := hg1.size
    have hR' := hR
    obtain ⟨A, c, rfl, hnc, hcm, hRI⟩ := hR.ins
    have hp1 := play_any w1 A c (q.map Dr.rr) (New w w1) hRI (fun b hb => hb.2) q.length (by rw [List.length_map])
    go_wp2_with fail
    refine hp1.mono ?_
    rintro e w2 ⟨rfl, hg2⟩
    clear hp1 hRI
    have hR2 : RowsOwn w2 (New w w1) (.slice A q.length c) q := hR'.keep fun b hb => hg2.block b hb.2
    have hs2 := hg2.size
    have hga : Grow w2 (w2.alloc (.cells #[.slice A1 m2 c1, .slice A1 m2 c1] 27)) := (Below.refl _ _).alloc (Nat.le_refl _) _
    obtain ⟨rw_, HRW⟩ : ∃ b : Rr, Hid (b = ⟨A1, c1, l2⟩) := ⟨_, rfl⟩
    have hval : rw_.val = .slice A1 m2 c1 := by rw [HRW.out, ← hl2]; rfl
    clear hR hR'
    go_wp2_with (at_builtin; refine stay ?_)
    refine stay_out ?_
    refine wpList_own (V := _) sdE _ rfl (.tmp 16) (.tmp 19) rfl (.slice A q.length c) q.length (q.flatMap Dr.cells) rfl (hR2.row.grow (fun b hb => by have := hb.1.2; omega) hga) (w2.heap.size + 1) (some ⟨w2.heap.size, 0, none⟩) 2 2 ([rw_, rw_].flatMap Rr.cells) rfl (by have h := reads_laid w2 #[.slice A1 m2 c1, .slice A1 m2 c1] 27 (0, 0) (n := 2) (size := 1) rfl _ rfl; simpa [Rr.cells, hval] using h) (rcells_one _) (by omega) ?_
    intro v5 w5 hO5 hj5
    have hs5 := hj5.size
    simp at hs5
    obtain ⟨A5, c5, rfl, hI5, hn5, hm5⟩ := hO5.in_
    have hj25 : Just (fun b => New w w1 b ∧ b ∉ q.map Dr.g) w2 w5 := (Just.of_grow hga).trans hj5
    have hg5 : Grow w w5 := Below.trans (below_trans (below_trans hg1 hg2 hs1) hga (by omega)) (hj5.below (B := w.heap.size) (fun b hb => hb.1.1) (by simp; omega))
    have hRI5 : RowsIn w5 (fun b => b < w5.heap.size) A5 (q.map Dr.rr ++ [rw_, rw_]) := by
      refine ⟨?_, fun b hb => ?_⟩
      · rw [List.flatMap_append, dr_cells, List.length_append, List.length_map]
        refine hI5.mono fun b hb => ?_
        rcases hb with hb | hb
        · have := hb.1.2; omega
        · exact hb.2
      · rcases List.mem_append.1 hb with hb | hb
        · exact (hR2.past hj25 b hb).mono fun x hx => by have := hx.2; omega
        · have hb : b = rw_ := by simpa using hb
          rw [hb, HRW.out]
          refine ⟨?_, hd2, by show l2.length ≤ 1000000; omega⟩
          show In w5 (fun b => b < w5.heap.size) 2 A1 l2.length (dcells l2)
          rw [hl2]
          exact (hI2.grow hg5).mono fun b hb => by omega
    have hp2 := play_any w5 A5 c5 _ _ hRI5 (fun b hb => hb) (q.length + 2) (by simp)
    clear hO5 hj5 hI5 hRI5 hR2 hj25 hga
    go_wp2_with fail
    refine hp2.mono ?_
    rintro e w6 ⟨rfl, hg6⟩
    go_wp2_with fail
    refine (known_any _).mono ?_
    rintro e w7 ⟨rfl, hg7⟩
    go_wp2_with fail
    go_ret
    have hg56 := below_trans hg5 hg6 hg5.size
    exact ⟨rfl, below_trans hg56 hg7 hg56.size⟩
end Go.Proofs.Ytnijeemldhmkjaa
