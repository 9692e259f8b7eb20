/- What the answer's disk computes. -/
import Derived.Test.YtdpcokekilklfaaDisk2
namespace Go.Proofs.Ytdpcokekilklfaa
open Go.RowKit Go.Hop

theorem rSync_any (w : World) (d : Nat) (l : List UInt8) (k : Nat) :
    Turns Try.prog 34 #[.pointer (some ⟨d, 0, none⟩)] (fun e => e = .returned (.tuple #[])) (DiskAt 61 d l k) (DiskAt 61 d l l.length) w := by
  intro V ⟨hd, hk, hl, v, hB, hO⟩ hV
  obtain ⟨A, c, rfl, hR, hn, hm⟩ := hO.reads
  have c0 := hB.cell 0
  have f0 := hB.frozen 1
  have c1 := hB.cell 1
  go_enter Try.func34, Try.ntmps34
  go_wp2_with fail
  go_end0
  exact ⟨rfl, ⟨.inl hd, Nat.le_refl _, hl, _, hB.put 1 _, (hO.put (fun h => h.2 rfl) 1 _).mono fun b hb => ⟨.inl hb.1, hb.2⟩⟩, (Just.of_grow (Grow.refl w)).put hd 1 _⟩

theorem rCut_no (w : World) (d : Nat) (l : List UInt8) (k : Nat) (n : Int) (hn : -9223372036854775808 ≤ n ∧ n ≤ 9223372036854775807) (hc : cutB l n = false) :
    Turns Try.prog 45 #[.pointer (some ⟨d, 0, none⟩), .int .i64 n] (fun e => e = .returned (.bool false)) (DiskAt 61 d l k) (DiskAt 61 d l k) w := by
  intro V hD hV
  have hD' := hD
  obtain ⟨hd, hk, hl, v, hB, hO⟩ := hD
  obtain ⟨A, c, rfl, hR, hnc, hm⟩ := hO.reads
  have c0 := hB.cell 0
  unfold cutB at hc
  rw [Bool.and_eq_false_iff, decide_eq_false_iff_not, decide_eq_false_iff_not] at hc
  by_cases h0 : n < 0
  · go_enter Try.func45, Try.ntmps45
    go_wp2_with fail
    go_ret
    exact ⟨rfl, DiskAt.wide hD' (fun _ => .inl), Just.of_grow (Grow.refl w)⟩
  · have h1 : (l.length : Int) < n := by omega
    go_enter Try.func45, Try.ntmps45
    go_wp2_with fail
    go_ret
    exact ⟨rfl, DiskAt.wide hD' (fun _ => .inl), Just.of_grow (Grow.refl w)⟩

theorem rCut_yes (w : World) (d : Nat) (l : List UInt8) (k m : Nat) (hm : m ≤ l.length) :
    Turns Try.prog 45 #[.pointer (some ⟨d, 0, none⟩), .int .i64 (m : Int)] (fun e => e = .returned (.bool true)) (DiskAt 61 d l k) (DiskAt 61 d (l.take m) m) w := by
  intro V ⟨hd, hk, hl, v, hB, hO⟩ hV
  obtain ⟨A, c, rfl, hR, hnc, hc⟩ := hO.reads
  have hRm : Reads w w.heap.size 1 A m (u8s (l.take m)) := by rw [u8s_take]; exact hR.take hm
  have c0 := hB.cell 0
  have c00 := (hB.alloc (.cells #[] 5)).cell 0
  have hlm : (l.take m).length = m := by rw [List.length_take]; omega
  go_enter Try.func45, Try.ntmps45
  go_wp2_with (at_builtin; refine stay ?_)
  refine stay_out ?_
  refine wpList_own (V := fun b => b = w.heap.size) u8E _ rfl (.tmp 17) (.tmp 23) rfl (.slice (some ⟨w.heap.size, 0, none⟩) 0 0) 0 [] rfl (made_own w) w.heap.size A m c (u8s (l.take m)) rfl (Reads.alloc hRm (Nat.le_refl _) _) u8s_one (by omega) ?_
  intro v1 w1 hO1 hj1
  simp only [Nat.zero_add, List.nil_append] at hO1
  obtain ⟨hO2, hg2⟩ := own_new hO1 hj1
  have hB1 := hB.grow hg2
  obtain ⟨A2, c2, rfl, hR2, _, _⟩ := hO1.reads
  have f0 := hB1.frozen 0
  have f1 := hB1.frozen 1
  have c01 := hB1.cell 0
  have c1 := hB1.cell 1
  go_wp2_with fail
  go_ret
  have hdl := hB.lt
  have hB2 := (hB1.put 0 (.slice A2 m c2)).put 1 (.int .i64 (m : Int))
  refine ⟨rfl, ⟨.inl hd, by omega, by omega, _, hB2, ?_⟩, ((Just.of_grow hg2).put hd 0 _).put hd 1 _⟩
  rw [hlm]
  exact ((hO2.put (fun h => by have := h.1; omega) 0 _).put (fun h => by have := h.1; omega) 1 _).mono fun b hb => ⟨.inr ⟨hb.1, by simpa [World.setCell] using hb.2⟩, by have := hb.1; omega⟩
theorem rAppend_no (w : World) (d : Nat) (l : List UInt8) (k : Nat) (A : Option Addr) (n c : Nat) (b : List UInt8) (hb : Bytes w w.heap.size A n b) (hf : fits l b = false) :
    Turns Try.prog 46 #[.pointer (some ⟨d, 0, none⟩), .slice A n c] (fun e => e = .returned (.int .i64 24)) (DiskAt 61 d l k) (DiskAt 61 d l k) w := by
  intro V hD hV
  have hD' := hD
  obtain ⟨hd, hk, hl, v, hB, hO⟩ := hD
  obtain ⟨A1, c1, rfl, hR, hnc, hm⟩ := hO.reads
  have c0 := hB.cell 0
  have hbl := hb.len
  have hf' : ¬ l.length + n ≤ 1048576 := by rw [← hbl]; exact of_decide_eq_false hf
  go_enter Try.func46, Try.ntmps46
  go_wp2_with fail
  go_ret
  exact ⟨rfl, DiskAt.wide hD' (fun _ => .inl), Just.of_grow (Grow.refl w)⟩
theorem rAppend_yes (w : World) (d : Nat) (l : List UInt8) (k : Nat) (A : Option Addr) (n c : Nat) (b : List UInt8) (hb : Bytes w w.heap.size A n b) (hf : fits l b = true) :
    Turns Try.prog 46 #[.pointer (some ⟨d, 0, none⟩), .slice A n c] (fun e => e = .returned (.int .i64 0)) (DiskAt 61 d l k) (DiskAt 61 d (l ++ b) k) w := by
  intro V ⟨hd, hk, hl, v, hB, hO⟩ hV
  obtain ⟨A1, c1, rfl, hR, hnc, hm⟩ := hO.reads
  have c0 := hB.cell 0
  have c00 := (hB.alloc (.cells #[] 5)).cell 0
  have hbl := hb.len
  have hf' : l.length + n ≤ 1048576 := by rw [← hbl]; exact of_decide_eq_true hf
  go_enter Try.func46, Try.ntmps46
  go_wp2_with (at_builtin; refine stay ?_)
  refine stay_out ?_
  refine wpList_own (V := fun b => b = w.heap.size) u8E _ rfl (.tmp 15) (.tmp 19) rfl (.slice (some ⟨w.heap.size, 0, none⟩) 0 0) 0 [] rfl (made_own w) w.heap.size A1 l.length c1 (u8s l) rfl (Reads.alloc hR (Nat.le_refl _) _) u8s_one (by omega) ?_
  intro v1 w1 hO1 hj1
  simp only [Nat.zero_add, List.nil_append] at hO1
  obtain ⟨hO2, hg2⟩ := own_new hO1 hj1
  clear hO1 hj1
  obtain ⟨A2, c2, rfl, hR2, _, _⟩ := hO2.reads
  go_wp2_with (at_builtin; refine stay ?_)
  refine stay_out ?_
  refine wpList_own u8E _ rfl (.tmp 20) (.tmp 21) rfl (.slice A2 l.length c2) l.length (u8s l) rfl hO2 w.heap.size A n c (u8s b) rfl (Reads.below hb hg2) u8s_one (by omega) ?_
  intro v2 w2 hO3 hj3
  rw [← u8s_append] at hO3
  have hg3 : Grow w w2 := Below.trans hg2 (hj3.below (B := w.heap.size) (fun b hb => hb.1) hg2.size)
  have hB1 := hB.grow hg3
  obtain ⟨A3, c3, rfl, hR3, _, _⟩ := hO3.reads
  have f0 := hB1.frozen 0
  have c01 := hB1.cell 0
  go_wp2_with fail
  go_ret
  have hdl := hB.lt
  have hll : (l ++ b).length = l.length + n := by rw [List.length_append, hbl]
  have hO4 := hO3.mono (V' := New w w2) (fun b hb => by
    have := hj3.size
    have := hg2.size
    rcases hb with hb | hb
    · exact ⟨hb.1, by have := hb.2; omega⟩
    · exact ⟨by have := hb.1; omega, hb.2⟩)
  refine ⟨rfl, ⟨.inl hd, by omega, by omega, _, hB1.put 0 _, ?_⟩, (Just.of_grow hg3).put hd 0 _⟩
  rw [hll]
  exact (hO4.put (fun h => by have := h.1; omega) 0 _).mono fun b hb => ⟨.inr ⟨hb.1, by simpa [World.setCell] using hb.2⟩, by have := hb.1; omega⟩
theorem rCut_any (w : World) (d : Nat) (l : List UInt8) (k : Nat) (n : Int) (hn : -9223372036854775808 ≤ n ∧ n ≤ 9223372036854775807) :
    Turns Try.prog 45 #[.pointer (some ⟨d, 0, none⟩), .int .i64 n] (fun e => e = .returned (.bool (cutB l n))) (DiskAt 61 d l k) (DiskAt 61 d (cutL l n) (cutK l k n)) w := by
  unfold cutL cutK
  cases hc : cutB l n with
  | false => exact rCut_no w d l k n hn hc
  | true =>
    obtain ⟨m, rfl, hm⟩ := cut_of hc
    exact rCut_yes w d l k m hm
theorem rAppend_any (w : World) (d : Nat) (l : List UInt8) (k : Nat) (A : Option Addr) (n c : Nat) (b : List UInt8) (hb : Bytes w w.heap.size A n b) :
    Turns Try.prog 46 #[.pointer (some ⟨d, 0, none⟩), .slice A n c] (fun e => e = .returned (.int .i64 (appE l b))) (DiskAt 61 d l k) (DiskAt 61 d (appL l b) k) w := by
  unfold appE appL
  cases hc : fits l b with
  | false => exact rAppend_no w d l k A n c b hb hc
  | true => exact rAppend_yes w d l k A n c b hb hc
theorem rCut_at (w : World) (d : Nat) (l : List UInt8) (k m : Nat) (n : Int) (hn : n = (m : Int)) (hm : m ≤ l.length) :
    Turns Try.prog 45 #[.pointer (some ⟨d, 0, none⟩), .int .i64 n] (fun e => e = .returned (.bool true)) (DiskAt 61 d l k) (DiskAt 61 d (l.take m) m) w := hn ▸ rCut_yes w d l k m hm
theorem keepN_is' {l : List UInt8} {k : Nat} (hk : k ≤ l.length) (keep : Int) : (keepN l k keep : Int) = max 0 (min keep ((l.length : Int) - (k : Int))) ∧ k + keepN l k keep ≤ l.length := by
  unfold keepN; omega
set_option maxRecDepth 20000 in
theorem rCrash_any (w : World) (d : Nat) (l : List UInt8) (k : Nat) (keep : Int) (hkeep : -9223372036854775808 ≤ keep ∧ keep ≤ 9223372036854775807) :
    Turns Try.prog 35 #[.pointer (some ⟨d, 0, none⟩), .int .i64 keep] (fun e => e = .returned (.int .i64 ((l.length : Int) - (k : Int) - (keepN l k keep : Int)))) (DiskAt 61 d l k) (DiskAt 61 d (l.take (k + keepN l k keep)) (k + keepN l k keep)) w := by
  intro V hD hV
  have hD' := hD
  obtain ⟨hd, hk, hl, v, hB, hO⟩ := hD
  obtain ⟨A1, c1, rfl, hR, hnc, hm0⟩ := hO.reads
  have hW : ∀ w1, Grow w w1 → DiskAt 61 d l k w1 V := fun w1 hg => DiskAt.framed _ d l k w w1 V hD' fun b hb => hg.block b (hV b hb)
  obtain ⟨hm, hle⟩ := keepN_is' hk keep
  generalize keepN l k keep = m at hm hle
  obtain ⟨W, hWd⟩ : ∃ W : Int, W = (l.length : Int) - (k : Int) := ⟨_, rfl⟩
  have hWw : IntKind.i64.wrap ((l.length : Int) - (k : Int)) = W := by rw [IntKind.wrap_i64]; omega
  rw [← hWd] at hm ⊢
  have hWl : 0 ≤ W ∧ W ≤ 1048576 := by omega
  have hmW : (m : Int) ≤ W := by omega
  clear hWd
  by_cases h0 : keep ≤ 0
  · obtain rfl : m = 0 := by omega
    · skip
      go_enter Try.func35, Try.ntmps35
      go_wp2_with fail
      refine wp_region_flow 11 32 [] rfl rfl (by kernel_rfl) (by kernel_rfl) (by kernel_rfl) ?_ ?_
      · intro x hx φ he
        cases hx
      intro ops' A' K' T hops hA' hK hT
      refine fl_mv 7 (by rfl) (by decide) (wanted_none (by rfl)) (by rw [hK.out]; rfl) (by rfl) _ (Or.inl (by rfl)) (.pointer (some ⟨d, 0, none⟩)) (by rfl) ?_
      refine fl_op1 8 (by rfl) (by decide) (wanted_none (by rfl)) (by rw [hK.out]; rfl) (by rfl) (.tmp 7) (.pointer (some ⟨d, 0, none⟩)) (by rfl) (.pointer (some ⟨d, 0, none⟩)) (fun ρ h1 kk w1 (hg : Grow _ w1) hb hf => by go_simp) ?_
      refine fl_op1 9 (by rfl) (by decide) (wanted_none (by rfl)) (by rw [hK.out]; rfl) (by rfl) (.tmp 8) (.pointer (some ⟨d, 0, none⟩)) (by rfl) (.pointer (some ⟨d, 0, none⟩)) (fun ρ h1 kk w1 (hg : Grow _ w1) hb hf => by go_simp) ?_
      refine fl_op1 10 (by rfl) (by decide) (wanted_none (by rfl)) (by rw [hK.out]; rfl) (by rfl) (.tmp 9) (.pointer (some ⟨d, 0, none⟩)) (by rfl) (.slice A1 l.length c1) (fun ρ h1 kk w1 (hg : Grow _ w1) hb hf => by have c := (hB.grow hg).cell 0; go_simp) ?_
      refine fl_op1 11 (by rfl) (by decide) (wanted_none (by rfl)) (by rw [hK.out]; rfl) (by rfl) (.tmp 10) (.slice A1 l.length c1) (by rfl) (.int .i64 (l.length : Int)) (fun ρ h1 kk w1 (hg : Grow _ w1) hb hf => by go_simp) ?_
      refine fl_mv 12 (by rfl) (by decide) (wanted_none (by rfl)) (by rw [hK.out]; rfl) (by rfl) _ (Or.inl (by rfl)) (.pointer (some ⟨d, 0, none⟩)) (by rfl) ?_
      refine fl_op1 13 (by rfl) (by decide) (wanted_none (by rfl)) (by rw [hK.out]; rfl) (by rfl) (.tmp 12) (.pointer (some ⟨d, 0, none⟩)) (by rfl) (.pointer (some ⟨d, 0, none⟩)) (fun ρ h1 kk w1 (hg : Grow _ w1) hb hf => by go_simp) ?_
      refine fl_op1 14 (by rfl) (by decide) (wanted_none (by rfl)) (by rw [hK.out]; rfl) (by rfl) (.tmp 13) (.pointer (some ⟨d, 0, none⟩)) (by rfl) (.pointer (some ⟨d, 1, none⟩)) (fun ρ h1 kk w1 (hg : Grow _ w1) hb hf => by go_simp) ?_
      refine fl_op1 15 (by rfl) (by decide) (wanted_none (by rfl)) (by rw [hK.out]; rfl) (by rfl) (.tmp 14) (.pointer (some ⟨d, 1, none⟩)) (by rfl) (.int .i64 (k : Int)) (fun ρ h1 kk w1 (hg : Grow _ w1) hb hf => by have c := (hB.grow hg).cell 1; go_simp) ?_
      refine fl_op2 16 (by rfl) (by decide) (wanted_none (by rfl)) (by rw [hK.out]; rfl) (by rfl) (.tmp 11) (.tmp 15) (.int .i64 (l.length : Int)) (.int .i64 (k : Int)) (by rfl) (by rfl) (.int .i64 W) (fun ρ h1 h2 kk w1 (hg : Grow _ w1) hb hf => by go_simp) ?_
      refine fl_mv 5 (by rfl) (by decide) (wanted_none (by rfl)) (by rw [hK.out]; rfl) (by rfl) _ (Or.inr (by rfl)) (.int .i64 W) (by rfl) ?_
      refine fl_end (fun _ _ w1 (hg : Grow _ w1) _ hfacts => hT _ _ ?_)
      clear hops hA' hK hT
      simp only [putsL, Act.put, List.setIfInBounds_toArray, List.set_cons_zero, List.set_cons_succ, List.drop_succ_cons, List.drop_zero]

      have c1 := (hB.grow hg).cell 1
      go_wp2_with fail
      all_goals
        go_at_call 45
        refine (rCut_at w1 d l k (k + 0) _ (by push_cast; omega) (by omega) V (hW w1 hg) (fun b hb => Nat.lt_of_lt_of_le (hV b hb) hg.size)).mono ?_
        rintro e w3 ⟨rfl, hD3, hj3⟩
        go_wp2_with fail
        go_ret
        refine ⟨ret_int (by omega), hD3.wide (fun b hb => ?_), (Just.of_grow hg).trans hj3⟩
        rcases hb with hb | hb
        · exact .inl hb
        · exact .inr ⟨Nat.le_trans hg.size hb.1, hb.2⟩
  · by_cases h1 : keep < W
    · obtain rfl : keep = (m : Int) := by omega
      clear hm
      go_enter Try.func35, Try.ntmps35
      go_wp2_with fail
      refine wp_region_flow 11 32 [] rfl rfl (by kernel_rfl) (by kernel_rfl) (by kernel_rfl) ?_ ?_
      · intro x hx φ he
        cases hx
      intro ops' A' K' T hops hA' hK hT
      refine fl_mv 7 (by rfl) (by decide) (wanted_none (by rfl)) (by rw [hK.out]; rfl) (by rfl) _ (Or.inl (by rfl)) (.pointer (some ⟨d, 0, none⟩)) (by rfl) ?_
      refine fl_op1 8 (by rfl) (by decide) (wanted_none (by rfl)) (by rw [hK.out]; rfl) (by rfl) (.tmp 7) (.pointer (some ⟨d, 0, none⟩)) (by rfl) (.pointer (some ⟨d, 0, none⟩)) (fun ρ h1 kk w1 (hg : Grow _ w1) hb hf => by go_simp) ?_
      refine fl_op1 9 (by rfl) (by decide) (wanted_none (by rfl)) (by rw [hK.out]; rfl) (by rfl) (.tmp 8) (.pointer (some ⟨d, 0, none⟩)) (by rfl) (.pointer (some ⟨d, 0, none⟩)) (fun ρ h1 kk w1 (hg : Grow _ w1) hb hf => by go_simp) ?_
      refine fl_op1 10 (by rfl) (by decide) (wanted_none (by rfl)) (by rw [hK.out]; rfl) (by rfl) (.tmp 9) (.pointer (some ⟨d, 0, none⟩)) (by rfl) (.slice A1 l.length c1) (fun ρ h1 kk w1 (hg : Grow _ w1) hb hf => by have c := (hB.grow hg).cell 0; go_simp) ?_
      refine fl_op1 11 (by rfl) (by decide) (wanted_none (by rfl)) (by rw [hK.out]; rfl) (by rfl) (.tmp 10) (.slice A1 l.length c1) (by rfl) (.int .i64 (l.length : Int)) (fun ρ h1 kk w1 (hg : Grow _ w1) hb hf => by go_simp) ?_
      refine fl_mv 12 (by rfl) (by decide) (wanted_none (by rfl)) (by rw [hK.out]; rfl) (by rfl) _ (Or.inl (by rfl)) (.pointer (some ⟨d, 0, none⟩)) (by rfl) ?_
      refine fl_op1 13 (by rfl) (by decide) (wanted_none (by rfl)) (by rw [hK.out]; rfl) (by rfl) (.tmp 12) (.pointer (some ⟨d, 0, none⟩)) (by rfl) (.pointer (some ⟨d, 0, none⟩)) (fun ρ h1 kk w1 (hg : Grow _ w1) hb hf => by go_simp) ?_
      refine fl_op1 14 (by rfl) (by decide) (wanted_none (by rfl)) (by rw [hK.out]; rfl) (by rfl) (.tmp 13) (.pointer (some ⟨d, 0, none⟩)) (by rfl) (.pointer (some ⟨d, 1, none⟩)) (fun ρ h1 kk w1 (hg : Grow _ w1) hb hf => by go_simp) ?_
      refine fl_op1 15 (by rfl) (by decide) (wanted_none (by rfl)) (by rw [hK.out]; rfl) (by rfl) (.tmp 14) (.pointer (some ⟨d, 1, none⟩)) (by rfl) (.int .i64 (k : Int)) (fun ρ h1 kk w1 (hg : Grow _ w1) hb hf => by have c := (hB.grow hg).cell 1; go_simp) ?_
      refine fl_op2 16 (by rfl) (by decide) (wanted_none (by rfl)) (by rw [hK.out]; rfl) (by rfl) (.tmp 11) (.tmp 15) (.int .i64 (l.length : Int)) (.int .i64 (k : Int)) (by rfl) (by rfl) (.int .i64 W) (fun ρ h1 h2 kk w1 (hg : Grow _ w1) hb hf => by go_simp) ?_
      refine fl_mv 5 (by rfl) (by decide) (wanted_none (by rfl)) (by rw [hK.out]; rfl) (by rfl) _ (Or.inr (by rfl)) (.int .i64 W) (by rfl) ?_
      refine fl_end (fun _ _ w1 (hg : Grow _ w1) _ hfacts => hT _ _ ?_)
      clear hops hA' hK hT
      simp only [putsL, Act.put, List.setIfInBounds_toArray, List.set_cons_zero, List.set_cons_succ, List.drop_succ_cons, List.drop_zero]

      have c1 := (hB.grow hg).cell 1
      go_wp2_with fail
      all_goals
        go_at_call 45
        refine (rCut_at w1 d l k (k + m) _ (by push_cast; omega) (by omega) V (hW w1 hg) (fun b hb => Nat.lt_of_lt_of_le (hV b hb) hg.size)).mono ?_
        rintro e w3 ⟨rfl, hD3, hj3⟩
        go_wp2_with fail
        go_ret
        refine ⟨ret_int (by omega), hD3.wide (fun b hb => ?_), (Just.of_grow hg).trans hj3⟩
        rcases hb with hb | hb
        · exact .inl hb
        · exact .inr ⟨Nat.le_trans hg.size hb.1, hb.2⟩
    · obtain rfl : W = (m : Int) := by omega
      clear hm
      go_enter Try.func35, Try.ntmps35
      go_wp2_with fail
      refine wp_region_flow 11 32 [] rfl rfl (by kernel_rfl) (by kernel_rfl) (by kernel_rfl) ?_ ?_
      · intro x hx φ he
        cases hx
      intro ops' A' K' T hops hA' hK hT
      refine fl_mv 7 (by rfl) (by decide) (wanted_none (by rfl)) (by rw [hK.out]; rfl) (by rfl) _ (Or.inl (by rfl)) (.pointer (some ⟨d, 0, none⟩)) (by rfl) ?_
      refine fl_op1 8 (by rfl) (by decide) (wanted_none (by rfl)) (by rw [hK.out]; rfl) (by rfl) (.tmp 7) (.pointer (some ⟨d, 0, none⟩)) (by rfl) (.pointer (some ⟨d, 0, none⟩)) (fun ρ h1 kk w1 (hg : Grow _ w1) hb hf => by go_simp) ?_
      refine fl_op1 9 (by rfl) (by decide) (wanted_none (by rfl)) (by rw [hK.out]; rfl) (by rfl) (.tmp 8) (.pointer (some ⟨d, 0, none⟩)) (by rfl) (.pointer (some ⟨d, 0, none⟩)) (fun ρ h1 kk w1 (hg : Grow _ w1) hb hf => by go_simp) ?_
      refine fl_op1 10 (by rfl) (by decide) (wanted_none (by rfl)) (by rw [hK.out]; rfl) (by rfl) (.tmp 9) (.pointer (some ⟨d, 0, none⟩)) (by rfl) (.slice A1 l.length c1) (fun ρ h1 kk w1 (hg : Grow _ w1) hb hf => by have c := (hB.grow hg).cell 0; go_simp) ?_
      refine fl_op1 11 (by rfl) (by decide) (wanted_none (by rfl)) (by rw [hK.out]; rfl) (by rfl) (.tmp 10) (.slice A1 l.length c1) (by rfl) (.int .i64 (l.length : Int)) (fun ρ h1 kk w1 (hg : Grow _ w1) hb hf => by go_simp) ?_
      refine fl_mv 12 (by rfl) (by decide) (wanted_none (by rfl)) (by rw [hK.out]; rfl) (by rfl) _ (Or.inl (by rfl)) (.pointer (some ⟨d, 0, none⟩)) (by rfl) ?_
      refine fl_op1 13 (by rfl) (by decide) (wanted_none (by rfl)) (by rw [hK.out]; rfl) (by rfl) (.tmp 12) (.pointer (some ⟨d, 0, none⟩)) (by rfl) (.pointer (some ⟨d, 0, none⟩)) (fun ρ h1 kk w1 (hg : Grow _ w1) hb hf => by go_simp) ?_
      refine fl_op1 14 (by rfl) (by decide) (wanted_none (by rfl)) (by rw [hK.out]; rfl) (by rfl) (.tmp 13) (.pointer (some ⟨d, 0, none⟩)) (by rfl) (.pointer (some ⟨d, 1, none⟩)) (fun ρ h1 kk w1 (hg : Grow _ w1) hb hf => by go_simp) ?_
      refine fl_op1 15 (by rfl) (by decide) (wanted_none (by rfl)) (by rw [hK.out]; rfl) (by rfl) (.tmp 14) (.pointer (some ⟨d, 1, none⟩)) (by rfl) (.int .i64 (k : Int)) (fun ρ h1 kk w1 (hg : Grow _ w1) hb hf => by have c := (hB.grow hg).cell 1; go_simp) ?_
      refine fl_op2 16 (by rfl) (by decide) (wanted_none (by rfl)) (by rw [hK.out]; rfl) (by rfl) (.tmp 11) (.tmp 15) (.int .i64 (l.length : Int)) (.int .i64 (k : Int)) (by rfl) (by rfl) (.int .i64 (m : Int)) (fun ρ h1 h2 kk w1 (hg : Grow _ w1) hb hf => by go_simp) ?_
      refine fl_mv 5 (by rfl) (by decide) (wanted_none (by rfl)) (by rw [hK.out]; rfl) (by rfl) _ (Or.inr (by rfl)) (.int .i64 (m : Int)) (by rfl) ?_
      refine fl_end (fun _ _ w1 (hg : Grow _ w1) _ hfacts => hT _ _ ?_)
      clear hops hA' hK hT
      simp only [putsL, Act.put, List.setIfInBounds_toArray, List.set_cons_zero, List.set_cons_succ, List.drop_succ_cons, List.drop_zero]

      have c1 := (hB.grow hg).cell 1
      go_wp2_with fail
      all_goals
        go_at_call 45
        refine (rCut_at w1 d l k (k + m) _ (by push_cast; omega) (by omega) V (hW w1 hg) (fun b hb => Nat.lt_of_lt_of_le (hV b hb) hg.size)).mono ?_
        rintro e w3 ⟨rfl, hD3, hj3⟩
        go_wp2_with fail
        go_ret
        refine ⟨ret_int (by omega), hD3.wide (fun b hb => ?_), (Just.of_grow hg).trans hj3⟩
        rcases hb with hb | hb
        · exact .inl hb
        · exact .inr ⟨Nat.le_trans hg.size hb.1, hb.2⟩
end Go.Proofs.Ytdpcokekilklfaa
