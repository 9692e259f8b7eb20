/- LedgerTops: its walk. -/
import Derived.Test.YtidkhokecekpgaaDoorLabw
namespace Go.Proofs.YtidkhokecekpgaaDoor
open Go.RowKit Go.Hop
theorem tape_made (w : World) (A0 : Option Addr) (n0 c0 : Nat) (l0 : List Int) (h : In w (fun b => b < w.heap.size) 1 A0 n0 (l0.map (Value.int .i64))) (hx0 : ∀ z ∈ l0, -9223372036854775808 ≤ z ∧ z ≤ 9223372036854775807) (hn0 : n0 ≤ 9223372036854775807) : TapeAt w.heap.size (fun b => b < w.heap.size) (w.alloc (.cells #[.slice A0 n0 c0, .int .i64 0] 25)) :=
  ⟨Nat.lt_irrefl _, A0, n0, c0, l0, 0, Blk.made w _ _, h.grow ((Below.refl _ _).alloc (Nat.le_refl _) _), Nat.zero_le _, hn0, hx0⟩
theorem lin_take {w : World} {V : Nat → Prop} {A : Option Addr} {n k : Nat} {l : List Lb} (h : In w V 2 A n (lcells l)) (hk : k ≤ n) : In w V 2 A k (lcells (l.take k)) := by
  have := h.take (k := k) hk
  rwa [show (lcells l).take (k * 2) = lcells (l.take k) from by unfold lcells; rw [flat_take lcell 2 lcell_len]] at this
theorem din_take {w : World} {V : Nat → Prop} {A : Option Addr} {n k : Nat} {l : List Dl} (h : In w V 2 A n (dcells l)) (hk : k ≤ n) : In w V 2 A k (dcells (l.take k)) := by
  have := h.take (k := k) hk
  rwa [show (dcells l).take (k * 2) = dcells (l.take k) from by unfold dcells; rw [flat_take dcell 2 dcell_len]] at this
set_option maxRecDepth 100000 in
set_option maxHeartbeats 2000000 in
theorem tops_any (w : World) (A0 : Option Addr) (n0 c0 : Nat) (l0 : List Int) (x1 x2 : Int) (hl0 : Reads w w.heap.size 1 A0 n0 (l0.map (Value.int .i64))) (hx0 : ∀ z ∈ l0, -9223372036854775808 ≤ z ∧ z ≤ 9223372036854775807) (hn0 : n0 ≤ 9223372036854775807) (hx1 : -9223372036854775808 ≤ x1 ∧ x1 ≤ 9223372036854775807) (hx2 : -9223372036854775808 ≤ x2 ∧ x2 ≤ 9223372036854775807) :
    Calls Tryd.prog 4 #[.slice A0 n0 c0, .int .i64 x1, .int .i64 x2] w fun e w' => e = .returned (.bool true) ∧ Grow w w' := by
  have k14 : ∀ (vs : Array Value) (w : World), (callFunc 14 vs).run Tryd.prog w = .ok (.enter 14 vs) w := fun vs w => by go_simp
  have hI0 : In w (fun b => b < w.heap.size) 1 A0 n0 (l0.map (Value.int .i64)) := Reads.in_ hl0 (Nat.le_refl _) fun _ h => h
  have hT0 := tape_made w A0 n0 c0 l0 hI0 hx0 hn0
  have hg0 : Grow w (w.alloc (.cells #[.slice A0 n0 c0, .int .i64 0] 25)) := (Below.refl _ _).alloc (Nat.le_refl _) _
  have hs0 := hg0.size
  go_enter Tryd.func4, Tryd.ntmps4
  go_wp2_with fail
  refine (deltas_any _ _ _ hT0 fun b hb => by omega).mono ?_
  rintro e w2 ⟨v, l, rfl, hO, hfew, hK, hT2, hj2⟩
  obtain ⟨A, c, rfl, hI, hnc, hcm⟩ := hO.in_
  have hg2 : Grow w w2 := Below.trans hg0 (hj2.below (B := w.heap.size) (fun b hb => by omega) hs0)
  have hs2 := hg2.size
  have hs02 := hj2.size
  clear hT0 hI0 hl0
  obtain ⟨n, HN⟩ : ∃ n : Nat, Hid (n = l.length) := ⟨_, Lib.hid rfl⟩
  rw [← HN.out] at hI hO hnc hfew
  rw [show l.length = n from HN.out.symm]
  have hW := fun z hz => within_nat w2 z 0 10 hz (by omega) (by omega) (by omega)
  go_wp2_with fail
  refine (hW x1 hx1).mono ?_
  rintro e w' ⟨a, _, ha, rfl, rfl⟩
  go_wp2_with fail
  refine (hW x2 hx2).mono ?_
  rintro e w' ⟨b, _, hb, rfl, rfl⟩
  clear hW
  have ha10 : a ≤ 10 := by omega
  have hb10 : b ≤ 10 := by omega
  have hab : IntKind.i64.wrap ((a : Int) + (b : Int)) = ((a + b : Nat) : Int) := by rw [IntKind.wrap_i64]; omega
  have hTa := Top_any w2 _ A n c l hI (by omega) (a : Int) (by omega)
  have hTb := fun w3 (hg : Grow w2 w3) => Top_any w3 _ A n c l (hI.grow hg) (by omega) ((a + b : Nat) : Int) (by omega)
  have hle : topN a n ≤ topN ((a + b : Nat) : Int) n := by unfold topN; omega
  generalize topN a n = m1 at hTa hle
  generalize topN ((a + b : Nat) : Int) n = m2 at hTb hle
  go_wp2_with fail
  refine hTa.mono ?_
  rintro e w3 ⟨A3, r, rfl, hr, hI3, hg3⟩
  clear hTa
  go_wp2_with fail
  refine (hTb w3 hg3).mono ?_
  rintro e w4 ⟨A4, r', rfl, hr', hI4, hg4⟩
  clear hTb
  have er := hr'.one hr (List.Perm.refl _)
  subst er
  have hI4' := din_take hI4 hle
  rw [List.take_take, Nat.min_eq_left hle] at hI4'
  have hm1 : m1 ≤ 1000000 := by
    have h1 := hI3.1
    have h2 := hr.perm.length_eq
    rw [dcells_len, List.length_take] at h1
    have := HN.out
    omega
  have hgt : decide (m2 < m1) = false := decide_eq_false (by omega)
  have hgt' : decide ((m2 : Int) < (m1 : Int)) = false := decide_eq_false (by omega)
  have hml : ¬ m2 < m1 := by omega
  have hSd := SameDeltas_any w4 A4 A3 m1 m2 m1 _ _ _ hI4' (hI3.grow hg4) (by omega)
  have hgw4 : Grow w2 w4 := hg3.trans hg4
  clear hI3 hI4 hI4' hr hr' hg3 hg4
  go_wp2_with fail
  refine hSd.mono ?_
  rintro e w5 ⟨rfl, hg5⟩
  clear hSd
  have hg25 := hgw4.trans hg5
  have hT5 := hT2.grow hg25
  have hsz5 := hg25.size
  have hLb := Labels_any w5 _ _ hT5 (fun b hb => by omega)
  have hgw5 : Grow w w5 := below_trans hg2 hg25 hs2
  have hIl := hI.grow hg25
  clear hgw4 hg5 hT2 hT5 hO hI
  go_wp2_with fail
  refine hLb.mono ?_
  rintro e w6 ⟨vb, by', rfl, hOb, hMb, hT6, hj6⟩
  clear hLb
  obtain ⟨B, d, rfl, hIb, _, _⟩ := hOb.in_
  obtain ⟨m, HM⟩ : ∃ m : Nat, Hid (m = by'.length) := ⟨_, Lib.hid rfl⟩
  rw [← HM.out] at hIb hOb
  rw [show by'.length = m from HM.out.symm]
  have hbfew : m ≤ 5 := by rw [HM.out]; exact hMb.few
  have hgw6 : Grow w w6 := Below.trans hgw5 (hj6.below (B := w.heap.size) (fun b hb => by omega) (by omega))
  have hIl6 : In w6 (fun b => b ≠ w.heap.size) 2 A n (dcells l) := (hIl.mono (V' := fun b => b ≠ w.heap.size) fun b hb => by have := hb.1; simp at this; omega).just hj6 fun b hb e => hb e
  have hdm : m ≤ d := by
    obtain ⟨_, _, e1, _, h1, _⟩ := hOb.in_
    injection e1 with e1 e2 e3
    omega
  have hsz6 := hgw6.size
  clear hIl hOb hT6 hj6 hgw5 hg25 hMb
  go_wp2_with fail
  go_loopw [52] (fun i wr => ∃ i' : Nat, i' ≤ n ∧ i = .int .i64 (i' : Int) ∧ Grow w6 wr) (fun i _ => n - (intOf i).toNat)
  case atStart => exact ⟨0, by omega, rfl, Grow.refl _⟩
  case round =>
    obtain ⟨i, hin, rfl, hgr⟩ := hrel
    obtain ⟨wo, rfl⟩ : ∃ wo : World, wo = wr := ⟨_, rfl⟩
    by_cases hi : i < n
    · have hd1 : decide ((i : Int) < (n : Int)) = true := decide_eq_true (by omega)
      obtain ⟨ad, hq, rfl, f0, f1⟩ := del_at (hIl6.grow hgr) hi
      have e0 := f0 wo (Grow.refl _)
      have e1 := f1 wo (Grow.refl _)
      have hi' : ¬ n ≤ i := by omega
      have hKi := hK _ (List.getElem_mem hq)
      generalize l[i] = x at e0 e1 hKi
      obtain ⟨s, xn⟩ := x
      clear f0 f1
      have hsn := hKi.1
      have hss : s.size ≤ 1000000 := Nat.le_trans (nameL_small hsn) (by omega)
      clear hKi
      obtain ⟨p, HP⟩ : ∃ p : Nat, Hid (p = wo.heap.size) := ⟨_, rfl⟩
      obtain ⟨wp, HWP⟩ : ∃ wp : World, Hid (wp = wo.alloc (.cells #[.string s, .int .u64 (xn : Int)] 30)) := ⟨_, rfl⟩
      have hgp : Grow wo wp := by rw [HWP.out]; exact (Below.refl _ _).alloc (Nat.le_refl _) _
      have hBpp : Blk wp p 30 #[.string s, .int .u64 (xn : Int)] := by rw [HWP.out, HP.out]; exact Blk.made wo _ _
      have hg6p := hgr.trans hgp
      go_wp2_with fail
      rw [← HP.out, ← HWP.out]
      clear e0 e1
      go_loopw [58] (fun i wr => ∃ k : Nat, k ≤ m ∧ i = .int .i64 (k : Int) ∧ Grow wp wr) (fun i _ => m - (intOf i).toNat)
      case atStart => exact ⟨0, by omega, rfl, Grow.refl _⟩
      case round =>
        obtain ⟨k, hkm, rfl, hgz⟩ := hrel
        have hBp := hBpp.grow hgz
        by_cases hk : k < m
        · have hd2 : decide ((k : Int) < (m : Int)) = true := decide_eq_true (by omega)
          have hIbz := hIb.grow (hg6p.trans hgz)
          obtain ⟨k1, HK1⟩ : ∃ k1 : Nat, Hid (k1 = k + 1) := ⟨_, Lib.hid rfl⟩
          have hk1m : k1 ≤ m := by have := HK1.out; omega
          have hM1 := fun w1 (hg : Grow wr w1) => Match_any w1 s hss _ B k1 d (by'.take k1) (lin_take (hIbz.grow hg) hk1m) (by omega)
          have hM2 := fun w1 (hg : Grow wr w1) => Match_any w1 s hss _ B k d (by'.take k) (lin_take (hIbz.grow hg) (by omega)) (by omega)
          have hless : matchB s (by'.take k1) = true → matchB s (by'.take k) = true := fun h => match_less (by rw [← HK1.out]; exact h)
          have hwk : IntKind.i64.wrap ((k : Int) + 1) = (k1 : Int) := by rw [HK1.out, IntKind.wrap_i64]; omega
          have hdk : ¬ d < k1 := by omega
          have hdk2 : ¬ d < k := by omega
          generalize matchB s (by'.take k1) = b1 at hM1 hless
          generalize matchB s (by'.take k) = b2 at hM2 hless
          cases b1 with
          | true =>
            obtain rfl := hless rfl
            clear hless
            go_wp2_with fail
            refine wp_region_flow 16 84 [(6, .inl (.bool true)), (13, .inl (.bool true))] rfl rfl (by kernel_rfl) (by kernel_rfl) (by kernel_rfl) ?_ ?_
            · intro x hx φ he
              simp only [List.mem_cons, List.not_mem_nil, or_false] at hx
              rcases hx with rfl | rfl <;> cases he
            intro ops' A' K' T hops hA' hK hT
            refine fl_op1 61 (by rfl) (by decide) (wanted_none (by rfl)) (by rw [hK.out]; rfl) (by rfl) (.tmp 15) (.pointer (some ⟨p, 0, none⟩)) (by rfl) (.pointer (some ⟨p, 0, none⟩)) (fun ρ h1 kk w1 (hg : Grow _ w1) hb hf => by go_simp) ?_
            refine fl_op1 62 (by rfl) (by decide) (wanted_none (by rfl)) (by rw [hK.out]; rfl) (by rfl) (.tmp 61) (.pointer (some ⟨p, 0, none⟩)) (by rfl) (.string s) (fun ρ h1 kk w1 (hg : Grow _ w1) hb hf => by have c0 := (hBp.grow hg).cell 0; go_simp) ?_
            refine fl_mv 63 (by rfl) (by decide) (wanted_none (by rfl)) (by rw [hK.out]; rfl) (by rfl) _ (Or.inl (by rfl)) (.slice B m d) (by rfl) ?_
            refine fl_mv 64 (by rfl) (by decide) (wanted_none (by rfl)) (by rw [hK.out]; rfl) (by rfl) _ (Or.inl (by rfl)) (.int .i64 (k : Int)) (by rfl) ?_
            refine fl_op2 65 (by rfl) (by decide) (wanted_none (by rfl)) (by rw [hK.out]; rfl) (by rfl) (.tmp 64) (.const (.int .i64 1)) (.int .i64 (k : Int)) (.int .i64 1) (by rfl) (by rfl) (.int .i64 (k1 : Int)) (fun ρ h1 h2 kk w1 (hg : Grow _ w1) hb hf => by go_simp) ?_
            refine fl_op2 66 (by rfl) (by decide) (wanted_none (by rfl)) (by rw [hK.out]; rfl) (by rfl) (.tmp 63) (.tmp 65) (.slice B m d) (.int .i64 (k1 : Int)) (by rfl) (by rfl) (.slice B k1 d) (fun ρ h1 h2 kk w1 (hg : Grow _ w1) hb hf => by go_simp) ?_
            refine fl_call 67 (by rfl) (by decide) (wanted_none (by rfl)) (.bool true) (by rw [hK.out]; rfl) 14 _ _ (by rfl) [.string s, .slice B k1 d] (by rfl) k14 (fun kk w1 (hg : Grow _ w1) hb hf => calls_behind (by rfl) (by exact hM1 w1 hg)) ?_
            refine fl_mv 68 (by rfl) (by decide) (wanted_none (by rfl)) (by rw [hK.out]; rfl) (by rfl) _ (Or.inl (by rfl)) (.bool true) (by rfl) ?_
            refine fl_op1 69 (by rfl) (by decide) (wanted_if hops 7 true (by rfl) 68 (by rfl) true (by rfl)) (by rw [hK.out]; rfl) (by rfl) (.tmp 15) (.pointer (some ⟨p, 0, none⟩)) (by rfl) (.pointer (some ⟨p, 0, none⟩)) (fun ρ h1 kk w1 (hg : Grow _ w1) hb hf => by go_simp) ?_
            refine fl_op1 70 (by rfl) (by decide) (wanted_if hops 7 true (by rfl) 68 (by rfl) true (by rfl)) (by rw [hK.out]; rfl) (by rfl) (.tmp 69) (.pointer (some ⟨p, 0, none⟩)) (by rfl) (.string s) (fun ρ h1 kk w1 (hg : Grow _ w1) hb hf => by have c0 := (hBp.grow hg).cell 0; go_simp) ?_
            refine fl_mv 71 (by rfl) (by decide) (wanted_if hops 7 true (by rfl) 68 (by rfl) true (by rfl)) (by rw [hK.out]; rfl) (by rfl) _ (Or.inl (by rfl)) (.slice B m d) (by rfl) ?_
            refine fl_mv 72 (by rfl) (by decide) (wanted_if hops 7 true (by rfl) 68 (by rfl) true (by rfl)) (by rw [hK.out]; rfl) (by rfl) _ (Or.inl (by rfl)) (.int .i64 (k : Int)) (by rfl) ?_
            refine fl_op2 73 (by rfl) (by decide) (wanted_if hops 7 true (by rfl) 68 (by rfl) true (by rfl)) (by rw [hK.out]; rfl) (by rfl) (.tmp 71) (.tmp 72) (.slice B m d) (.int .i64 (k : Int)) (by rfl) (by rfl) (.slice B k d) (fun ρ h1 h2 kk w1 (hg : Grow _ w1) hb hf => by go_simp) ?_
            refine fl_call 74 (by rfl) (by decide) (wanted_if hops 7 true (by rfl) 68 (by rfl) true (by rfl)) (.bool true) (by rw [hK.out]; rfl) 14 _ _ (by rfl) [.string s, .slice B k d] (by rfl) k14 (fun kk w1 (hg : Grow _ w1) hb hf => calls_behind (by rfl) (by exact hM2 w1 hg)) ?_
            refine fl_op1 75 (by rfl) (by decide) (wanted_if hops 7 true (by rfl) 68 (by rfl) true (by rfl)) (by rw [hK.out]; rfl) (by rfl) (.tmp 74) (.bool true) (by rfl) (.bool false) (fun ρ h1 kk w1 (hg : Grow _ w1) hb hf => by go_simp) ?_
            refine fl_pick 76 (by rfl) (by decide) (wanted_none (by rfl)) (by rw [hK.out]; rfl) (by rfl) _ _ _ (by rfl) true (by rfl) (.bool false) (by rfl) ?_
            refine fl_end (fun _ _ w1 (hg : Grow _ w1) _ hfacts => hT _ _ ?_)
            clear hops hA' hK hT
            simp only [putsL, Act.put, List.setIfInBounds_toArray, List.set_cons_zero, List.set_cons_succ, List.drop_succ_cons, List.drop_zero]
            clear hfacts
            go_wp2_with fail
            go_roundw
            case rel => exact ⟨k1, hk1m, rfl, hgz.trans hg⟩
            case measure => simp [intOf]; have := HK1.out; omega
          | false =>
            clear hless hM2
            go_wp2_with fail
            refine wp_region_flow 16 84 [(6, .inl (.bool false))] rfl rfl (by kernel_rfl) (by kernel_rfl) (by kernel_rfl) ?_ ?_
            · intro x hx φ he
              simp only [List.mem_cons, List.not_mem_nil, or_false] at hx
              rcases hx with rfl <;> cases he
            intro ops' A' K' T hops hA' hK hT
            refine fl_op1 61 (by rfl) (by decide) (wanted_none (by rfl)) (by rw [hK.out]; rfl) (by rfl) (.tmp 15) (.pointer (some ⟨p, 0, none⟩)) (by rfl) (.pointer (some ⟨p, 0, none⟩)) (fun ρ h1 kk w1 (hg : Grow _ w1) hb hf => by go_simp) ?_
            refine fl_op1 62 (by rfl) (by decide) (wanted_none (by rfl)) (by rw [hK.out]; rfl) (by rfl) (.tmp 61) (.pointer (some ⟨p, 0, none⟩)) (by rfl) (.string s) (fun ρ h1 kk w1 (hg : Grow _ w1) hb hf => by have c0 := (hBp.grow hg).cell 0; go_simp) ?_
            refine fl_mv 63 (by rfl) (by decide) (wanted_none (by rfl)) (by rw [hK.out]; rfl) (by rfl) _ (Or.inl (by rfl)) (.slice B m d) (by rfl) ?_
            refine fl_mv 64 (by rfl) (by decide) (wanted_none (by rfl)) (by rw [hK.out]; rfl) (by rfl) _ (Or.inl (by rfl)) (.int .i64 (k : Int)) (by rfl) ?_
            refine fl_op2 65 (by rfl) (by decide) (wanted_none (by rfl)) (by rw [hK.out]; rfl) (by rfl) (.tmp 64) (.const (.int .i64 1)) (.int .i64 (k : Int)) (.int .i64 1) (by rfl) (by rfl) (.int .i64 (k1 : Int)) (fun ρ h1 h2 kk w1 (hg : Grow _ w1) hb hf => by go_simp) ?_
            refine fl_op2 66 (by rfl) (by decide) (wanted_none (by rfl)) (by rw [hK.out]; rfl) (by rfl) (.tmp 63) (.tmp 65) (.slice B m d) (.int .i64 (k1 : Int)) (by rfl) (by rfl) (.slice B k1 d) (fun ρ h1 h2 kk w1 (hg : Grow _ w1) hb hf => by go_simp) ?_
            refine fl_call 67 (by rfl) (by decide) (wanted_none (by rfl)) (.bool false) (by rw [hK.out]; rfl) 14 _ _ (by rfl) [.string s, .slice B k1 d] (by rfl) k14 (fun kk w1 (hg : Grow _ w1) hb hf => calls_behind (by rfl) (by exact hM1 w1 hg)) ?_
            refine fl_mv 68 (by rfl) (by decide) (wanted_none (by rfl)) (by rw [hK.out]; rfl) (by rfl) _ (Or.inl (by rfl)) (.bool false) (by rfl) ?_
            refine fl_skip 69 (by rfl) (by decide) (wanted_if hops 7 true (by rfl) 68 (by rfl) false (by rfl)) (by rfl) ?_
            refine fl_skip 70 (by rfl) (by decide) (wanted_if hops 7 true (by rfl) 68 (by rfl) false (by rfl)) (by rfl) ?_
            refine fl_skip 71 (by rfl) (by decide) (wanted_if hops 7 true (by rfl) 68 (by rfl) false (by rfl)) (by rfl) ?_
            refine fl_skip 72 (by rfl) (by decide) (wanted_if hops 7 true (by rfl) 68 (by rfl) false (by rfl)) (by rfl) ?_
            refine fl_skip 73 (by rfl) (by decide) (wanted_if hops 7 true (by rfl) 68 (by rfl) false (by rfl)) (by rfl) ?_
            refine fl_skip 74 (by rfl) (by decide) (wanted_if hops 7 true (by rfl) 68 (by rfl) false (by rfl)) (by rfl) ?_
            refine fl_skip 75 (by rfl) (by decide) (wanted_if hops 7 true (by rfl) 68 (by rfl) false (by rfl)) (by rfl) ?_
            refine fl_pick 76 (by rfl) (by decide) (wanted_none (by rfl)) (by rw [hK.out]; rfl) (by rfl) _ _ _ (by rfl) false (by rfl) (.bool false) (by rfl) ?_
            refine fl_end (fun _ _ w1 (hg : Grow _ w1) _ hfacts => hT _ _ ?_)
            clear hops hA' hK hT
            simp only [putsL, Act.put, List.setIfInBounds_toArray, List.set_cons_zero, List.set_cons_succ, List.drop_succ_cons, List.drop_zero]
            clear hfacts
            go_wp2_with fail
            go_roundw
            case rel => exact ⟨k1, hk1m, rfl, hgz.trans hg⟩
            case measure => simp [intOf]; have := HK1.out; omega
        · obtain rfl : k = m := by omega
          have hd2 : decide ((k : Int) < (k : Int)) = false := decide_eq_false (by omega)
          have hMn := Match_any wr s hss (fun _ => False) none 0 0 [] In.nil (by omega)
          rw [match_nil hsn] at hMn
          have c0 := hBp.cell 0
          go_wp2_with fail
          refine hMn.mono ?_
          rintro e w9 ⟨rfl, hg9⟩
          clear hMn
          go_wp2_with fail
          go_roundw
          case rel => exact ⟨i + 1, by omega, by go_num, (hg6p.trans hgz).trans hg9⟩
          case measure => simp [intOf]; omega
    · obtain rfl : i = n := by omega
      have hd1 : decide ((i : Int) < (i : Int)) = false := decide_eq_false (by omega)
      go_wp2_with fail
      refine (known_any wo).mono ?_
      rintro e w9 ⟨rfl, hg9⟩
      go_wp2_with fail
      go_ret
      exact ⟨rfl, below_trans (below_trans hgw6 hgr hsz6) hg9 (below_trans hgw6 hgr hsz6).size⟩
end Go.Proofs.YtidkhokecekpgaaDoor
