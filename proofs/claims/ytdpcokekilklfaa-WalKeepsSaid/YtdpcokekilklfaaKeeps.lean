/- WalKeeps: its walk. -/
import Derived.Test.YtdpcokekilklfaaWsteps
import Derived.Test.YtdpcokekilklfaaWithin
namespace Go.Proofs.Ytdpcokekilklfaa
open Go.RowKit Go.Hop
set_option maxRecDepth 100000 in
set_option maxHeartbeats 4000000 in
theorem keeps_any (w : World) (A0 : Option Addr) (n0 c0 : Nat) (q : List Bx) (hq : Bxs w (fun b => b < w.heap.size) (fun b => b < w.heap.size) A0 n0 q) (hnc0 : n0 ≤ c0) (hm0 : c0 ≤ maxLen)
    (sync : Int) (hsync : -9223372036854775808 ≤ sync ∧ sync ≤ 9223372036854775807) (keep : Int) (hkeep : -9223372036854775808 ≤ keep ∧ keep ≤ 9223372036854775807) :
    Calls Try.prog 3 #[.slice A0 n0 c0, .int .i64 sync, .int .i64 keep] w fun e w' => e = .returned (.bool true) ∧ Grow w w' := by
  obtain ⟨P, HP⟩ : ∃ P : Nat → Prop, Hid (P = fun b => w.heap.size ≤ b) := ⟨_, rfl⟩
  obtain ⟨N, hN0, hN1, hN2⟩ : ∃ N : Nat, N ≤ n0 ∧ N ≤ 20 ∧ (N = n0 ∨ N = 20) := ⟨min n0 20, by omega, by omega, by omega⟩
  have hmn : ∀ (ts : Array TypeId) (t : TypeId) (w : World), (Builtin.min_ ts t #[.int .i64 (n0 : Int), .int .i64 20]).run Try.prog w = .ok (.int .i64 (N : Int)) w := fun ts t w => by
    rw [run_min_int2]
    congr 2
    split <;> omega
  have hql := hq.len
  obtain ⟨xs, HX⟩ : ∃ xs, Hid (xs = trims 100 q N) := ⟨_, rfl⟩
  have hxn : xs.length = N := by rw [HX.out]; exact trims_len (by omega)
  have hxl : ∀ x ∈ xs, x.length ≤ 100 := by rw [HX.out]; exact trims_le
  have hrs : ∀ j, j ≤ 1000 → (rows xs j).length ≤ 133000 := fun j hj => rows_small (by omega) hxl hj
  go_enter Try.func3, Try.ntmps3
  go_wp2_with fail
  refine (New_any w).mono ?_
  rintro e w1 ⟨rfl, hD1, hg1⟩
  obtain ⟨d, hd⟩ : ∃ d : Nat, Hid (d = w.heap.size) := ⟨_, rfl⟩
  rw [← hd.out] at hD1 ⊢
  have hs1 : Solo P (DiskAt 44 d [] 0) w1 := Solo.make hD1 (fun b hb => by rw [HP.out]; exact Nat.le_trans hg1.size hb) (fun b hb => ⟨by rw [HP.out]; exact hb.1, hb.2⟩)
  have hb1 : Below w.heap.size w w1 := hg1
  clear hD1
  go_wp2_with fail
  refine (open_solo (fun _ _ h => h) hs1).mono ?_
  rintro e w2 ⟨ys, j, x, u, hS, rfl, hX, hj2, hs2⟩
  obtain ⟨rfl, rfl⟩ := hS.one scan_nil
  obtain ⟨A2, c2, q2, rfl, _, hm2, _, _⟩ := hX
  obtain rfl : q2 = [] := List.map_eq_nil_iff.1 hm2
  have hb2 := Below.trans hb1 (hj2.below (B := w.heap.size) (fun b hb => by rw [HP.out] at hb; exact hb) hb1.size)
  have hnn : (([] : List (List UInt8)).length : Int) = 0 := rfl
  have htk : List.take 0 ([] : List UInt8) = [] := rfl
  rw [hnn, htk] at hs2
  clear hS hm2 hs1 hj2 hg1
  go_wp2_with fail
  refine (within_nat w2 sync 0 (N : Int) hsync (by omega) (by omega) (by omega)).mono ?_
  rintro e w3 ⟨kk, _, hkN, rfl, rfl⟩
  go_wp2_with fail
  go_loopw [12, 13] (fun i _ wr => ∃ j : Nat, j ≤ N ∧ i = .int .i64 (j : Int) ∧ Solo P (LogAt x d (j : Int) (rows xs j) (if j ≤ kk then 0 else (rows xs kk).length)) wr ∧ Below w.heap.size w wr) (fun i _ _ => N - (intOf i).toNat)
  case atStart => exact ⟨0, by omega, rfl, by rw [if_pos (Nat.zero_le _)]; exact hs2, hb2⟩
  case round =>
    clear hs2 hb2
    obtain ⟨j, hjN, rfl, hs4, hb4⟩ := hrel
    have hrj := hrs j (by omega)
    by_cases hj : j < N
    · have hj' : decide ((j : Int) < (N : Int)) = true := decide_eq_true (by omega)
      by_cases hjk : j = kk
      · have hjk' : ((j : Int) == (kk : Int)) = true := beq_iff_eq.2 (by omega)
        have HJK := Lib.hid hjk
        clear hjk
        have hcs := hs4.call (lSync_any wr x d _ _ _)
        go_wp2_with fail
        refine hcs.mono ?_
        rintro e wq ⟨rfl, hjq, hsq⟩
        clear hcs hs4
        have hs4 := hsq
        have hb4 := Below.trans hb4 (hjq.below (B := w.heap.size) (fun b hb => by rw [HP.out] at hb; exact hb) hb4.size)
        have KK : (rows xs j).length = (if j + 1 ≤ kk then 0 else (rows xs kk).length) := by rw [if_neg (by have := HJK.out; omega), HJK.out]
        clear hsq hjq
        obtain ⟨ad, hqj, rfl, hc0⟩ := rec1 (hq.grow hb4).row (k := j) (by omega)
        have hxj := trims_at (M := 100) (N := N) hj hqj
        rw [← HX.out] at hxj
        have hb0 := ((hq.all _ (List.getElem_mem hqj)).grow hb4).bytes
        have hbc := (hq.all _ (List.getElem_mem hqj)).le
        generalize q[j] = b at hc0 hxj hb0 hbc
        have hbl : (b.bs.take 100).length ≤ 100 := by rw [List.length_take]; omega
        have hc0 := hc0 _ (Grow.refl _)
        by_cases hm : b.m ≤ 100
        · have hbt := hb0
          rw [← trim_le hb0 hm] at hbt
          go_wp2_with fail
          refine (append_solo (c := b.c) hs4 hbt (M := 100) (by omega) hbl (by omega) (by omega)).mono ?_
          rintro e w5 ⟨rfl, hj5, hs5⟩
          have hb5 := Below.trans hb4 (hj5.below (B := w.heap.size) (fun b hb => by rw [HP.out] at hb; exact hb) hb4.size)
          rw [← rows_next hxj] at hs5
          clear hs4 hbt hc0
          go_wp2_with fail
          go_roundw
          case rel => exact ⟨j + 1, by omega, by go_num, by first | exact hs5 | (rw [KK] at hs5; exact hs5), hb5⟩
          case measure => simp [intOf]; omega
        · have hbt := trim_gt hb0 (M := 100) (by omega)
          have hm' : 100 < b.m := by omega
          have hcc : ¬ b.c < 100 := by omega
          go_wp2_with fail
          refine (append_solo (c := b.c) hs4 hbt (M := 100) (by omega) hbl (by omega) (by omega)).mono ?_
          rintro e w5 ⟨rfl, hj5, hs5⟩
          have hb5 := Below.trans hb4 (hj5.below (B := w.heap.size) (fun b hb => by rw [HP.out] at hb; exact hb) hb4.size)
          rw [← rows_next hxj] at hs5
          clear hs4 hbt hc0
          go_wp2_with fail
          go_roundw
          case rel => exact ⟨j + 1, by omega, by go_num, by first | exact hs5 | (rw [KK] at hs5; exact hs5), hb5⟩
          case measure => simp [intOf]; omega
      · have hjk' : ((j : Int) == (kk : Int)) = false := beq_eq_false_iff_ne.2 (by omega)
        have KK : (if j ≤ kk then 0 else (rows xs kk).length) = (if j + 1 ≤ kk then 0 else (rows xs kk).length) := by
          by_cases h : j ≤ kk
          · rw [if_pos h, if_pos (by omega)]
          · rw [if_neg h, if_neg (by omega)]
        rw [KK] at hs4
        obtain ⟨ad, hqj, rfl, hc0⟩ := rec1 (hq.grow hb4).row (k := j) (by omega)
        have hxj := trims_at (M := 100) (N := N) hj hqj
        rw [← HX.out] at hxj
        have hb0 := ((hq.all _ (List.getElem_mem hqj)).grow hb4).bytes
        have hbc := (hq.all _ (List.getElem_mem hqj)).le
        generalize q[j] = b at hc0 hxj hb0 hbc
        have hbl : (b.bs.take 100).length ≤ 100 := by rw [List.length_take]; omega
        have hc0 := hc0 _ (Grow.refl _)
        by_cases hm : b.m ≤ 100
        · have hbt := hb0
          rw [← trim_le hb0 hm] at hbt
          go_wp2_with fail
          refine (append_solo (c := b.c) hs4 hbt (M := 100) (by omega) hbl (by omega) (by omega)).mono ?_
          rintro e w5 ⟨rfl, hj5, hs5⟩
          have hb5 := Below.trans hb4 (hj5.below (B := w.heap.size) (fun b hb => by rw [HP.out] at hb; exact hb) hb4.size)
          rw [← rows_next hxj] at hs5
          clear hs4 hbt hc0
          go_wp2_with fail
          go_roundw
          case rel => exact ⟨j + 1, by omega, by go_num, by first | exact hs5 | (rw [KK] at hs5; exact hs5), hb5⟩
          case measure => simp [intOf]; omega
        · have hbt := trim_gt hb0 (M := 100) (by omega)
          have hm' : 100 < b.m := by omega
          have hcc : ¬ b.c < 100 := by omega
          go_wp2_with fail
          refine (append_solo (c := b.c) hs4 hbt (M := 100) (by omega) hbl (by omega) (by omega)).mono ?_
          rintro e w5 ⟨rfl, hj5, hs5⟩
          have hb5 := Below.trans hb4 (hj5.below (B := w.heap.size) (fun b hb => by rw [HP.out] at hb; exact hb) hb4.size)
          rw [← rows_next hxj] at hs5
          clear hs4 hbt hc0
          go_wp2_with fail
          go_roundw
          case rel => exact ⟨j + 1, by omega, by go_num, by first | exact hs5 | (rw [KK] at hs5; exact hs5), hb5⟩
          case measure => simp [intOf]; omega
    · obtain rfl : j = N := by omega
      have hj' : decide ((j : Int) < (j : Int)) = false := decide_eq_false (by omega)
      by_cases hjk : kk = j
      · have hjk' : ((kk : Int) == (j : Int)) = true := beq_iff_eq.2 (by omega)
        have HJK := Lib.hid hjk
        clear hjk
        have hcs := hs4.call (lSync_any wr x d _ _ _)
        go_wp2_with fail
        refine hcs.mono ?_
        rintro e wq ⟨rfl, hjq, hsq⟩
        clear hcs hs4
        have hs4 := hsq
        have hb4 := Below.trans hb4 (hjq.below (B := w.heap.size) (fun b hb => by rw [HP.out] at hb; exact hb) hb4.size)
        rw [show (rows xs j).length = (rows xs kk).length by rw [HJK.out]] at hs4
        clear hsq hjq
        have hc6 := hs4.call (LogAt.turn (x := x) (n := (j : Int)) (Crash_any _ d (rows xs j) (rows xs kk).length keep hkeep))
        generalize keepN (rows xs j) (rows xs kk).length keep = kn at hc6
        go_wp2_with fail
        refine hc6.mono ?_
        rintro e w6 ⟨rfl, hj6, hs6⟩
        have hb6 := Below.trans hb4 (hj6.below (B := w.heap.size) (fun b hb => by rw [HP.out] at hb; exact hb) hb4.size)
        obtain ⟨i, hiN, hsc, hki⟩ := scan_cut xs ((rows xs kk).length + kn) (fun x hx => Nat.le_trans (hxl x hx) (by omega))
        have hkki := hki kk (by omega) (by unfold rows; omega)
        rw [show xs.flatMap frame = rows xs j by unfold rows; rw [List.take_of_length_le (by omega)]] at hsc
        have hc7 := open_solo (fun _ _ h => LogAt.disk h) hs6
        clear hc6 hki hs4
        go_wp2_with fail
        refine hc7.mono ?_
        rintro e w7 ⟨ys, j7, y, u, hS, rfl, hX, hj7, hs7⟩
        obtain ⟨rfl, rfl⟩ := hS.one hsc
        have hb7 := Below.trans hb6 (hj7.below (B := w.heap.size) (fun b hb => by rw [HP.out] at hb; exact hb) hb6.size)
        have hyl : (xs.take i).length = i := by rw [List.length_take]; omega
        obtain ⟨A1, c1, rfl, hn1, hm1, hrow⟩ := xs_at hX
        rw [hyl] at hs7 hn1 ⊢
        obtain ⟨V7, hL7, _⟩ := solo_get hs7
        have hc8 := lLen_any w7 y d _ _ _ V7 hL7
        clear hc7 hs6 hS hsc hX hj6 hj7
        have d1 : decide ((i : Int) < (kk : Int)) = false := decide_eq_false (by omega)
        have d2 : decide ((j : Int) < (i : Int)) = false := decide_eq_false (by omega)
        go_wp2_with fail
        refine hc8.mono ?_
        rintro e w8 ⟨rfl, rfl⟩
        clear hc8 hL7 hs7
        go_wp2_with fail
        go_loopw [16, 17, 95] (fun _ _ z wr => ∃ jj : Nat, jj ≤ i ∧ z = .int .i64 (jj : Int) ∧ Grow w7 wr) (fun _ _ z _ => i - (intOf z).toNat)
        case atStart => exact ⟨0, by omega, rfl, Grow.refl _⟩
        case round =>
          obtain ⟨jj, hji, rfl, hgr⟩ := hrel
          by_cases hj : jj < i
          · have hj' : decide ((jj : Int) < (i : Int)) = true := decide_eq_true (by omega)
            obtain ⟨ad, hqj, rfl, hc0⟩ := rec1 (hq.grow hb7).row (k := jj) (by omega)
            have hxj := trims_at (M := 100) (N := j) (q := q) (j := jj) (by omega) hqj
            have hb0 := ((hq.all _ (List.getElem_mem hqj)).grow (below_trans hb7 hgr hb7.size)).bytes
            have hbc := (hq.all _ (List.getElem_mem hqj)).le
            generalize q[jj] = b at hc0 hxj hb0 hbc
            have hc0 := hc0 _ hgr
            obtain ⟨a1, b1, rfl, _, hr0⟩ := hrow jj _ (by rw [List.getElem?_take_of_lt hj, HX.out]; exact hxj)
            have hr1 := fun w1 hg => hr0 w1 (hgr.trans hg)
            have hjc : jj < c1 := by omega
            clear hxj hr0 hrow
            by_cases hm : b.m ≤ 100
            · have hbt := hb0
              rw [← trim_le hb0 hm] at hbt
              go_wp2_with fail
              refine wp_region_flow 8 117 [] rfl rfl (by kernel_rfl) (by kernel_rfl) (by kernel_rfl) ?_ ?_
              · intro x hx φ he
                cases hx
              intro ops' A' K' T hops hA' hK hT
              refine fl_mv 107 (by rfl) (by decide) (wanted_none (by rfl)) (by rw [hK.out]; rfl) (by rfl) _ (Or.inl (by rfl)) (.slice (some a1) i c1) (by rfl) ?_
              refine fl_mv 108 (by rfl) (by decide) (wanted_none (by rfl)) (by rw [hK.out]; rfl) (by rfl) _ (Or.inl (by rfl)) (.int .i64 (jj : Int)) (by rfl) ?_
              refine fl_op2 109 (by rfl) (by decide) (wanted_none (by rfl)) (by rw [hK.out]; rfl) (by rfl) (.tmp 107) (.tmp 108) (.slice (some a1) i c1) (.int .i64 (jj : Int)) (by rfl) (by rfl) (.pointer (some (a1.add jj))) (fun ρ h1 h2 kk w1 (hg : Grow _ w1) hb hf => by go_simp) ?_
              refine fl_op1 110 (by rfl) (by decide) (wanted_none (by rfl)) (by rw [hK.out]; rfl) (by rfl) (.tmp 109) (.pointer (some (a1.add jj))) (by rfl) (.slice b1.A b1.m b1.c) (fun ρ h1 kk w1 (hg : Grow _ w1) hb hf => by have c := (hr1 w1 hg).1; go_simp) ?_
              refine fl_op1 111 (by rfl) (by decide) (wanted_none (by rfl)) (by rw [hK.out]; rfl) (by rfl) (.tmp 110) (.slice b1.A b1.m b1.c) (by rfl) (.string ⟨(b.bs.take 100).toArray⟩) (fun ρ h1 kk w1 (hg : Grow _ w1) hb hf => by have cv := conv_bytes w1 (c := b1.c) (hr1 w1 hg).2; go_simp) ?_
              refine fl_mv 112 (by rfl) (by decide) (wanted_none (by rfl)) (by rw [hK.out]; rfl) (by rfl) _ (Or.inl (by rfl)) (.slice b.A b.m b.c) (by rfl) ?_
              refine fl_op1 113 (by rfl) (by decide) (wanted_none (by rfl)) (by rw [hK.out]; rfl) (by rfl) (.tmp 112) (.slice b.A b.m b.c) (by rfl) (.string ⟨(b.bs.take 100).toArray⟩) (fun ρ h1 kk w1 (hg : Grow _ w1) hb hf => by have cv := conv_bytes w1 (c := b.c) (hbt.below hg); go_simp) ?_
              refine fl_op2 114 (by rfl) (by decide) (wanted_none (by rfl)) (by rw [hK.out]; rfl) (by rfl) (.tmp 111) (.tmp 113) (.string ⟨(b.bs.take 100).toArray⟩) (.string ⟨(b.bs.take 100).toArray⟩) (by rfl) (by rfl) (.bool false) (fun ρ h1 h2 kk w1 (hg : Grow _ w1) hb hf => by go_simp) ?_
              refine fl_end (fun _ _ w1 (hg : Grow _ w1) _ hfacts => hT _ _ ?_)
              clear hops hA' hK hT
              simp only [putsL, Act.put, List.setIfInBounds_toArray, List.set_cons_zero, List.set_cons_succ, List.drop_succ_cons, List.drop_zero]
              go_wp2_with fail
              go_roundw
              case rel => exact ⟨jj + 1, by omega, by go_num, hgr.trans hg⟩
              case measure => simp [intOf]; omega
            · have hbt := trim_gt hb0 (M := 100) (by omega)
              have hm' : 100 < b.m := by omega
              have hcc : ¬ b.c < 100 := by omega
              go_wp2_with fail
              refine wp_region_flow 8 117 [] rfl rfl (by kernel_rfl) (by kernel_rfl) (by kernel_rfl) ?_ ?_
              · intro x hx φ he
                cases hx
              intro ops' A' K' T hops hA' hK hT
              refine fl_mv 107 (by rfl) (by decide) (wanted_none (by rfl)) (by rw [hK.out]; rfl) (by rfl) _ (Or.inl (by rfl)) (.slice (some a1) i c1) (by rfl) ?_
              refine fl_mv 108 (by rfl) (by decide) (wanted_none (by rfl)) (by rw [hK.out]; rfl) (by rfl) _ (Or.inl (by rfl)) (.int .i64 (jj : Int)) (by rfl) ?_
              refine fl_op2 109 (by rfl) (by decide) (wanted_none (by rfl)) (by rw [hK.out]; rfl) (by rfl) (.tmp 107) (.tmp 108) (.slice (some a1) i c1) (.int .i64 (jj : Int)) (by rfl) (by rfl) (.pointer (some (a1.add jj))) (fun ρ h1 h2 kk w1 (hg : Grow _ w1) hb hf => by go_simp) ?_
              refine fl_op1 110 (by rfl) (by decide) (wanted_none (by rfl)) (by rw [hK.out]; rfl) (by rfl) (.tmp 109) (.pointer (some (a1.add jj))) (by rfl) (.slice b1.A b1.m b1.c) (fun ρ h1 kk w1 (hg : Grow _ w1) hb hf => by have c := (hr1 w1 hg).1; go_simp) ?_
              refine fl_op1 111 (by rfl) (by decide) (wanted_none (by rfl)) (by rw [hK.out]; rfl) (by rfl) (.tmp 110) (.slice b1.A b1.m b1.c) (by rfl) (.string ⟨(b.bs.take 100).toArray⟩) (fun ρ h1 kk w1 (hg : Grow _ w1) hb hf => by have cv := conv_bytes w1 (c := b1.c) (hr1 w1 hg).2; go_simp) ?_
              refine fl_mv 112 (by rfl) (by decide) (wanted_none (by rfl)) (by rw [hK.out]; rfl) (by rfl) _ (Or.inl (by rfl)) (.slice b.A 100 b.c) (by rfl) ?_
              refine fl_op1 113 (by rfl) (by decide) (wanted_none (by rfl)) (by rw [hK.out]; rfl) (by rfl) (.tmp 112) (.slice b.A 100 b.c) (by rfl) (.string ⟨(b.bs.take 100).toArray⟩) (fun ρ h1 kk w1 (hg : Grow _ w1) hb hf => by have cv := conv_bytes w1 (c := b.c) (hbt.below hg); go_simp) ?_
              refine fl_op2 114 (by rfl) (by decide) (wanted_none (by rfl)) (by rw [hK.out]; rfl) (by rfl) (.tmp 111) (.tmp 113) (.string ⟨(b.bs.take 100).toArray⟩) (.string ⟨(b.bs.take 100).toArray⟩) (by rfl) (by rfl) (.bool false) (fun ρ h1 h2 kk w1 (hg : Grow _ w1) hb hf => by go_simp) ?_
              refine fl_end (fun _ _ w1 (hg : Grow _ w1) _ hfacts => hT _ _ ?_)
              clear hops hA' hK hT
              simp only [putsL, Act.put, List.setIfInBounds_toArray, List.set_cons_zero, List.set_cons_succ, List.drop_succ_cons, List.drop_zero]
              go_wp2_with fail
              go_roundw
              case rel => exact ⟨jj + 1, by omega, by go_num, hgr.trans hg⟩
              case measure => simp [intOf]; omega
          · obtain rfl : jj = i := by omega
            have hj' : decide ((jj : Int) < (jj : Int)) = false := decide_eq_false (by omega)
            go_wp2_with (go_at_call 15; refine (known_any _).mono ?_; rintro e w9 ⟨rfl, hg9⟩)
            go_ret
            exact ⟨rfl, below_trans (below_trans hb7 hgr hb7.size) hg9 (Nat.le_trans hb7.size hgr.size)⟩
      · have hjk' : ((kk : Int) == (j : Int)) = false := beq_eq_false_iff_ne.2 (by omega)
        rw [if_neg (by omega)] at hs4
        have hc6 := hs4.call (LogAt.turn (x := x) (n := (j : Int)) (Crash_any _ d (rows xs j) (rows xs kk).length keep hkeep))
        generalize keepN (rows xs j) (rows xs kk).length keep = kn at hc6
        go_wp2_with fail
        refine hc6.mono ?_
        rintro e w6 ⟨rfl, hj6, hs6⟩
        have hb6 := Below.trans hb4 (hj6.below (B := w.heap.size) (fun b hb => by rw [HP.out] at hb; exact hb) hb4.size)
        obtain ⟨i, hiN, hsc, hki⟩ := scan_cut xs ((rows xs kk).length + kn) (fun x hx => Nat.le_trans (hxl x hx) (by omega))
        have hkki := hki kk (by omega) (by unfold rows; omega)
        rw [show xs.flatMap frame = rows xs j by unfold rows; rw [List.take_of_length_le (by omega)]] at hsc
        have hc7 := open_solo (fun _ _ h => LogAt.disk h) hs6
        clear hc6 hki hs4
        go_wp2_with fail
        refine hc7.mono ?_
        rintro e w7 ⟨ys, j7, y, u, hS, rfl, hX, hj7, hs7⟩
        obtain ⟨rfl, rfl⟩ := hS.one hsc
        have hb7 := Below.trans hb6 (hj7.below (B := w.heap.size) (fun b hb => by rw [HP.out] at hb; exact hb) hb6.size)
        have hyl : (xs.take i).length = i := by rw [List.length_take]; omega
        obtain ⟨A1, c1, rfl, hn1, hm1, hrow⟩ := xs_at hX
        rw [hyl] at hs7 hn1 ⊢
        obtain ⟨V7, hL7, _⟩ := solo_get hs7
        have hc8 := lLen_any w7 y d _ _ _ V7 hL7
        clear hc7 hs6 hS hsc hX hj6 hj7
        have d1 : decide ((i : Int) < (kk : Int)) = false := decide_eq_false (by omega)
        have d2 : decide ((j : Int) < (i : Int)) = false := decide_eq_false (by omega)
        go_wp2_with fail
        refine hc8.mono ?_
        rintro e w8 ⟨rfl, rfl⟩
        clear hc8 hL7 hs7
        go_wp2_with fail
        go_loopw [16, 17, 95] (fun _ _ z wr => ∃ jj : Nat, jj ≤ i ∧ z = .int .i64 (jj : Int) ∧ Grow w7 wr) (fun _ _ z _ => i - (intOf z).toNat)
        case atStart => exact ⟨0, by omega, rfl, Grow.refl _⟩
        case round =>
          obtain ⟨jj, hji, rfl, hgr⟩ := hrel
          by_cases hj : jj < i
          · have hj' : decide ((jj : Int) < (i : Int)) = true := decide_eq_true (by omega)
            obtain ⟨ad, hqj, rfl, hc0⟩ := rec1 (hq.grow hb7).row (k := jj) (by omega)
            have hxj := trims_at (M := 100) (N := j) (q := q) (j := jj) (by omega) hqj
            have hb0 := ((hq.all _ (List.getElem_mem hqj)).grow (below_trans hb7 hgr hb7.size)).bytes
            have hbc := (hq.all _ (List.getElem_mem hqj)).le
            generalize q[jj] = b at hc0 hxj hb0 hbc
            have hc0 := hc0 _ hgr
            obtain ⟨a1, b1, rfl, _, hr0⟩ := hrow jj _ (by rw [List.getElem?_take_of_lt hj, HX.out]; exact hxj)
            have hr1 := fun w1 hg => hr0 w1 (hgr.trans hg)
            have hjc : jj < c1 := by omega
            clear hxj hr0 hrow
            by_cases hm : b.m ≤ 100
            · have hbt := hb0
              rw [← trim_le hb0 hm] at hbt
              go_wp2_with fail
              refine wp_region_flow 8 117 [] rfl rfl (by kernel_rfl) (by kernel_rfl) (by kernel_rfl) ?_ ?_
              · intro x hx φ he
                cases hx
              intro ops' A' K' T hops hA' hK hT
              refine fl_mv 107 (by rfl) (by decide) (wanted_none (by rfl)) (by rw [hK.out]; rfl) (by rfl) _ (Or.inl (by rfl)) (.slice (some a1) i c1) (by rfl) ?_
              refine fl_mv 108 (by rfl) (by decide) (wanted_none (by rfl)) (by rw [hK.out]; rfl) (by rfl) _ (Or.inl (by rfl)) (.int .i64 (jj : Int)) (by rfl) ?_
              refine fl_op2 109 (by rfl) (by decide) (wanted_none (by rfl)) (by rw [hK.out]; rfl) (by rfl) (.tmp 107) (.tmp 108) (.slice (some a1) i c1) (.int .i64 (jj : Int)) (by rfl) (by rfl) (.pointer (some (a1.add jj))) (fun ρ h1 h2 kk w1 (hg : Grow _ w1) hb hf => by go_simp) ?_
              refine fl_op1 110 (by rfl) (by decide) (wanted_none (by rfl)) (by rw [hK.out]; rfl) (by rfl) (.tmp 109) (.pointer (some (a1.add jj))) (by rfl) (.slice b1.A b1.m b1.c) (fun ρ h1 kk w1 (hg : Grow _ w1) hb hf => by have c := (hr1 w1 hg).1; go_simp) ?_
              refine fl_op1 111 (by rfl) (by decide) (wanted_none (by rfl)) (by rw [hK.out]; rfl) (by rfl) (.tmp 110) (.slice b1.A b1.m b1.c) (by rfl) (.string ⟨(b.bs.take 100).toArray⟩) (fun ρ h1 kk w1 (hg : Grow _ w1) hb hf => by have cv := conv_bytes w1 (c := b1.c) (hr1 w1 hg).2; go_simp) ?_
              refine fl_mv 112 (by rfl) (by decide) (wanted_none (by rfl)) (by rw [hK.out]; rfl) (by rfl) _ (Or.inl (by rfl)) (.slice b.A b.m b.c) (by rfl) ?_
              refine fl_op1 113 (by rfl) (by decide) (wanted_none (by rfl)) (by rw [hK.out]; rfl) (by rfl) (.tmp 112) (.slice b.A b.m b.c) (by rfl) (.string ⟨(b.bs.take 100).toArray⟩) (fun ρ h1 kk w1 (hg : Grow _ w1) hb hf => by have cv := conv_bytes w1 (c := b.c) (hbt.below hg); go_simp) ?_
              refine fl_op2 114 (by rfl) (by decide) (wanted_none (by rfl)) (by rw [hK.out]; rfl) (by rfl) (.tmp 111) (.tmp 113) (.string ⟨(b.bs.take 100).toArray⟩) (.string ⟨(b.bs.take 100).toArray⟩) (by rfl) (by rfl) (.bool false) (fun ρ h1 h2 kk w1 (hg : Grow _ w1) hb hf => by go_simp) ?_
              refine fl_end (fun _ _ w1 (hg : Grow _ w1) _ hfacts => hT _ _ ?_)
              clear hops hA' hK hT
              simp only [putsL, Act.put, List.setIfInBounds_toArray, List.set_cons_zero, List.set_cons_succ, List.drop_succ_cons, List.drop_zero]
              go_wp2_with fail
              go_roundw
              case rel => exact ⟨jj + 1, by omega, by go_num, hgr.trans hg⟩
              case measure => simp [intOf]; omega
            · have hbt := trim_gt hb0 (M := 100) (by omega)
              have hm' : 100 < b.m := by omega
              have hcc : ¬ b.c < 100 := by omega
              go_wp2_with fail
              refine wp_region_flow 8 117 [] rfl rfl (by kernel_rfl) (by kernel_rfl) (by kernel_rfl) ?_ ?_
              · intro x hx φ he
                cases hx
              intro ops' A' K' T hops hA' hK hT
              refine fl_mv 107 (by rfl) (by decide) (wanted_none (by rfl)) (by rw [hK.out]; rfl) (by rfl) _ (Or.inl (by rfl)) (.slice (some a1) i c1) (by rfl) ?_
              refine fl_mv 108 (by rfl) (by decide) (wanted_none (by rfl)) (by rw [hK.out]; rfl) (by rfl) _ (Or.inl (by rfl)) (.int .i64 (jj : Int)) (by rfl) ?_
              refine fl_op2 109 (by rfl) (by decide) (wanted_none (by rfl)) (by rw [hK.out]; rfl) (by rfl) (.tmp 107) (.tmp 108) (.slice (some a1) i c1) (.int .i64 (jj : Int)) (by rfl) (by rfl) (.pointer (some (a1.add jj))) (fun ρ h1 h2 kk w1 (hg : Grow _ w1) hb hf => by go_simp) ?_
              refine fl_op1 110 (by rfl) (by decide) (wanted_none (by rfl)) (by rw [hK.out]; rfl) (by rfl) (.tmp 109) (.pointer (some (a1.add jj))) (by rfl) (.slice b1.A b1.m b1.c) (fun ρ h1 kk w1 (hg : Grow _ w1) hb hf => by have c := (hr1 w1 hg).1; go_simp) ?_
              refine fl_op1 111 (by rfl) (by decide) (wanted_none (by rfl)) (by rw [hK.out]; rfl) (by rfl) (.tmp 110) (.slice b1.A b1.m b1.c) (by rfl) (.string ⟨(b.bs.take 100).toArray⟩) (fun ρ h1 kk w1 (hg : Grow _ w1) hb hf => by have cv := conv_bytes w1 (c := b1.c) (hr1 w1 hg).2; go_simp) ?_
              refine fl_mv 112 (by rfl) (by decide) (wanted_none (by rfl)) (by rw [hK.out]; rfl) (by rfl) _ (Or.inl (by rfl)) (.slice b.A 100 b.c) (by rfl) ?_
              refine fl_op1 113 (by rfl) (by decide) (wanted_none (by rfl)) (by rw [hK.out]; rfl) (by rfl) (.tmp 112) (.slice b.A 100 b.c) (by rfl) (.string ⟨(b.bs.take 100).toArray⟩) (fun ρ h1 kk w1 (hg : Grow _ w1) hb hf => by have cv := conv_bytes w1 (c := b.c) (hbt.below hg); go_simp) ?_
              refine fl_op2 114 (by rfl) (by decide) (wanted_none (by rfl)) (by rw [hK.out]; rfl) (by rfl) (.tmp 111) (.tmp 113) (.string ⟨(b.bs.take 100).toArray⟩) (.string ⟨(b.bs.take 100).toArray⟩) (by rfl) (by rfl) (.bool false) (fun ρ h1 h2 kk w1 (hg : Grow _ w1) hb hf => by go_simp) ?_
              refine fl_end (fun _ _ w1 (hg : Grow _ w1) _ hfacts => hT _ _ ?_)
              clear hops hA' hK hT
              simp only [putsL, Act.put, List.setIfInBounds_toArray, List.set_cons_zero, List.set_cons_succ, List.drop_succ_cons, List.drop_zero]
              go_wp2_with fail
              go_roundw
              case rel => exact ⟨jj + 1, by omega, by go_num, hgr.trans hg⟩
              case measure => simp [intOf]; omega
          · obtain rfl : jj = i := by omega
            have hj' : decide ((jj : Int) < (jj : Int)) = false := decide_eq_false (by omega)
            go_wp2_with (go_at_call 15; refine (known_any _).mono ?_; rintro e w9 ⟨rfl, hg9⟩)
            go_ret
            exact ⟨rfl, below_trans (below_trans hb7 hgr hb7.size) hg9 (Nat.le_trans hb7.size hgr.size)⟩
end Go.Proofs.Ytdpcokekilklfaa
