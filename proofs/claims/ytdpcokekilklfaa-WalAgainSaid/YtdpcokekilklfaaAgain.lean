/- WalAgain: its walk. -/
import Derived.Test.YtdpcokekilklfaaWsteps2
namespace Go.Proofs.Ytdpcokekilklfaa
open Go.RowKit Go.Hop
set_option maxRecDepth 100000 in
set_option maxHeartbeats 4000000 in
theorem again_any (w : World) (A0 : Option Addr) (n0 c0 : Nat) (q : List Bx) (hq : Bxs w (fun b => b < w.heap.size) (fun b => b < w.heap.size) A0 n0 q) (hnc0 : n0 ≤ c0) (hm0 : c0 ≤ maxLen)
    (times : Int) :
    Calls Try.prog 4 #[.slice A0 n0 c0, .int .i64 times] w fun e w' => e = .returned (.bool true) ∧ Grow w w' := by
  have ht4 := and_low times 3 2 (by decide) (by decide)
  have ht0 : 0 ≤ times % 4 ∧ times % 4 < 4 := ⟨Int.emod_nonneg _ (by decide), Int.emod_lt_of_pos _ (by decide)⟩
  obtain ⟨P, HP⟩ : ∃ P : Nat → Prop, Hid (P = fun b => w.heap.size ≤ b) := ⟨_, rfl⟩
  obtain ⟨N, hN0, hN1, hN2⟩ : ∃ N : Nat, N ≤ n0 ∧ N ≤ 12 ∧ (N = n0 ∨ N = 12) := ⟨min n0 12, by omega, by omega, by omega⟩
  have hmn : ∀ (ts : Array TypeId) (t : TypeId) (w : World), (Builtin.min_ ts t #[.int .i64 (n0 : Int), .int .i64 12]).run Try.prog w = .ok (.int .i64 (N : Int)) w := fun ts t w => by
    rw [run_min_int2]
    congr 2
    split <;> omega
  have hql := hq.len
  obtain ⟨xs, HX⟩ : ∃ xs, Hid (xs = trims 80 q N) := ⟨_, rfl⟩
  have hxn : xs.length = N := by rw [HX.out]; exact trims_len (by omega)
  have hxl : ∀ x ∈ xs, x.length ≤ 80 := by rw [HX.out]; exact trims_le
  have hxl6 : ∀ x ∈ xs, x.length ≤ 65536 := fun x hx => Nat.le_trans (hxl x hx) (by omega)
  have hrs : ∀ j, j ≤ 1000 → (rows xs j).length ≤ 133000 := fun j hj => rows_small (by omega) hxl hj
  go_enter Try.func4, Try.ntmps4
  go_wp2_with fail
  refine (New_any w).mono ?_
  rintro e w1 ⟨rfl, hD1, hg1⟩
  obtain ⟨d, hd⟩ : ∃ d : Nat, Hid (d = w.heap.size) := ⟨_, rfl⟩
  rw [← hd.out] at hD1 ⊢
  have hs1 : Solo P (DiskAt 44 d [] 0) w1 := Solo.make hD1 (fun b hb => by rw [HP.out]; exact Nat.le_trans hg1.size hb) (fun b hb => ⟨by rw [HP.out]; exact hb.1, hb.2⟩)
  have hb1 : Below w.heap.size w w1 := hg1
  clear hD1 hg1
  go_wp2_with fail
  go_loopw [7, 8, 9, 10, 11] (fun i _ _ _ _ wr => ∃ j : Nat, j ≤ N ∧ i = .int .i64 (j : Int) ∧ Solo P (DiskAt 44 d (rows xs j) (rows xs j).length) wr ∧ Below w.heap.size w wr) (fun i _ _ _ _ _ => N - (intOf i).toNat)
  case atStart => exact ⟨0, by omega, rfl, hs1, hb1⟩
  case round =>
    clear hs1 hb1
    obtain ⟨j, hjN, rfl, hs3, hb3⟩ := hrel
    have hrj := hrs j (by omega)
    have hsc := scan_all (xs.take j) (fun x hx => hxl6 x (List.mem_of_mem_take hx))
    have hc3 := open_solo (fun _ _ h => h) hs3
    have hyl : (xs.take j).length = j := by rw [List.length_take]; omega
    by_cases hj : j < N
    · have hj' : decide ((j : Int) < (N : Int)) = true := decide_eq_true (by omega)
      go_wp2_with fail
      refine hc3.mono ?_
      rintro e w4 ⟨ys, j7, x, u, hS, rfl, hX, hj4, hs4⟩
      obtain ⟨rfl, rfl⟩ := hS.one hsc
      have hb4 := Below.trans hb3 (hj4.below (B := w.heap.size) (fun b hb => by rw [HP.out] at hb; exact hb) hb3.size)
      obtain ⟨A1, c1, rfl, hn1, hm1, _⟩ := xs_at hX
      rw [hyl] at hs4 hn1 ⊢
      rw [show (xs.take j).flatMap frame = rows xs j from rfl, List.take_length] at hs4
      clear hc3 hS hsc hX hj4 hs3
      obtain ⟨ad, hqj, rfl, hc0⟩ := rec1 (hq.grow hb4).row (k := j) (by omega)
      have hxj := trims_at (M := 80) (N := N) (q := q) (j := j) (by omega) hqj
      rw [← HX.out] at hxj
      have hb0 := ((hq.all _ (List.getElem_mem hqj)).grow hb4).bytes
      have hbc := (hq.all _ (List.getElem_mem hqj)).le
      generalize q[j] = b at hc0 hxj hb0 hbc
      have hc0 := hc0 _ (Grow.refl _)
      have hbl : (b.bs.take 80).length ≤ 80 := by rw [List.length_take]; omega
      by_cases hm : b.m ≤ 80
      · have hbt := hb0
        rw [← trim_le hb0 hm] at hbt
        go_wp2_with fail
        refine (append_solo (c := b.c) hs4 hbt (M := 80) (by omega) hbl (by omega) (by omega)).mono ?_
        rintro e w5 ⟨rfl, hj5, hs5⟩
        have hb5 := Below.trans hb4 (hj5.below (B := w.heap.size) (fun b hb => by rw [HP.out] at hb; exact hb) hb4.size)
        rw [← rows_next hxj] at hs5
        have hc6 := hs5.call (lSync_any w5 x d _ _ _)
        clear hs4 hbt hc0
        go_wp2_with fail
        refine hc6.mono ?_
        rintro e w6 ⟨rfl, hj6, hs6⟩
        have hb6 := Below.trans hb5 (hj6.below (B := w.heap.size) (fun b hb => by rw [HP.out] at hb; exact hb) hb5.size)
        have hs6 := solo_imp hs6 fun _ h => LogAt.disk h
        clear hc6 hs5
        go_wp2_with fail
        go_loopw [11] (fun i wr => ∃ k : Nat, (k : Int) ≤ times % 4 ∧ i = .int .i64 (k : Int) ∧ Solo P (DiskAt 44 d (rows xs (j + 1)) (rows xs (j + 1)).length) wr ∧ Below w.heap.size w wr) (fun i _ => 4 - (intOf i).toNat)
        case atStart => exact ⟨0, by omega, rfl, hs6, hb6⟩
        case round =>
          clear hs6 hb6
          obtain ⟨k, hk4, rfl, hs7, hb7⟩ := hrel
          by_cases hk : (k : Int) < times % 4
          · have hk' : decide ((k : Int) < times % 4) = true := decide_eq_true hk
            have hc7 := crash_still hs7
            go_wp2_with fail
            refine hc7.mono ?_
            rintro e w8 ⟨rfl, hj8, hs8⟩
            have hb8 := Below.trans hb7 (hj8.below (B := w.heap.size) (fun b hb => by rw [HP.out] at hb; exact hb) hb7.size)
            clear hc7 hs7
            go_wp2_with fail
            go_roundw
            case rel => exact ⟨k + 1, by omega, by go_num, hs8, hb8⟩
            case measure => simp [intOf]; omega
          · have hk' : decide ((k : Int) < times % 4) = false := decide_eq_false hk
            go_wp2_with fail
            go_roundw
            case rel => exact ⟨j + 1, by omega, by go_num, hs7, hb7⟩
            case measure => simp [intOf]; omega
      · have hbt := trim_gt hb0 (M := 80) (by omega)
        have hm' : 80 < b.m := by omega
        have hcc : ¬ b.c < 80 := by omega
        go_wp2_with fail
        refine (append_solo (c := b.c) hs4 hbt (M := 80) (by omega) hbl (by omega) (by omega)).mono ?_
        rintro e w5 ⟨rfl, hj5, hs5⟩
        have hb5 := Below.trans hb4 (hj5.below (B := w.heap.size) (fun b hb => by rw [HP.out] at hb; exact hb) hb4.size)
        rw [← rows_next hxj] at hs5
        have hc6 := hs5.call (lSync_any w5 x d _ _ _)
        clear hs4 hbt hc0
        go_wp2_with fail
        refine hc6.mono ?_
        rintro e w6 ⟨rfl, hj6, hs6⟩
        have hb6 := Below.trans hb5 (hj6.below (B := w.heap.size) (fun b hb => by rw [HP.out] at hb; exact hb) hb5.size)
        have hs6 := solo_imp hs6 fun _ h => LogAt.disk h
        clear hc6 hs5
        go_wp2_with fail
        go_loopw [11] (fun i wr => ∃ k : Nat, (k : Int) ≤ times % 4 ∧ i = .int .i64 (k : Int) ∧ Solo P (DiskAt 44 d (rows xs (j + 1)) (rows xs (j + 1)).length) wr ∧ Below w.heap.size w wr) (fun i _ => 4 - (intOf i).toNat)
        case atStart => exact ⟨0, by omega, rfl, hs6, hb6⟩
        case round =>
          clear hs6 hb6
          obtain ⟨k, hk4, rfl, hs7, hb7⟩ := hrel
          by_cases hk : (k : Int) < times % 4
          · have hk' : decide ((k : Int) < times % 4) = true := decide_eq_true hk
            have hc7 := crash_still hs7
            go_wp2_with fail
            refine hc7.mono ?_
            rintro e w8 ⟨rfl, hj8, hs8⟩
            have hb8 := Below.trans hb7 (hj8.below (B := w.heap.size) (fun b hb => by rw [HP.out] at hb; exact hb) hb7.size)
            clear hc7 hs7
            go_wp2_with fail
            go_roundw
            case rel => exact ⟨k + 1, by omega, by go_num, hs8, hb8⟩
            case measure => simp [intOf]; omega
          · have hk' : decide ((k : Int) < times % 4) = false := decide_eq_false hk
            go_wp2_with fail
            go_roundw
            case rel => exact ⟨j + 1, by omega, by go_num, hs7, hb7⟩
            case measure => simp [intOf]; omega
    · obtain rfl : j = N := by omega
      have hj' : decide ((j : Int) < (j : Int)) = false := decide_eq_false (by omega)
      go_wp2_with fail
      refine hc3.mono ?_
      rintro e w4 ⟨ys, j7, x, u, hS, rfl, hX, hj4, hs4⟩
      obtain ⟨rfl, rfl⟩ := hS.one hsc
      have hb4 := Below.trans hb3 (hj4.below (B := w.heap.size) (fun b hb => by rw [HP.out] at hb; exact hb) hb3.size)
      obtain ⟨A1, c1, rfl, hn1, hm1, hrow⟩ := xs_at hX
      rw [hyl] at hs4 hn1 ⊢
      rw [show (xs.take j).flatMap frame = rows xs j from rfl, List.take_length] at hs4
      obtain ⟨V4, hL4, hV4⟩ := solo_get hs4
      clear hc3 hS hX hj4 hs3 hs4
      go_wp2_with fail
      generalize hi : j = i at *
      go_loopw [14, 15, 70] (fun _ _ z wr => ∃ jj : Nat, jj ≤ i ∧ z = .int .i64 (jj : Int) ∧ Grow w4 wr) (fun _ _ z _ => i - (intOf z).toNat)
      case atStart => exact ⟨0, by omega, rfl, Grow.refl _⟩
      case round =>
        obtain ⟨jj, hji, rfl, hgr⟩ := hrel
        have hbr := below_trans hb4 hgr hb4.size
        by_cases hjj : jj < i
        · have hj' : decide ((jj : Int) < (i : Int)) = true := decide_eq_true (by omega)
          obtain ⟨ad, hqj, rfl, hc0⟩ := rec1 (hq.grow hbr).row (k := jj) (by omega)
          have hxj := trims_at (M := 80) (N := i) (q := q) (j := jj) (by omega) hqj
          rw [← HX.out] at hxj
          have hb0 := ((hq.all _ (List.getElem_mem hqj)).grow hbr).bytes
          have hbc := (hq.all _ (List.getElem_mem hqj)).le
          generalize q[jj] = b at hc0 hxj hb0 hbc
          have hc0 := hc0 _ (Grow.refl _)
          have hbl : (b.bs.take 80).length ≤ 80 := by rw [List.length_take]; omega
          obtain ⟨a1, b1, rfl, _, hr0⟩ := hrow jj _ (by rw [List.getElem?_take_of_lt hjj]; exact hxj)
          have hr1 := fun w1 hg => hr0 w1 (hgr.trans hg)
          have hjc : jj < c1 := by omega
          clear hxj hr0 hrow
          by_cases hm : b.m ≤ 80
          · have hbt := hb0
            rw [← trim_le hb0 hm] at hbt
            go_wp2_with fail
            refine wp_region_flow 8 103 [] rfl rfl (by kernel_rfl) (by kernel_rfl) (by kernel_rfl) ?_ ?_
            · intro x hx φ he
              cases hx
            intro ops' A' K' T hops hA' hK hT
            refine fl_mv 82 (by rfl) (by decide) (wanted_none (by rfl)) (by rw [hK.out]; rfl) (by rfl) _ (Or.inl (by rfl)) (.slice (some a1) i c1) (by rfl) ?_
            refine fl_mv 83 (by rfl) (by decide) (wanted_none (by rfl)) (by rw [hK.out]; rfl) (by rfl) _ (Or.inl (by rfl)) (.int .i64 (jj : Int)) (by rfl) ?_
            refine fl_op2 84 (by rfl) (by decide) (wanted_none (by rfl)) (by rw [hK.out]; rfl) (by rfl) (.tmp 82) (.tmp 83) (.slice (some a1) i c1) (.int .i64 (jj : Int)) (by rfl) (by rfl) (.pointer (some (a1.add jj))) (fun ρ h1 h2 kk w1 (hg : Grow _ w1) hb hf => by go_simp) ?_
            refine fl_op1 85 (by rfl) (by decide) (wanted_none (by rfl)) (by rw [hK.out]; rfl) (by rfl) (.tmp 84) (.pointer (some (a1.add jj))) (by rfl) (.slice b1.A b1.m b1.c) (fun ρ h1 kk w1 (hg : Grow _ w1) hb hf => by have c := (hr1 w1 hg).1; go_simp) ?_
            refine fl_op1 86 (by rfl) (by decide) (wanted_none (by rfl)) (by rw [hK.out]; rfl) (by rfl) (.tmp 85) (.slice b1.A b1.m b1.c) (by rfl) (.string ⟨(b.bs.take 80).toArray⟩) (fun ρ h1 kk w1 (hg : Grow _ w1) hb hf => by have cv := conv_bytes w1 (c := b1.c) (hr1 w1 hg).2; go_simp) ?_
            refine fl_mv 87 (by rfl) (by decide) (wanted_none (by rfl)) (by rw [hK.out]; rfl) (by rfl) _ (Or.inl (by rfl)) (.slice b.A b.m b.c) (by rfl) ?_
            refine fl_op1 88 (by rfl) (by decide) (wanted_none (by rfl)) (by rw [hK.out]; rfl) (by rfl) (.tmp 87) (.slice b.A b.m b.c) (by rfl) (.string ⟨(b.bs.take 80).toArray⟩) (fun ρ h1 kk w1 (hg : Grow _ w1) hb hf => by have cv := conv_bytes w1 (c := b.c) (hbt.below hg); go_simp) ?_
            refine fl_op2 89 (by rfl) (by decide) (wanted_none (by rfl)) (by rw [hK.out]; rfl) (by rfl) (.tmp 86) (.tmp 88) (.string ⟨(b.bs.take 80).toArray⟩) (.string ⟨(b.bs.take 80).toArray⟩) (by rfl) (by rfl) (.bool false) (fun ρ h1 h2 kk w1 (hg : Grow _ w1) hb hf => by go_simp) ?_
            refine fl_end (fun _ _ w1 (hg : Grow _ w1) _ hfacts => hT _ _ ?_)
            clear hops hA' hK hT
            simp only [putsL, Act.put, List.setIfInBounds_toArray, List.set_cons_zero, List.set_cons_succ, List.drop_succ_cons, List.drop_zero]
            go_wp2_with fail
            go_roundw
            case rel => exact ⟨jj + 1, by omega, by go_num, hgr.trans hg⟩
            case measure => simp [intOf]; omega
          · have hbt := trim_gt hb0 (M := 80) (by omega)
            have hm' : 80 < b.m := by omega
            have hcc : ¬ b.c < 80 := by omega
            go_wp2_with fail
            refine wp_region_flow 8 103 [] rfl rfl (by kernel_rfl) (by kernel_rfl) (by kernel_rfl) ?_ ?_
            · intro x hx φ he
              cases hx
            intro ops' A' K' T hops hA' hK hT
            refine fl_mv 82 (by rfl) (by decide) (wanted_none (by rfl)) (by rw [hK.out]; rfl) (by rfl) _ (Or.inl (by rfl)) (.slice (some a1) i c1) (by rfl) ?_
            refine fl_mv 83 (by rfl) (by decide) (wanted_none (by rfl)) (by rw [hK.out]; rfl) (by rfl) _ (Or.inl (by rfl)) (.int .i64 (jj : Int)) (by rfl) ?_
            refine fl_op2 84 (by rfl) (by decide) (wanted_none (by rfl)) (by rw [hK.out]; rfl) (by rfl) (.tmp 82) (.tmp 83) (.slice (some a1) i c1) (.int .i64 (jj : Int)) (by rfl) (by rfl) (.pointer (some (a1.add jj))) (fun ρ h1 h2 kk w1 (hg : Grow _ w1) hb hf => by go_simp) ?_
            refine fl_op1 85 (by rfl) (by decide) (wanted_none (by rfl)) (by rw [hK.out]; rfl) (by rfl) (.tmp 84) (.pointer (some (a1.add jj))) (by rfl) (.slice b1.A b1.m b1.c) (fun ρ h1 kk w1 (hg : Grow _ w1) hb hf => by have c := (hr1 w1 hg).1; go_simp) ?_
            refine fl_op1 86 (by rfl) (by decide) (wanted_none (by rfl)) (by rw [hK.out]; rfl) (by rfl) (.tmp 85) (.slice b1.A b1.m b1.c) (by rfl) (.string ⟨(b.bs.take 80).toArray⟩) (fun ρ h1 kk w1 (hg : Grow _ w1) hb hf => by have cv := conv_bytes w1 (c := b1.c) (hr1 w1 hg).2; go_simp) ?_
            refine fl_mv 87 (by rfl) (by decide) (wanted_none (by rfl)) (by rw [hK.out]; rfl) (by rfl) _ (Or.inl (by rfl)) (.slice b.A 80 b.c) (by rfl) ?_
            refine fl_op1 88 (by rfl) (by decide) (wanted_none (by rfl)) (by rw [hK.out]; rfl) (by rfl) (.tmp 87) (.slice b.A 80 b.c) (by rfl) (.string ⟨(b.bs.take 80).toArray⟩) (fun ρ h1 kk w1 (hg : Grow _ w1) hb hf => by have cv := conv_bytes w1 (c := b.c) (hbt.below hg); go_simp) ?_
            refine fl_op2 89 (by rfl) (by decide) (wanted_none (by rfl)) (by rw [hK.out]; rfl) (by rfl) (.tmp 86) (.tmp 88) (.string ⟨(b.bs.take 80).toArray⟩) (.string ⟨(b.bs.take 80).toArray⟩) (by rfl) (by rfl) (.bool false) (fun ρ h1 h2 kk w1 (hg : Grow _ w1) hb hf => by go_simp) ?_
            refine fl_end (fun _ _ w1 (hg : Grow _ w1) _ hfacts => hT _ _ ?_)
            clear hops hA' hK hT
            simp only [putsL, Act.put, List.setIfInBounds_toArray, List.set_cons_zero, List.set_cons_succ, List.drop_succ_cons, List.drop_zero]
            go_wp2_with fail
            go_roundw
            case rel => exact ⟨jj + 1, by omega, by go_num, hgr.trans hg⟩
            case measure => simp [intOf]; omega
        · obtain rfl : jj = i := by omega
          have hj' : decide ((jj : Int) < (jj : Int)) = false := decide_eq_false (by omega)
          have hL5 := LogAt.framed _ _ _ _ _ w4 wr V4 hL4 fun b hb => hgr.block b (hV4 b hb).2
          have hc9 := Torn_any wr d _ _ V4 hL5.disk (fun b hb => Nat.lt_of_lt_of_le (hV4 b hb).2 hgr.size)
          clear hrow hL4
          go_wp2_with fail
          refine hc9.mono ?_
          rintro e w9 ⟨zs, j9, hS, rfl, hg9⟩
          obtain ⟨rfl, rfl⟩ := hS.one hsc
          rw [show (xs.take jj).flatMap frame = rows xs jj from rfl]
          have hb9 := below_trans hbr hg9 hbr.size
          clear hc9 hS
          go_wp2_with (go_at_call 15; refine (known_any _).mono ?_; rintro e w10 ⟨rfl, hg10⟩)
          go_ret
          exact ⟨rfl, below_trans hb9 hg10 hb9.size⟩
end Go.Proofs.Ytdpcokekilklfaa
