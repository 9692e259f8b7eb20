/- TimerStops: its walk, part b. -/
import Derived.Test.YtjjafpgpnmdjlaaSto
namespace Go.Proofs.Ytjjafpgpnmdjlaa
open Go.RowKit Go.Hop
set_option maxRecDepth 100000 in
set_option maxHeartbeats 1600000 in
theorem stops_b (w : World) (A0 : Option Addr) (n0 c0 : Nat) (xs : List Int) (hx : Reads w w.heap.size 1 A0 n0 (xs.map (Value.int .i64))) (h64 : ∀ z ∈ xs, in64 z) (hnc : n0 ≤ c0) (hcm : c0 ≤ maxLen)
    (A1 : Option Addr) (n1 c1 : Nat) (ys : List Int) (hy : Reads w w.heap.size 1 A1 n1 (ys.map (Value.int .i64))) (h64y : ∀ z ∈ ys, in64 z) (hnc1 : n1 ≤ c1) (hcm1 : c1 ≤ maxLen) (h10 : n0 = 40):
    Calls Try.prog 6 #[.slice A0 n0 c0, .slice A1 n1 c1] w fun e w' => e = .returned (.bool true) ∧ Grow w w' := by
  unfold maxLen at hcm hcm1
  have hz40 := want_zero
  have hne := wcells_ne (fun _ => 0)
  obtain ⟨np, hnp⟩ : ∃ np, wcells (fun _ => 0) = np := ⟨_, rfl⟩
  rw [hnp] at hz40 hne
  have k14 : ∀ (vs : Array Value) (w : World), (callFunc 14 vs).run Try.prog w = .ok (.enter 14 vs) w := fun vs w => by go_simp
  subst h10
  go_enter Try.func6, Try.ntmps6
  go_wp2_with fail
  refine (New_any w).mono ?_
  rintro e wa ⟨t, rfl, hT, hga⟩
  have hs : Solo (fun b => w.heap.size ≤ b) (TimersAt t []) wa := Solo.make (V := New w wa) hT (fun b hb => by have := hga.size; omega) (fun b hb => hb)
  clear hT
  have hgy : Grow wa (wa.alloc (.cells np 40)) := (Below.refl _ _).alloc (Nat.le_refl _) _
  have hsy : (wa.alloc (.cells np 40)).heap.size = wa.heap.size + 1 := by simp
  have hBy := Blk.made wa 40 np
  have hs := Solo.beside hs (TimersAt.framed _ _) hgy (P' := fun b => w.heap.size ≤ b ∧ b ≠ wa.heap.size) fun b h1 h2 => ⟨h1, by omega⟩
  have hb := Below.trans hga (hgy.mono hga.size)
  have hyw : w.heap.size ≤ wa.heap.size := hga.size
  go_wp2_with fail
  generalize wa.alloc (.cells np 40) = wb at hs hBy hb hgy hsy ⊢
  generalize wa.heap.size = y at hs hBy hyw hsy ⊢
  rw [← hnp] at hBy
  clear hz40 hnp hne
  have hyP : ¬ (w.heap.size ≤ y ∧ y ≠ y) := fun h => h.2 rfl
  go_loopw [8] (fun i wr => ∃ (k : Nat) (S : List It) (W : Nat → Int), k ≤ 40 ∧ i = .int .i64 (k : Int) ∧ PW k W S ∧ Blk wr y 40 (wcells W) ∧ Solo (fun b => w.heap.size ≤ b ∧ b ≠ y) (TimersAt t S) wr ∧ Below w.heap.size w wr) (fun i _ => 40 - (intOf i).toNat)
  case atStart => exact ⟨0, [], fun _ => 0, by omega, rfl, ⟨by simp, by simp, by simp⟩, hBy, hs, hb⟩
  case round =>
    obtain ⟨k, S, W, hkn, rfl, hPW, hBy, hs, hb⟩ := hrel
    by_cases hk : k < 40
    · have hk' : decide ((k : Int) < (40 : Int)) = true := decide_eq_true (by omega)
      have hk40 : k < 40 := by omega
      obtain ⟨ad, u, hA0, hadB, hu, e0⟩ := Reads.at_ (Reads.below hx hb) (show k < 40 by omega)
      subst hA0
      obtain ⟨z, hz, rfl⟩ : ∃ z, xs[k]? = some z ∧ u = .int .i64 z := by
        rw [List.getElem?_map] at hu
        obtain ⟨z, hz, he⟩ := Option.map_eq_some_iff.1 hu
        exact ⟨z, hz, he.symm⟩
      have hand := and_low z 255 8 (by omega) (by decide)
      have hand : bits .and .i64 z 255 = z % 256 := hand
      have hz0 : 0 ≤ z % 256 := by omega
      have hz1 : z % 256 < 256 := by omega
      have hSl := hPW.2.2
      have hset := hs.call (Set_any wr t S (k : Int) 5 ⟨by omega, by omega⟩ (by unfold in64; omega) (by omega))
      generalize hzz : z % 256 = zz at *
      go_wp2_with fail
      refine hset.mono ?_
      rintro e w2 ⟨rfl, hj2, hs⟩
      have hb2 := Below.trans hb (hj2.below (fun _ h => h.1) hb.size)
      have hBy2 := hj2.blk hBy hyP
      have c0 := hBy2.cell k
      rw [wcells_at _ hk40] at c0
      have f0 := hBy2.frozen k
      have e0 : w2.cell? (ad.add k) = some (.int .i64 z) := by
        rw [← e0]
        exact (just_cell hj2 (by rw [block_add]; have := hb.size; omega) (by rw [block_add]; omega))
      have hjy := just_at w2 y k (.int .i64 zz)
      have hBy3 := hBy2.put k (.int .i64 zz)
      rw [wcells_put _ hk40] at hBy3
      have hs3 := hs.past (TimersAt.framed _ _) hjy fun b h1 h2 => h2.2 h1
      have hb3 := Below.trans hb2 (hjy.below (B := w.heap.size) (fun b hb' => by rw [show b = y from hb']; exact hyw) hb2.size)
      have c1 := hBy3.cell k
      rw [wcells_at _ hk40, show updW W k zz k = zz by simp [updW]] at c1
      have hset2 := hs3.call (Set_any _ t _ (k : Int) zz ⟨by omega, by omega⟩ (by unfold in64; omega) (by have := len_setF (5, (k : Int)) S; omega))
      go_wp2_with fail
      refine hset2.mono ?_
      rintro e w4 ⟨rfl, hj4, hs⟩
      have hb4 := Below.trans hb3 (hj4.below (fun _ h => h.1) hb3.size)
      have hBy4 := hj4.blk hBy3 hyP
      have hPW2 := pw_set hPW hz0 (by omega)
      go_wp2_with fail
      go_roundw
      case rel => exact ⟨k + 1, _, _, by omega, by go_num, hPW2, hBy4, hs, hb4⟩
      case measure => simp [intOf]; omega
    · obtain rfl : 40 = k := by omega
      have hk' : decide ((40 : Int) < (40 : Int)) = false := decide_eq_false (by omega)
      rw [show ((40 : Nat) : Int) = (40 : Int) from rfl]
      go_wp2_with fail
      go_loopw [9] (fun i wr => ∃ (j : Nat) (S : List It) (W : Nat → Int), j ≤ n1 ∧ i = .int .i64 (j : Int) ∧ PW 40 W S ∧ Blk wr y 40 (wcells W) ∧ Solo (fun b => w.heap.size ≤ b ∧ b ≠ y) (TimersAt t S) wr ∧ Below w.heap.size w wr) (fun i _ => n1 - (intOf i).toNat)
      case atStart => exact ⟨0, S, W, by omega, rfl, hPW, hBy, hs, hb⟩
      case round =>
        obtain ⟨j, S, W, hjn, rfl, hPW, hBy, hs, hb⟩ := hrel
        by_cases h1 : j < n1
        · have h1' : decide ((j : Int) < (n1 : Int)) = true := decide_eq_true (by omega)
          by_cases h2 : j < 20
          · have h2' : decide ((j : Int) < (20 : Int)) = true := decide_eq_true (by omega)
            by_cases h3 : 0 < 40
            · have h3' : decide ((0 : Int) < (40 : Int)) = true := decide_eq_true (by omega)
              obtain ⟨ad1, u1, hA1, _, hu1, g0⟩ := Reads.at_ (Reads.below hy hb) h1
              subst hA1
              obtain ⟨z1, hz1, rfl⟩ : ∃ z, ys[j]? = some z ∧ u1 = .int .i64 z := by
                rw [List.getElem?_map] at hu1
                obtain ⟨z, hz, he⟩ := Option.map_eq_some_iff.1 hu1
                exact ⟨z, hz, he.symm⟩
              have hz64 := h64y z1 (List.mem_of_getElem? hz1)
              have hwn : IntKind.i64.wrap ((40 : Int) - 1) = (40 : Int) - 1 := by rw [IntKind.wrap_i64]; omega
              go_wp2_with fail
              go_at_call 9
              refine (within_any _ z1 0 _ hz64 (by omega) (by omega) (by omega)).mono ?_
              rintro e w4 ⟨m', hm0, hm1, rfl, rfl⟩
              obtain ⟨m, rfl⟩ := Int.eq_ofNat_of_zero_le hm0
              have hmN : m < 40 := by omega
              have hm40 : m < 40 := by omega
              have hm64 : in64 (m : Int) := ⟨by omega, by omega⟩
              clear hm0 hm1 hwn g0 hu1
              by_cases hwm : 0 ≤ W m
              · skip
                have hhk : hasKey (m : Int) S = true := by rw [pw_has hPW hmN]; exact decide_eq_true hwm
                go_wp2_with fail
                refine wp_region_reg rfl ?_
                refine reg_flow (SoloSt (fun b => w.heap.size ≤ b ∧ b ≠ y) (TimersAt t S) (TimersAt t (noKey (m : Int) S)) 2) (soloSt_ok (TimersAt.framed _ _) (TimersAt.framed _ _)) 0 8 120 [(2, .inl (.bool true))] rfl (by kernel_rfl) (by kernel_rfl) (by kernel_rfl) ?_ (Just.of_grow (Grow.refl _).drew) hs ?_
                · intro x hx φ he
                  simp only [List.mem_cons, List.not_mem_nil, or_false] at hx
                  rcases hx with rfl <;> cases he
                intro ops' A' K' T hops hA' hK hT
                refine fl_mv 62 (by rfl) (by decide) (wanted_none (by rfl)) (by rw [hK.out]; rfl) (by rfl) _ (Or.inl (by rfl)) (.pointer (some ⟨t, 0, none⟩)) (by rfl) ?_
                refine fl_mv 63 (by rfl) (by decide) (wanted_none (by rfl)) (by rw [hK.out]; rfl) (by rfl) _ (Or.inl (by rfl)) (.int .i64 (m : Int)) (by rfl) ?_
                refine fl_call 64 (by rfl) (by decide) (wanted_none (by rfl)) (.bool true) (by rw [hK.out]; rfl) 14 _ _ (by rfl) [.pointer (some ⟨t, 0, none⟩), .int .i64 (m : Int)] (by rfl) k14 (fun kk w1 (hg : Just (fun b => w.heap.size ≤ b ∧ b ≠ y) _ w1) hb hf => calls_turn 0 (by rfl) (by obtain rfl := before_some 0 (by rfl) hb; have hI := hb.1; exact hI.call (stop_val w1 t S (m : Int) hm64 hhk))) ?_
                refine fl_mv 65 (by rfl) (by decide) (wanted_none (by rfl)) (by rw [hK.out]; rfl) (by rfl) _ (Or.inl (by rfl)) (.int .i64 (m : Int)) (by rfl) ?_
                refine fl_op2 66 (by rfl) (by decide) (wanted_none (by rfl)) (by rw [hK.out]; rfl) (by rfl) (.tmp 7) (.tmp 65) (.pointer (some ⟨y, 0, none⟩)) (.int .i64 (m : Int)) (by rfl) (by rfl) (.pointer (some ⟨y, m, none⟩)) (fun ρ h1 h2 kk w1 (hg : Just (fun b => w.heap.size ≤ b ∧ b ≠ y) _ w1) hb hf => by go_simp; try (intro hlt; omega)) ?_
                refine fl_op1 67 (by rfl) (by decide) (wanted_none (by rfl)) (by rw [hK.out]; rfl) (by rfl) (.tmp 66) (.pointer (some ⟨y, m, none⟩)) (by rfl) (.int .i64 (W m)) (fun ρ h1 kk w1 (hg : Just (fun b => w.heap.size ≤ b ∧ b ≠ y) _ w1) hb hf => by have c0 := (hg.blk hBy hyP).cell m; rw [wcells_at _ hm40] at c0; go_simp) ?_
                refine fl_op2 68 (by rfl) (by decide) (wanted_none (by rfl)) (by rw [hK.out]; rfl) (by rfl) (.tmp 67) (.const (.int .i64 0)) (.int .i64 (W m)) (.int .i64 0) (by rfl) (by rfl) (.bool true) (fun ρ h1 h2 kk w1 (hg : Just (fun b => w.heap.size ≤ b ∧ b ≠ y) _ w1) hb hf => by go_simp; try omega) ?_
                refine fl_op2 69 (by rfl) (by decide) (wanted_none (by rfl)) (by rw [hK.out]; rfl) (by rfl) (.tmp 64) (.tmp 68) (.bool true) (.bool true) (by rfl) (by rfl) (.bool false) (fun ρ h1 h2 kk w1 (hg : Just (fun b => w.heap.size ≤ b ∧ b ≠ y) _ w1) hb hf => by go_simp) ?_
                refine fl_end (fun _ _ w1 (hg : Just (fun b => w.heap.size ≤ b ∧ b ≠ y) _ w1) hend hfacts => hT _ _ ?_)
                clear hops hA' hK hT
                simp only [putsL, Act.put, List.setIfInBounds_toArray, List.set_cons_zero, List.set_cons_succ]
                have hs2 : Solo (fun b => w.heap.size ≤ b ∧ b ≠ y) (TimersAt t (noKey (m : Int) S)) w1 := hend
                clear hend hfacts
                have hBy1 := hg.blk hBy hyP
                have hb1 := Below.trans hb (hg.below (fun _ h => h.1) hb.size)
                have c0 := hBy1.cell m
                rw [wcells_at _ hm40] at c0
                have f0 := hBy1.frozen m
                refine reg_end ?_
                go_wp2_with fail
                have hjy := just_at w1 y m (.int .i64 (-1))
                have hBy2 := hBy1.put m (.int .i64 (-1))
                rw [wcells_put _ hm40] at hBy2
                have hs3 := hs2.past (TimersAt.framed _ _) hjy fun b h1 h2 => h2.2 h1
                have hb3 := Below.trans hb1 (hjy.below (B := w.heap.size) (fun b hb' => by rw [show b = y from hb']; exact hyw) hb1.size)
                go_roundw
                case rel => first | exact ⟨j + 1, by omega, by go_num, _, _, pw_stop hPW m, hBy2, hs3, hb3⟩ | exact ⟨j + 1, _, _, by omega, by go_num, pw_stop hPW m, hBy2, hs3, hb3⟩
                case measure => simp [intOf]; omega
              · skip
                have hhk : hasKey (m : Int) S = false := by rw [pw_has hPW hmN]; exact decide_eq_false hwm
                go_wp2_with fail
                refine wp_region_reg rfl ?_
                refine reg_flow (SoloSt (fun b => w.heap.size ≤ b ∧ b ≠ y) (TimersAt t S) (TimersAt t (noKey (m : Int) S)) 2) (soloSt_ok (TimersAt.framed _ _) (TimersAt.framed _ _)) 0 8 120 [(2, .inl (.bool false))] rfl (by kernel_rfl) (by kernel_rfl) (by kernel_rfl) ?_ (Just.of_grow (Grow.refl _).drew) hs ?_
                · intro x hx φ he
                  simp only [List.mem_cons, List.not_mem_nil, or_false] at hx
                  rcases hx with rfl <;> cases he
                intro ops' A' K' T hops hA' hK hT
                refine fl_mv 62 (by rfl) (by decide) (wanted_none (by rfl)) (by rw [hK.out]; rfl) (by rfl) _ (Or.inl (by rfl)) (.pointer (some ⟨t, 0, none⟩)) (by rfl) ?_
                refine fl_mv 63 (by rfl) (by decide) (wanted_none (by rfl)) (by rw [hK.out]; rfl) (by rfl) _ (Or.inl (by rfl)) (.int .i64 (m : Int)) (by rfl) ?_
                refine fl_call 64 (by rfl) (by decide) (wanted_none (by rfl)) (.bool false) (by rw [hK.out]; rfl) 14 _ _ (by rfl) [.pointer (some ⟨t, 0, none⟩), .int .i64 (m : Int)] (by rfl) k14 (fun kk w1 (hg : Just (fun b => w.heap.size ≤ b ∧ b ≠ y) _ w1) hb hf => calls_turn 0 (by rfl) (by obtain rfl := before_some 0 (by rfl) hb; have hI := hb.1; exact hI.call (stop_val w1 t S (m : Int) hm64 hhk))) ?_
                refine fl_mv 65 (by rfl) (by decide) (wanted_none (by rfl)) (by rw [hK.out]; rfl) (by rfl) _ (Or.inl (by rfl)) (.int .i64 (m : Int)) (by rfl) ?_
                refine fl_op2 66 (by rfl) (by decide) (wanted_none (by rfl)) (by rw [hK.out]; rfl) (by rfl) (.tmp 7) (.tmp 65) (.pointer (some ⟨y, 0, none⟩)) (.int .i64 (m : Int)) (by rfl) (by rfl) (.pointer (some ⟨y, m, none⟩)) (fun ρ h1 h2 kk w1 (hg : Just (fun b => w.heap.size ≤ b ∧ b ≠ y) _ w1) hb hf => by go_simp; try (intro hlt; omega)) ?_
                refine fl_op1 67 (by rfl) (by decide) (wanted_none (by rfl)) (by rw [hK.out]; rfl) (by rfl) (.tmp 66) (.pointer (some ⟨y, m, none⟩)) (by rfl) (.int .i64 (W m)) (fun ρ h1 kk w1 (hg : Just (fun b => w.heap.size ≤ b ∧ b ≠ y) _ w1) hb hf => by have c0 := (hg.blk hBy hyP).cell m; rw [wcells_at _ hm40] at c0; go_simp) ?_
                refine fl_op2 68 (by rfl) (by decide) (wanted_none (by rfl)) (by rw [hK.out]; rfl) (by rfl) (.tmp 67) (.const (.int .i64 0)) (.int .i64 (W m)) (.int .i64 0) (by rfl) (by rfl) (.bool false) (fun ρ h1 h2 kk w1 (hg : Just (fun b => w.heap.size ≤ b ∧ b ≠ y) _ w1) hb hf => by go_simp; try omega) ?_
                refine fl_op2 69 (by rfl) (by decide) (wanted_none (by rfl)) (by rw [hK.out]; rfl) (by rfl) (.tmp 64) (.tmp 68) (.bool false) (.bool false) (by rfl) (by rfl) (.bool false) (fun ρ h1 h2 kk w1 (hg : Just (fun b => w.heap.size ≤ b ∧ b ≠ y) _ w1) hb hf => by go_simp) ?_
                refine fl_end (fun _ _ w1 (hg : Just (fun b => w.heap.size ≤ b ∧ b ≠ y) _ w1) hend hfacts => hT _ _ ?_)
                clear hops hA' hK hT
                simp only [putsL, Act.put, List.setIfInBounds_toArray, List.set_cons_zero, List.set_cons_succ]
                have hs2 : Solo (fun b => w.heap.size ≤ b ∧ b ≠ y) (TimersAt t (noKey (m : Int) S)) w1 := hend
                clear hend hfacts
                have hBy1 := hg.blk hBy hyP
                have hb1 := Below.trans hb (hg.below (fun _ h => h.1) hb.size)
                have c0 := hBy1.cell m
                rw [wcells_at _ hm40] at c0
                have f0 := hBy1.frozen m
                refine reg_end ?_
                go_wp2_with fail
                have hjy := just_at w1 y m (.int .i64 (-1))
                have hBy2 := hBy1.put m (.int .i64 (-1))
                rw [wcells_put _ hm40] at hBy2
                have hs3 := hs2.past (TimersAt.framed _ _) hjy fun b h1 h2 => h2.2 h1
                have hb3 := Below.trans hb1 (hjy.below (B := w.heap.size) (fun b hb' => by rw [show b = y from hb']; exact hyw) hb1.size)
                go_roundw
                case rel => first | exact ⟨j + 1, by omega, by go_num, _, _, pw_stop hPW m, hBy2, hs3, hb3⟩ | exact ⟨j + 1, _, _, by omega, by go_num, pw_stop hPW m, hBy2, hs3, hb3⟩
                case measure => simp [intOf]; omega
            · have h3' : decide ((0 : Int) < (40 : Int)) = false := decide_eq_false (by omega)
              exact absurd h3 (by decide)
          · have h2' : decide ((j : Int) < (20 : Int)) = false := decide_eq_false (by omega)
            go_wp2_with fail
            go_loopw [11] (fun i wr => ∃ (d : Nat) (S : List It) (W : Nat → Int), d ≤ 16 ∧ i = .int .i64 ((16 * d : Nat) : Int) ∧ PW 40 W S ∧ Blk wr y 40 (wcells W) ∧ Solo (fun b => w.heap.size ≤ b ∧ b ≠ y) (TimersAt t S) wr ∧ Below w.heap.size w wr) (fun i _ => 256 - (intOf i).toNat)
            case atStart => exact ⟨0, S, W, by omega, rfl, hPW, hBy, hs, hb⟩
            case round =>
              obtain ⟨d, S, W, hdn, rfl, hPW, hBy, hs, hb⟩ := hrel
              have hKS : Keys S := by
                obtain ⟨_, V, hQ, _⟩ := id hs
                exact hQ.facts.1
              by_cases hd : d < 16
              · have hd' : decide (((16 * d : Nat) : Int) < (256 : Int)) = true := decide_eq_true (by omega)
                have hd'' : decide (16 * (d : Int) < (256 : Int)) = true := decide_eq_true (by omega)
                have hdue := due_solo ((16 * d : Nat) : Int) hs
                have hSD := due_late ((16 * d : Nat) : Int) S
                obtain ⟨D, HD⟩ : ∃ D, Hid (due ((16 * d : Nat) : Int) S = D) := ⟨_, rfl⟩
                rw [HD.out] at hdue hSD
                go_wp2_with fail
                refine hdue.mono ?_
                rintro e wd ⟨A, c, rfl, hO, hjd, hs8⟩
                have hByd := hjd.blk hBy hyP
                have hb8 := Below.trans hb (hjd.below (fun _ h => h.1) hb.size)
                have hyl := hBy.lt
                have hDl := own_max hO
                go_wp2_with fail
                go_loopw [80] (fun i wr => ∃ j : Nat, j ≤ D.length ∧ i = .int .i64 (j : Int) ∧ Blk wr y 40 (wcells (clrW W (D.take j))) ∧ Just (fun b => b = y) wd wr) (fun i _ => D.length - (intOf i).toNat)
                case atStart => exact ⟨0, by omega, rfl, by rw [List.take_zero, clr_zero]; exact hByd, Just.of_grow (Grow.refl _)⟩
                case round =>
                  obtain ⟨j, hjn, rfl, hByr, hjr⟩ := hrel
                  by_cases hj : j < D.length
                  · have hj' : decide ((j : Int) < (D.length : Int)) = true := decide_eq_true (by omega)
                    have hOr := hO.keep (w' := wr) fun b hb' => hjr.block b hb'.2 (by have := hb'.1; omega)
                    obtain ⟨g, rfl, _, hgl, hc⟩ := own_item hOr hj
                    obtain ⟨q, hq2, hqn, hWq⟩ := clr_new hSD hPW hKS hj
                    have hpl := due_le (now := ((16 * d : Nat) : Int)) (S := S) (a := hat D j) (by rw [HD.out, hat_get hj]; exact List.getElem_mem hj)
                    have HCN := Lib.hid (clr_next (W := W) hj hq2)
                    simp only [hq2] at hc
                    generalize hat D j = aj at hc hq2 hWq hpl
                    obtain ⟨p, q'⟩ := aj
                    dsimp only at hc hq2 hWq hpl
                    clear hq2
                    have hq40 : q < 40 := by omega
                    have hBx := Blk.made wr 36 #[.int .i64 p, .int .i64 (q : Int)]
                    have hgx : Grow wr (wr.alloc (.cells #[.int .i64 p, .int .i64 (q : Int)] 36)) := (Below.refl _ _).alloc (Nat.le_refl _) _
                    obtain ⟨x, HX⟩ : ∃ x : Nat, Hid (x = wr.heap.size) := ⟨_, rfl⟩
                    obtain ⟨wx, HW⟩ : ∃ wx : World, Hid (wx = wr.alloc (.cells #[.int .i64 p, .int .i64 (q : Int)] 36)) := ⟨_, rfl⟩
                    rw [← HW.out] at hBx hgx
                    rw [← HX.out] at hBx
                    have hByx := hByr.grow hgx
                    have hqN2 : decide ((40 : Int) ≤ (q : Int)) = false := decide_eq_false (by omega)
                    have hqN3 : decide (40 ≤ q) = false := decide_eq_false (by omega)
                    have hqz : decide ((q : Int) < 0) = false := decide_eq_false (by omega)
                    have hpd : decide (((16 * d : Nat) : Int) < p) = false := decide_eq_false (by omega)
                    have hpd2 : decide (16 * (d : Int) < p) = false := decide_eq_false (by omega)
                    go_wp2_with fail
                    rw [← HW.out, ← HX.out]
                    refine wp_region_flow 24 120 [] rfl rfl (by kernel_rfl) (by kernel_rfl) (by kernel_rfl) ?_ ?_
                    · intro x hx φ he
                      cases hx
                    intro ops' A' K' T hops hA' hK hT
                    refine fl_op1 84 (by rfl) (by decide) (wanted_none (by rfl)) (by rw [hK.out]; rfl) (by rfl) (.tmp 13) (.pointer (some ⟨x, 0, none⟩)) (by rfl) (.pointer (some ⟨x, 1, none⟩)) (fun ρ h1 kk w1 (hg : Grow _ w1) hb hf => by go_simp) ?_
                    refine fl_op1 85 (by rfl) (by decide) (wanted_none (by rfl)) (by rw [hK.out]; rfl) (by rfl) (.tmp 84) (.pointer (some ⟨x, 1, none⟩)) (by rfl) (.int .i64 (q : Int)) (fun ρ h1 kk w1 (hg : Grow _ w1) hb hf => by have c0 := (hBx.grow hg).cell 1; go_simp) ?_
                    refine fl_op2 86 (by rfl) (by decide) (wanted_none (by rfl)) (by rw [hK.out]; rfl) (by rfl) (.tmp 85) (.const (.int .i64 0)) (.int .i64 (q : Int)) (.int .i64 0) (by rfl) (by rfl) (.bool false) (fun ρ h1 h2 kk w1 (hg : Grow _ w1) hb hf => by go_simp) ?_
                    refine fl_mv 87 (by rfl) (by decide) (wanted_none (by rfl)) (by rw [hK.out]; rfl) (by rfl) _ (Or.inl (by rfl)) (.bool false) (by rfl) ?_
                    refine fl_op1 88 (by rfl) (by decide) (wanted_if hops 3 false (by rfl) 87 (by rfl) false (by rfl)) (by rw [hK.out]; rfl) (by rfl) (.tmp 13) (.pointer (some ⟨x, 0, none⟩)) (by rfl) (.pointer (some ⟨x, 1, none⟩)) (fun ρ h1 kk w1 (hg : Grow _ w1) hb hf => by go_simp) ?_
                    refine fl_op1 89 (by rfl) (by decide) (wanted_if hops 3 false (by rfl) 87 (by rfl) false (by rfl)) (by rw [hK.out]; rfl) (by rfl) (.tmp 88) (.pointer (some ⟨x, 1, none⟩)) (by rfl) (.int .i64 (q : Int)) (fun ρ h1 kk w1 (hg : Grow _ w1) hb hf => by have c0 := (hBx.grow hg).cell 1; go_simp) ?_
                    refine fl_mv 90 (by rfl) (by decide) (wanted_if hops 3 false (by rfl) 87 (by rfl) false (by rfl)) (by rw [hK.out]; rfl) (by rfl) _ (Or.inl (by rfl)) (.int .i64 40) (by rfl) ?_
                    refine fl_op2 91 (by rfl) (by decide) (wanted_if hops 3 false (by rfl) 87 (by rfl) false (by rfl)) (by rw [hK.out]; rfl) (by rfl) (.tmp 89) (.tmp 90) (.int .i64 (q : Int)) (.int .i64 40) (by rfl) (by rfl) (.bool false) (fun ρ h1 h2 kk w1 (hg : Grow _ w1) hb hf => by go_simp; try omega) ?_
                    refine fl_pick 92 (by rfl) (by decide) (wanted_none (by rfl)) (by rw [hK.out]; rfl) (by rfl) _ _ _ (by rfl) false (by rfl) (.bool false) (by rfl) ?_
                    refine fl_mv 93 (by rfl) (by decide) (wanted_none (by rfl)) (by rw [hK.out]; rfl) (by rfl) _ (Or.inl (by rfl)) (.bool false) (by rfl) ?_
                    refine fl_op1 94 (by rfl) (by decide) (wanted_if hops 9 false (by rfl) 93 (by rfl) false (by rfl)) (by rw [hK.out]; rfl) (by rfl) (.tmp 13) (.pointer (some ⟨x, 0, none⟩)) (by rfl) (.pointer (some ⟨x, 1, none⟩)) (fun ρ h1 kk w1 (hg : Grow _ w1) hb hf => by go_simp) ?_
                    refine fl_op1 95 (by rfl) (by decide) (wanted_if hops 9 false (by rfl) 93 (by rfl) false (by rfl)) (by rw [hK.out]; rfl) (by rfl) (.tmp 94) (.pointer (some ⟨x, 1, none⟩)) (by rfl) (.int .i64 (q : Int)) (fun ρ h1 kk w1 (hg : Grow _ w1) hb hf => by have c0 := (hBx.grow hg).cell 1; go_simp) ?_
                    refine fl_op2 96 (by rfl) (by decide) (wanted_if hops 9 false (by rfl) 93 (by rfl) false (by rfl)) (by rw [hK.out]; rfl) (by rfl) (.tmp 7) (.tmp 95) (.pointer (some ⟨y, 0, none⟩)) (.int .i64 (q : Int)) (by rfl) (by rfl) (.pointer (some ⟨y, q, none⟩)) (fun ρ h1 h2 kk w1 (hg : Grow _ w1) hb hf => by go_simp; try (intro hlt; omega)) ?_
                    refine fl_op1 97 (by rfl) (by decide) (wanted_if hops 9 false (by rfl) 93 (by rfl) false (by rfl)) (by rw [hK.out]; rfl) (by rfl) (.tmp 96) (.pointer (some ⟨y, q, none⟩)) (by rfl) (.int .i64 p) (fun ρ h1 kk w1 (hg : Grow _ w1) hb hf => by have c0 := (hByx.grow hg).cell q; rw [wcells_at _ hq40, hWq] at c0; go_simp) ?_
                    refine fl_op1 98 (by rfl) (by decide) (wanted_if hops 9 false (by rfl) 93 (by rfl) false (by rfl)) (by rw [hK.out]; rfl) (by rfl) (.tmp 13) (.pointer (some ⟨x, 0, none⟩)) (by rfl) (.pointer (some ⟨x, 0, none⟩)) (fun ρ h1 kk w1 (hg : Grow _ w1) hb hf => by go_simp) ?_
                    refine fl_op1 99 (by rfl) (by decide) (wanted_if hops 9 false (by rfl) 93 (by rfl) false (by rfl)) (by rw [hK.out]; rfl) (by rfl) (.tmp 98) (.pointer (some ⟨x, 0, none⟩)) (by rfl) (.int .i64 p) (fun ρ h1 kk w1 (hg : Grow _ w1) hb hf => by have c0 := (hBx.grow hg).cell 0; go_simp) ?_
                    refine fl_op2 100 (by rfl) (by decide) (wanted_if hops 9 false (by rfl) 93 (by rfl) false (by rfl)) (by rw [hK.out]; rfl) (by rfl) (.tmp 97) (.tmp 99) (.int .i64 p) (.int .i64 p) (by rfl) (by rfl) (.bool false) (fun ρ h1 h2 kk w1 (hg : Grow _ w1) hb hf => by go_simp) ?_
                    refine fl_pick 101 (by rfl) (by decide) (wanted_none (by rfl)) (by rw [hK.out]; rfl) (by rfl) _ _ _ (by rfl) false (by rfl) (.bool false) (by rfl) ?_
                    refine fl_mv 102 (by rfl) (by decide) (wanted_none (by rfl)) (by rw [hK.out]; rfl) (by rfl) _ (Or.inl (by rfl)) (.bool false) (by rfl) ?_
                    refine fl_op1 103 (by rfl) (by decide) (wanted_if hops 18 false (by rfl) 102 (by rfl) false (by rfl)) (by rw [hK.out]; rfl) (by rfl) (.tmp 13) (.pointer (some ⟨x, 0, none⟩)) (by rfl) (.pointer (some ⟨x, 0, none⟩)) (fun ρ h1 kk w1 (hg : Grow _ w1) hb hf => by go_simp) ?_
                    refine fl_op1 104 (by rfl) (by decide) (wanted_if hops 18 false (by rfl) 102 (by rfl) false (by rfl)) (by rw [hK.out]; rfl) (by rfl) (.tmp 103) (.pointer (some ⟨x, 0, none⟩)) (by rfl) (.int .i64 p) (fun ρ h1 kk w1 (hg : Grow _ w1) hb hf => by have c0 := (hBx.grow hg).cell 0; go_simp) ?_
                    refine fl_mv 105 (by rfl) (by decide) (wanted_if hops 18 false (by rfl) 102 (by rfl) false (by rfl)) (by rw [hK.out]; rfl) (by rfl) _ (Or.inl (by rfl)) (.int .i64 ((16 * d : Nat) : Int)) (by rfl) ?_
                    refine fl_op2 106 (by rfl) (by decide) (wanted_if hops 18 false (by rfl) 102 (by rfl) false (by rfl)) (by rw [hK.out]; rfl) (by rfl) (.tmp 104) (.tmp 105) (.int .i64 p) (.int .i64 ((16 * d : Nat) : Int)) (by rfl) (by rfl) (.bool false) (fun ρ h1 h2 kk w1 (hg : Grow _ w1) hb hf => by go_simp; try omega) ?_
                    refine fl_pick 107 (by rfl) (by decide) (wanted_none (by rfl)) (by rw [hK.out]; rfl) (by rfl) _ _ _ (by rfl) false (by rfl) (.bool false) (by rfl) ?_
                    refine fl_end (fun _ _ w1 (hg : Grow _ w1) _ hfacts => hT _ _ ?_)
                    clear hops hA' hK hT
                    simp only [putsL, Act.put, List.setIfInBounds_toArray, List.set_cons_zero, List.set_cons_succ, List.drop_succ_cons, List.drop_zero]
                    clear hfacts
                    have hBy1 := hByx.grow hg
                    have hBx1 := hBx.grow hg
                    have c0 := hBy1.cell q
                    rw [wcells_at _ hq40] at c0
                    have f0 := hBy1.frozen q
                    have e1 := hBx1.cell 1
                    go_wp2_with fail
                    have hjy := just_at w1 y q (.int .i64 (-1))
                    have hBy2 := hBy1.put q (.int .i64 (-1))
                    rw [wcells_put _ hq40, HCN.out] at hBy2
                    go_roundw
                    case rel => exact ⟨j + 1, by omega, by go_num, hBy2, (hjr.trans (Just.of_grow (hgx.trans hg))).trans hjy⟩
                    case measure => simp [intOf]; omega
                  · obtain rfl : D.length = j := by omega
                    have hj' : decide ((D.length : Int) < (D.length : Int)) = false := decide_eq_false (by omega)
                    rw [List.take_length] at hByr
                    have hs9 := hs8.past (TimersAt.framed _ _) hjr fun b h1 h2 => h2.2 h1
                    have hb9 := Below.trans hb8 (hjr.below (B := w.heap.size) (fun b hb' => by rw [show b = y from hb']; exact hyw) hb8.size)
                    go_wp2_with fail
                    go_roundw
                    case rel => first | exact ⟨d + 1, by omega, by push_cast; go_num, late ((16 * d : Nat) : Int) S, clrW W D, pw_due hSD hPW hKS, hByr, hs9, hb9⟩ | exact ⟨d + 1, late ((16 * d : Nat) : Int) S, clrW W D, by omega, by push_cast; go_num, pw_due hSD hPW hKS, hByr, hs9, hb9⟩
                    case measure => simp [intOf]; omega
              · obtain rfl : 16 = d := by omega
                have hall := due_all' (now := 255) (S := S) fun a ha => by
                  obtain ⟨q, _, rfl, _⟩ := (hPW.1 a).1 ha
                  exact hPW.2.1 q
                have hdue := due_solo 255 hs
                rw [hall.1, hall.2] at hdue
                go_wp2_with fail
                refine hdue.mono ?_
                rintro e wd ⟨A, c, rfl, hO, hjd, hs8⟩
                have hb8 := Below.trans hb (hjd.below (fun _ h => h.1) hb.size)
                go_wp2_with fail
                refine (tlen_solo hs8).mono ?_
                rintro e w9 ⟨rfl, rfl⟩
                go_wp2_with (go_at_call 8; refine (known_any _).mono ?_; rintro e w7 ⟨rfl, hg7⟩)
                go_ret
                exact ⟨rfl, Below.trans hb8 (hg7.mono hb8.size)⟩
        · have h1' : decide ((j : Int) < (n1 : Int)) = false := decide_eq_false (by omega)
          go_wp2_with fail
          go_loopw [11] (fun i wr => ∃ (d : Nat) (S : List It) (W : Nat → Int), d ≤ 16 ∧ i = .int .i64 ((16 * d : Nat) : Int) ∧ PW 40 W S ∧ Blk wr y 40 (wcells W) ∧ Solo (fun b => w.heap.size ≤ b ∧ b ≠ y) (TimersAt t S) wr ∧ Below w.heap.size w wr) (fun i _ => 256 - (intOf i).toNat)
          case atStart => exact ⟨0, S, W, by omega, rfl, hPW, hBy, hs, hb⟩
          case round =>
            obtain ⟨d, S, W, hdn, rfl, hPW, hBy, hs, hb⟩ := hrel
            have hKS : Keys S := by
              obtain ⟨_, V, hQ, _⟩ := id hs
              exact hQ.facts.1
            by_cases hd : d < 16
            · have hd' : decide (((16 * d : Nat) : Int) < (256 : Int)) = true := decide_eq_true (by omega)
              have hd'' : decide (16 * (d : Int) < (256 : Int)) = true := decide_eq_true (by omega)
              have hdue := due_solo ((16 * d : Nat) : Int) hs
              have hSD := due_late ((16 * d : Nat) : Int) S
              obtain ⟨D, HD⟩ : ∃ D, Hid (due ((16 * d : Nat) : Int) S = D) := ⟨_, rfl⟩
              rw [HD.out] at hdue hSD
              go_wp2_with fail
              refine hdue.mono ?_
              rintro e wd ⟨A, c, rfl, hO, hjd, hs8⟩
              have hByd := hjd.blk hBy hyP
              have hb8 := Below.trans hb (hjd.below (fun _ h => h.1) hb.size)
              have hyl := hBy.lt
              have hDl := own_max hO
              go_wp2_with fail
              go_loopw [80] (fun i wr => ∃ j : Nat, j ≤ D.length ∧ i = .int .i64 (j : Int) ∧ Blk wr y 40 (wcells (clrW W (D.take j))) ∧ Just (fun b => b = y) wd wr) (fun i _ => D.length - (intOf i).toNat)
              case atStart => exact ⟨0, by omega, rfl, by rw [List.take_zero, clr_zero]; exact hByd, Just.of_grow (Grow.refl _)⟩
              case round =>
                obtain ⟨j, hjn, rfl, hByr, hjr⟩ := hrel
                by_cases hj : j < D.length
                · have hj' : decide ((j : Int) < (D.length : Int)) = true := decide_eq_true (by omega)
                  have hOr := hO.keep (w' := wr) fun b hb' => hjr.block b hb'.2 (by have := hb'.1; omega)
                  obtain ⟨g, rfl, _, hgl, hc⟩ := own_item hOr hj
                  obtain ⟨q, hq2, hqn, hWq⟩ := clr_new hSD hPW hKS hj
                  have hpl := due_le (now := ((16 * d : Nat) : Int)) (S := S) (a := hat D j) (by rw [HD.out, hat_get hj]; exact List.getElem_mem hj)
                  have HCN := Lib.hid (clr_next (W := W) hj hq2)
                  simp only [hq2] at hc
                  generalize hat D j = aj at hc hq2 hWq hpl
                  obtain ⟨p, q'⟩ := aj
                  dsimp only at hc hq2 hWq hpl
                  clear hq2
                  have hq40 : q < 40 := by omega
                  have hBx := Blk.made wr 36 #[.int .i64 p, .int .i64 (q : Int)]
                  have hgx : Grow wr (wr.alloc (.cells #[.int .i64 p, .int .i64 (q : Int)] 36)) := (Below.refl _ _).alloc (Nat.le_refl _) _
                  obtain ⟨x, HX⟩ : ∃ x : Nat, Hid (x = wr.heap.size) := ⟨_, rfl⟩
                  obtain ⟨wx, HW⟩ : ∃ wx : World, Hid (wx = wr.alloc (.cells #[.int .i64 p, .int .i64 (q : Int)] 36)) := ⟨_, rfl⟩
                  rw [← HW.out] at hBx hgx
                  rw [← HX.out] at hBx
                  have hByx := hByr.grow hgx
                  have hqN2 : decide ((40 : Int) ≤ (q : Int)) = false := decide_eq_false (by omega)
                  have hqN3 : decide (40 ≤ q) = false := decide_eq_false (by omega)
                  have hqz : decide ((q : Int) < 0) = false := decide_eq_false (by omega)
                  have hpd : decide (((16 * d : Nat) : Int) < p) = false := decide_eq_false (by omega)
                  have hpd2 : decide (16 * (d : Int) < p) = false := decide_eq_false (by omega)
                  go_wp2_with fail
                  rw [← HW.out, ← HX.out]
                  refine wp_region_flow 24 120 [] rfl rfl (by kernel_rfl) (by kernel_rfl) (by kernel_rfl) ?_ ?_
                  · intro x hx φ he
                    cases hx
                  intro ops' A' K' T hops hA' hK hT
                  refine fl_op1 84 (by rfl) (by decide) (wanted_none (by rfl)) (by rw [hK.out]; rfl) (by rfl) (.tmp 13) (.pointer (some ⟨x, 0, none⟩)) (by rfl) (.pointer (some ⟨x, 1, none⟩)) (fun ρ h1 kk w1 (hg : Grow _ w1) hb hf => by go_simp) ?_
                  refine fl_op1 85 (by rfl) (by decide) (wanted_none (by rfl)) (by rw [hK.out]; rfl) (by rfl) (.tmp 84) (.pointer (some ⟨x, 1, none⟩)) (by rfl) (.int .i64 (q : Int)) (fun ρ h1 kk w1 (hg : Grow _ w1) hb hf => by have c0 := (hBx.grow hg).cell 1; go_simp) ?_
                  refine fl_op2 86 (by rfl) (by decide) (wanted_none (by rfl)) (by rw [hK.out]; rfl) (by rfl) (.tmp 85) (.const (.int .i64 0)) (.int .i64 (q : Int)) (.int .i64 0) (by rfl) (by rfl) (.bool false) (fun ρ h1 h2 kk w1 (hg : Grow _ w1) hb hf => by go_simp) ?_
                  refine fl_mv 87 (by rfl) (by decide) (wanted_none (by rfl)) (by rw [hK.out]; rfl) (by rfl) _ (Or.inl (by rfl)) (.bool false) (by rfl) ?_
                  refine fl_op1 88 (by rfl) (by decide) (wanted_if hops 3 false (by rfl) 87 (by rfl) false (by rfl)) (by rw [hK.out]; rfl) (by rfl) (.tmp 13) (.pointer (some ⟨x, 0, none⟩)) (by rfl) (.pointer (some ⟨x, 1, none⟩)) (fun ρ h1 kk w1 (hg : Grow _ w1) hb hf => by go_simp) ?_
                  refine fl_op1 89 (by rfl) (by decide) (wanted_if hops 3 false (by rfl) 87 (by rfl) false (by rfl)) (by rw [hK.out]; rfl) (by rfl) (.tmp 88) (.pointer (some ⟨x, 1, none⟩)) (by rfl) (.int .i64 (q : Int)) (fun ρ h1 kk w1 (hg : Grow _ w1) hb hf => by have c0 := (hBx.grow hg).cell 1; go_simp) ?_
                  refine fl_mv 90 (by rfl) (by decide) (wanted_if hops 3 false (by rfl) 87 (by rfl) false (by rfl)) (by rw [hK.out]; rfl) (by rfl) _ (Or.inl (by rfl)) (.int .i64 40) (by rfl) ?_
                  refine fl_op2 91 (by rfl) (by decide) (wanted_if hops 3 false (by rfl) 87 (by rfl) false (by rfl)) (by rw [hK.out]; rfl) (by rfl) (.tmp 89) (.tmp 90) (.int .i64 (q : Int)) (.int .i64 40) (by rfl) (by rfl) (.bool false) (fun ρ h1 h2 kk w1 (hg : Grow _ w1) hb hf => by go_simp; try omega) ?_
                  refine fl_pick 92 (by rfl) (by decide) (wanted_none (by rfl)) (by rw [hK.out]; rfl) (by rfl) _ _ _ (by rfl) false (by rfl) (.bool false) (by rfl) ?_
                  refine fl_mv 93 (by rfl) (by decide) (wanted_none (by rfl)) (by rw [hK.out]; rfl) (by rfl) _ (Or.inl (by rfl)) (.bool false) (by rfl) ?_
                  refine fl_op1 94 (by rfl) (by decide) (wanted_if hops 9 false (by rfl) 93 (by rfl) false (by rfl)) (by rw [hK.out]; rfl) (by rfl) (.tmp 13) (.pointer (some ⟨x, 0, none⟩)) (by rfl) (.pointer (some ⟨x, 1, none⟩)) (fun ρ h1 kk w1 (hg : Grow _ w1) hb hf => by go_simp) ?_
                  refine fl_op1 95 (by rfl) (by decide) (wanted_if hops 9 false (by rfl) 93 (by rfl) false (by rfl)) (by rw [hK.out]; rfl) (by rfl) (.tmp 94) (.pointer (some ⟨x, 1, none⟩)) (by rfl) (.int .i64 (q : Int)) (fun ρ h1 kk w1 (hg : Grow _ w1) hb hf => by have c0 := (hBx.grow hg).cell 1; go_simp) ?_
                  refine fl_op2 96 (by rfl) (by decide) (wanted_if hops 9 false (by rfl) 93 (by rfl) false (by rfl)) (by rw [hK.out]; rfl) (by rfl) (.tmp 7) (.tmp 95) (.pointer (some ⟨y, 0, none⟩)) (.int .i64 (q : Int)) (by rfl) (by rfl) (.pointer (some ⟨y, q, none⟩)) (fun ρ h1 h2 kk w1 (hg : Grow _ w1) hb hf => by go_simp; try (intro hlt; omega)) ?_
                  refine fl_op1 97 (by rfl) (by decide) (wanted_if hops 9 false (by rfl) 93 (by rfl) false (by rfl)) (by rw [hK.out]; rfl) (by rfl) (.tmp 96) (.pointer (some ⟨y, q, none⟩)) (by rfl) (.int .i64 p) (fun ρ h1 kk w1 (hg : Grow _ w1) hb hf => by have c0 := (hByx.grow hg).cell q; rw [wcells_at _ hq40, hWq] at c0; go_simp) ?_
                  refine fl_op1 98 (by rfl) (by decide) (wanted_if hops 9 false (by rfl) 93 (by rfl) false (by rfl)) (by rw [hK.out]; rfl) (by rfl) (.tmp 13) (.pointer (some ⟨x, 0, none⟩)) (by rfl) (.pointer (some ⟨x, 0, none⟩)) (fun ρ h1 kk w1 (hg : Grow _ w1) hb hf => by go_simp) ?_
                  refine fl_op1 99 (by rfl) (by decide) (wanted_if hops 9 false (by rfl) 93 (by rfl) false (by rfl)) (by rw [hK.out]; rfl) (by rfl) (.tmp 98) (.pointer (some ⟨x, 0, none⟩)) (by rfl) (.int .i64 p) (fun ρ h1 kk w1 (hg : Grow _ w1) hb hf => by have c0 := (hBx.grow hg).cell 0; go_simp) ?_
                  refine fl_op2 100 (by rfl) (by decide) (wanted_if hops 9 false (by rfl) 93 (by rfl) false (by rfl)) (by rw [hK.out]; rfl) (by rfl) (.tmp 97) (.tmp 99) (.int .i64 p) (.int .i64 p) (by rfl) (by rfl) (.bool false) (fun ρ h1 h2 kk w1 (hg : Grow _ w1) hb hf => by go_simp) ?_
                  refine fl_pick 101 (by rfl) (by decide) (wanted_none (by rfl)) (by rw [hK.out]; rfl) (by rfl) _ _ _ (by rfl) false (by rfl) (.bool false) (by rfl) ?_
                  refine fl_mv 102 (by rfl) (by decide) (wanted_none (by rfl)) (by rw [hK.out]; rfl) (by rfl) _ (Or.inl (by rfl)) (.bool false) (by rfl) ?_
                  refine fl_op1 103 (by rfl) (by decide) (wanted_if hops 18 false (by rfl) 102 (by rfl) false (by rfl)) (by rw [hK.out]; rfl) (by rfl) (.tmp 13) (.pointer (some ⟨x, 0, none⟩)) (by rfl) (.pointer (some ⟨x, 0, none⟩)) (fun ρ h1 kk w1 (hg : Grow _ w1) hb hf => by go_simp) ?_
                  refine fl_op1 104 (by rfl) (by decide) (wanted_if hops 18 false (by rfl) 102 (by rfl) false (by rfl)) (by rw [hK.out]; rfl) (by rfl) (.tmp 103) (.pointer (some ⟨x, 0, none⟩)) (by rfl) (.int .i64 p) (fun ρ h1 kk w1 (hg : Grow _ w1) hb hf => by have c0 := (hBx.grow hg).cell 0; go_simp) ?_
                  refine fl_mv 105 (by rfl) (by decide) (wanted_if hops 18 false (by rfl) 102 (by rfl) false (by rfl)) (by rw [hK.out]; rfl) (by rfl) _ (Or.inl (by rfl)) (.int .i64 ((16 * d : Nat) : Int)) (by rfl) ?_
                  refine fl_op2 106 (by rfl) (by decide) (wanted_if hops 18 false (by rfl) 102 (by rfl) false (by rfl)) (by rw [hK.out]; rfl) (by rfl) (.tmp 104) (.tmp 105) (.int .i64 p) (.int .i64 ((16 * d : Nat) : Int)) (by rfl) (by rfl) (.bool false) (fun ρ h1 h2 kk w1 (hg : Grow _ w1) hb hf => by go_simp; try omega) ?_
                  refine fl_pick 107 (by rfl) (by decide) (wanted_none (by rfl)) (by rw [hK.out]; rfl) (by rfl) _ _ _ (by rfl) false (by rfl) (.bool false) (by rfl) ?_
                  refine fl_end (fun _ _ w1 (hg : Grow _ w1) _ hfacts => hT _ _ ?_)
                  clear hops hA' hK hT
                  simp only [putsL, Act.put, List.setIfInBounds_toArray, List.set_cons_zero, List.set_cons_succ, List.drop_succ_cons, List.drop_zero]
                  clear hfacts
                  have hBy1 := hByx.grow hg
                  have hBx1 := hBx.grow hg
                  have c0 := hBy1.cell q
                  rw [wcells_at _ hq40] at c0
                  have f0 := hBy1.frozen q
                  have e1 := hBx1.cell 1
                  go_wp2_with fail
                  have hjy := just_at w1 y q (.int .i64 (-1))
                  have hBy2 := hBy1.put q (.int .i64 (-1))
                  rw [wcells_put _ hq40, HCN.out] at hBy2
                  go_roundw
                  case rel => exact ⟨j + 1, by omega, by go_num, hBy2, (hjr.trans (Just.of_grow (hgx.trans hg))).trans hjy⟩
                  case measure => simp [intOf]; omega
                · obtain rfl : D.length = j := by omega
                  have hj' : decide ((D.length : Int) < (D.length : Int)) = false := decide_eq_false (by omega)
                  rw [List.take_length] at hByr
                  have hs9 := hs8.past (TimersAt.framed _ _) hjr fun b h1 h2 => h2.2 h1
                  have hb9 := Below.trans hb8 (hjr.below (B := w.heap.size) (fun b hb' => by rw [show b = y from hb']; exact hyw) hb8.size)
                  go_wp2_with fail
                  go_roundw
                  case rel => first | exact ⟨d + 1, by omega, by push_cast; go_num, late ((16 * d : Nat) : Int) S, clrW W D, pw_due hSD hPW hKS, hByr, hs9, hb9⟩ | exact ⟨d + 1, late ((16 * d : Nat) : Int) S, clrW W D, by omega, by push_cast; go_num, pw_due hSD hPW hKS, hByr, hs9, hb9⟩
                  case measure => simp [intOf]; omega
            · obtain rfl : 16 = d := by omega
              have hall := due_all' (now := 255) (S := S) fun a ha => by
                obtain ⟨q, _, rfl, _⟩ := (hPW.1 a).1 ha
                exact hPW.2.1 q
              have hdue := due_solo 255 hs
              rw [hall.1, hall.2] at hdue
              go_wp2_with fail
              refine hdue.mono ?_
              rintro e wd ⟨A, c, rfl, hO, hjd, hs8⟩
              have hb8 := Below.trans hb (hjd.below (fun _ h => h.1) hb.size)
              go_wp2_with fail
              refine (tlen_solo hs8).mono ?_
              rintro e w9 ⟨rfl, rfl⟩
              go_wp2_with (go_at_call 8; refine (known_any _).mono ?_; rintro e w7 ⟨rfl, hg7⟩)
              go_ret
              exact ⟨rfl, Below.trans hb8 (hg7.mono hb8.size)⟩
end Go.Proofs.Ytjjafpgpnmdjlaa
