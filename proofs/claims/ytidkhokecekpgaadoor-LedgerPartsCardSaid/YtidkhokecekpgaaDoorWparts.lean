/- LedgerParts: its walk. -/
import Derived.Test.YtidkhokecekpgaaDoorWagain
namespace Go.Proofs.YtidkhokecekpgaaDoor
open Go.RowKit Go.Hop
def fourA : Array Value := #[.string { data := #[97] }, .string { data := #[98] }, .string { data := #[106, 111, 98] }, .string { data := #[110, 111, 110, 101] }]
theorem four_at {k : Nat} (hk : k < 4) : ∃ s : ByteArray, s ∈ fourN ∧ fourA[k]? = some (.string s) := by
  have : ∀ k : Fin 4, ∃ s : ByteArray, s ∈ fourN ∧ fourA[k.val]? = some (.string s) := by
    intro k
    match k with
    | 0 => exact ⟨_, List.mem_of_getElem? (i := 0) rfl, rfl⟩
    | 1 => exact ⟨_, List.mem_of_getElem? (i := 1) rfl, rfl⟩
    | 2 => exact ⟨_, List.mem_of_getElem? (i := 2) rfl, rfl⟩
    | 3 => exact ⟨_, List.mem_of_getElem? (i := 3) rfl, rfl⟩
  exact this ⟨k, hk⟩
theorem lin_one (w : World) (name v : ByteArray) : In (w.alloc (.cells #[.string name, .string v] 36)) (fun b => b = w.heap.size) 2 (some ⟨w.heap.size, 0, none⟩) 1 (lcells [(name, v)]) := in_laid w #[.string name, .string v] 36 rfl
set_option maxRecDepth 100000 in
set_option maxHeartbeats 2000000 in
theorem parts_any (w : World) (A0 : Option Addr) (n0 c0 : Nat) (l0 : List Int) (x1 : Int) (hl0 : Reads w w.heap.size 1 A0 n0 (l0.map (Value.int .i64))) (hx0 : ∀ z ∈ l0, -9223372036854775808 ≤ z ∧ z ≤ 9223372036854775807) (hn0 : n0 ≤ 9223372036854775807) (hx1 : -9223372036854775808 ≤ x1 ∧ x1 ≤ 9223372036854775807) :
    Calls Tryd.prog 3 #[.slice A0 n0 c0, .int .i64 x1] w fun e w' => e = .returned (.bool true) ∧ Grow w w' := by
  have hI0 : In w (fun b => b < w.heap.size) 1 A0 n0 (l0.map (Value.int .i64)) := Reads.in_ hl0 (Nat.le_refl _) fun _ h => h
  have hT0 := tape_made w A0 n0 c0 l0 hI0 hx0 hn0
  have hg0 : Grow w (w.alloc (.cells #[.slice A0 n0 c0, .int .i64 0] 25)) := (Below.refl _ _).alloc (Nat.le_refl _) _
  have hs0 := hg0.size
  go_enter Tryd.func3, Tryd.ntmps3
  go_wp2_with fail
  refine (deltas_any _ _ _ hT0 fun b hb => by omega).mono ?_
  rintro e w2 ⟨v, l, rfl, hO, hfew, hK, hT2, hj2⟩
  obtain ⟨A, c, rfl, hI, hnc, hcm⟩ := hO.in_
  have hg2 : Grow w w2 := Below.trans hg0 (hj2.below (B := w.heap.size) (fun b hb => by omega) hs0)
  have hs2 := hg2.size
  have hs02 := hj2.size
  clear hT0 hI0 hl0
  obtain ⟨n, HN⟩ : ∃ n : Nat, Hid (n = l.length) := ⟨_, Lib.hid rfl⟩
  rw [← HN.out] at hI hO hnc hfew
  rw [show l.length = n from HN.out.symm]
  obtain ⟨V, HVD⟩ : ∃ V : Nat → Prop, Hid (V = New (w.alloc (.cells #[.slice A0 n0 c0, .int .i64 0] 25)) w2) := ⟨_, rfl⟩
  rw [← HVD.out] at hO hI
  have hVb : ∀ b, V b → w.heap.size ≤ b ∧ b < w2.heap.size := fun b hb => by rw [HVD.out] at hb; exact ⟨by have := hb.1; omega, hb.2⟩
  clear HVD hj2 hT2
  go_wp2_with fail
  have hMk0 : Masked l n 0 := ⟨HN.out.symm, fun d hd => ⟨(hK d hd).1, (hK d hd).2.2⟩, fun j hj h => absurd h (by omega)⟩
  have HMK := Lib.hid hMk0
  clear hMk0 hK HN hI
  go_loopw [27] (fun i wr => ∃ (i' : Nat) (q : List Dl), i' ≤ n ∧ i = .int .i64 (i' : Int) ∧ Hid (Masked q n i') ∧ Own wr V 30 2 (.slice A n c) n (dcells q) ∧ Just V w2 wr) (fun i _ => n - (intOf i).toNat)
  case atStart => exact ⟨0, l, by omega, rfl, HMK, hO, Just.of_grow (Grow.refl _)⟩
  case round =>
    clear hO HMK
    obtain ⟨i, q, hin, rfl, HMK, hO, hj⟩ := hrel
    by_cases hi : i < n
    · have hd1 : decide ((i : Int) < (n : Int)) = true := decide_eq_true (by omega)
      have hiq : i < q.length := by rw [HMK.out.len]; exact hi
      obtain ⟨g, c9, hsl, hVg, _, _, _⟩ := own_shape hO (by omega)
      injection hsl with e1 _ e3
      subst e1; subst e3
      obtain ⟨d0, d1, fz0, fz1, _, hput⟩ := del_own hO hiq
      have hst := HMK.out.step hiq
      have hN64 := (HMK.out.all _ (List.getElem_mem hiq)).2
      obtain ⟨hO2, hj2'⟩ := hput (q[i].2 % 16777216)
      have hand := and24u q[i].2 (by unfold M64 at hN64; omega)
      have HST := Lib.hid hst
      clear hput hst HMK
      generalize q.set i (q[i].1, q[i].2 % 16777216) = q9 at hO2 HST
      generalize q[i].2 = xn at d1 hand hO2 hj2'
      have hi' : ¬ n ≤ i := by omega
      go_wp2_with fail
      go_roundw
      case rel => exact ⟨i + 1, q9, by omega, by go_num, HST, hO2, hj.trans hj2'⟩
      case measure => simp [intOf]; omega
    · obtain rfl : i = n := by omega
      have hd1 : decide ((i : Int) < (i : Int)) = false := decide_eq_false (by omega)
      have hLow := HMK.out.low_ hfew
      have hqn := HMK.out.len
      have HQN := Lib.hid hqn
      have hgw3 : Grow w wr := Below.trans hg2 (hj.below (B := w.heap.size) (fun b hb => (hVb b hb).1) (by omega))
      have hsz3 := hj.size
      have hsw3 := hgw3.size
      have hIq := own_in hO
      clear HMK hqn hj
      obtain ⟨w3, rfl⟩ : ∃ w3 : World, w3 = wr := ⟨_, rfl⟩
      have hI' : In w3 (fun b => b < w3.heap.size) 2 A i (dcells q) := hIq.mono fun b hb => by have := (hVb b hb).2; omega
      have hT1 := Total_any w3 _ (fun _ => False) A none i c 0 0 q [] hI' (by omega) hLow.fit In.nil (by omega)
      rw [hLow.tot, hLow.sum_nil] at hT1
      unfold totV at hT1
      dsimp only at hT1
      have hTot := fun w5 (hg : Grow w3 w5) (name v : ByteArray) => Total_any (w5.alloc (.cells #[.string name, .string v] 36)) _ _ A (some ⟨w5.heap.size, 0, none⟩) i c 1 1 q [(name, v)] ((hI'.grow hg).grow ((Below.refl _ _).alloc (Nat.le_refl _) _)) (by omega) hLow.fit (lin_one w5 name v) (by omega)
      have hBy := fun w5 (hg : Grow w3 w5) (name : ByteArray) => By_any w5 _ A i c q (hI'.grow hg) (by omega) hLow.fit name
      have HWH : Hid (∀ r name, ByD r (byM name q) → sumN r = sumN q) := Lib.hid fun r name h => h.whole hLow
      have HPT : Hid (∀ r name, ByD r (byM name q) → name ∈ fourN → ∀ d ∈ r, d.1 ≠ mk [] → sumM [(name, d.1)] q = d.2) := Lib.hid fun r name h hn d hd h0 => h.part hLow hn hd h0
      have HLN : Hid (∀ r name, ByD r (byM name q) → r.length ≤ 1048576) := Lib.hid fun r name h => by
        have h1 := h.perm.length_eq
        have h2 := joinD_len (byM name q) []
        have h3 := byM_len name q
        have h4 := hLow.few
        unfold joinD at h1
        simp at h2
        omega
      have HTS : Hid (∀ L, totG L q 0 = some (sumM L q)) := Lib.hid fun L => hLow.tot L
      have hTop := fun w5 (hg : Grow w3 w5) (z : Int) (hz : -9223372036854775808 ≤ z ∧ z ≤ 9223372036854775807) => Top_any w5 _ A i c q (hI'.grow hg) (by omega) z hz
      have hsm : sumN q ≤ M64 := by have := hLow.sum; unfold M64; omega
      obtain ⟨sm, HSM⟩ : ∃ sm : Nat, Hid (sm = sumN q) := ⟨_, Lib.hid rfl⟩
      rw [← HSM.out] at hT1 hsm
      clear hIq hO hLow
      go_wp2_with fail
      refine hT1.mono ?_
      rintro e w4 ⟨rfl, hg4⟩
      clear hT1
      have hgt : Grow w4 (w4.alloc (.cells fourA 9)) := (Below.refl _ _).alloc (Nat.le_refl _) _
      have hBt : Blk (w4.alloc (.cells fourA 9)) w4.heap.size 9 fourA := Blk.made w4 _ _
      go_wp2_with fail
      have e1 : w4.alloc (.cells #[.string { data := #[97] }, .string { data := #[98] }, .string { data := #[106, 111, 98] }, .string { data := #[110, 111, 110, 101] }] 9) = w4.alloc (.cells fourA 9) := rfl
      rw [e1]
      clear e1
      generalize (w4.alloc (.cells fourA 9)) = w5 at hgt hBt
      have hg35 := hg4.trans hgt
      clear hgt
      go_loopw [48] (fun i wr => ∃ k : Nat, k ≤ 4 ∧ i = .int .i64 (k : Int) ∧ Grow w5 wr) (fun i _ => 4 - (intOf i).toNat)
      case atStart => exact ⟨0, by omega, rfl, Grow.refl _⟩
      case round =>
        obtain ⟨a, ha4, rfl, hgr⟩ := hrel
        obtain ⟨wo, rfl⟩ : ∃ wo : World, wo = wr := ⟨_, rfl⟩
        by_cases ha : a < 4
        · have hd1 : decide ((a : Int) < 4) = true := decide_eq_true (by omega)
          have ha' : ¬ 4 ≤ a := by omega
          obtain ⟨name, hnm, hcn⟩ := four_at ha
          have c0 := ((hBt.grow hgr).cell a).trans hcn
          have hB1 := hBy wo (hg35.trans hgr) name
          go_wp2_with fail
          refine hB1.mono ?_
          rintro e w6 ⟨A6, r, rfl, hr, hI6, hg6⟩
          clear hB1 c0
          have hwh := HWH.out r name hr
          rw [← HSM.out] at hwh
          have HRS := Lib.hid hwh
          have hpt := HPT.out r name hr hnm
          have HP2 := Lib.hid hpt
          obtain ⟨m, HM⟩ : ∃ m : Nat, Hid (m = r.length) := ⟨_, Lib.hid rfl⟩
          rw [← HM.out] at hI6
          have hmb : m ≤ 1048576 := by rw [HM.out]; exact HLN.out r name hr
          rw [show r.length = m from HM.out.symm]
          clear hwh hpt hr
          go_wp2_with fail
          go_loopw [12, 56] (fun o i wr => ∃ j : Nat, j ≤ m ∧ o = .int .u64 (sumN (r.take j) : Int) ∧ i = .int .i64 (j : Int) ∧ Grow w6 wr) (fun _ i _ => m - (intOf i).toNat)
          case atStart => exact ⟨0, by omega, rfl, rfl, Grow.refl _⟩
          case round =>
            obtain ⟨j, hjm, rfl, rfl, hgz⟩ := hrel
            obtain ⟨wz, rfl⟩ : ∃ wz : World, wz = wr := ⟨_, rfl⟩
            by_cases hj : j < m
            · have hd2 : decide ((j : Int) < (m : Int)) = true := decide_eq_true (by omega)
              have hj' : ¬ m ≤ j := by omega
              obtain ⟨ad, hq, rfl, f0, f1⟩ := del_at (hI6.grow hgz) hj
              have e0 := f0 wz (Grow.refl _)
              have e1 := f1 wz (Grow.refl _)
              have hst := sum_take hq
              have hsl := sum_take_le r (j + 1)
              rw [HRS.out] at hsl
              have hp2 := HP2.out _ (List.getElem_mem hq)
              generalize r[j] = d at e0 e1 hst hp2
              have HST := Lib.hid hst
              have HPD := Lib.hid hp2
              rw [hst] at hsl
              generalize sumN (r.take j) = sj at hsl HST ⊢
              clear f0 f1 hst hp2
              have hadd : IntKind.u64.wrap ((sj : Int) + (d.2 : Int)) = ((sj + d.2 : Nat) : Int) := by unfold M64 at *; rw [IntKind.wrap_u64]; omega
              obtain ⟨p, HPP⟩ : ∃ p : Nat, Hid (p = wz.heap.size) := ⟨_, rfl⟩
              obtain ⟨wp, HWP⟩ : ∃ wp : World, Hid (wp = wz.alloc (.cells #[.string d.1, .int .u64 (d.2 : Int)] 30)) := ⟨_, rfl⟩
              have hgp : Grow wz wp := by rw [HWP.out]; exact (Below.refl _ _).alloc (Nat.le_refl _) _
              have hBp : Blk wp p 30 #[.string d.1, .int .u64 (d.2 : Int)] := by rw [HWP.out, HPP.out]; exact Blk.made wz _ _
              have hT9 := hTot wp ((hg35.trans hgr).trans ((hg6.trans hgz).trans hgp)) name d.1
              rw [HTS.out] at hT9
              unfold totV at hT9
              dsimp only at hT9
              obtain ⟨sx, HSX⟩ : ∃ sx : Nat, Hid (sx = sumM [(name, d.1)] q) := ⟨_, Lib.hid rfl⟩
              rw [← HSX.out] at hT9
              obtain ⟨pl, HPL⟩ : ∃ pl : Nat, Hid (pl = wp.heap.size) := ⟨_, rfl⟩
              have hpl : pl = wz.heap.size + 1 := by rw [HPL.out, HWP.out]; simp
              rw [← HPL.out] at hT9
              obtain ⟨wl, HWL⟩ : ∃ wl : World, Hid (wl = wp.alloc (.cells #[.string name, .string d.1] 36)) := ⟨_, rfl⟩
              have hgl : Grow wp wl := by rw [HWL.out]; exact (Below.refl _ _).alloc (Nat.le_refl _) _
              rw [← HWL.out] at hT9
              have hBl := hBp.grow hgl
              have cl0 := hBl.cell 0
              have cl1 := hBl.cell 1
              go_wp2_with fail
              rw [← HWP.out, ← HWL.out, ← hpl, ← HPP.out]
              clear e0 e1 hpl
              refine hT9.mono ?_
              rintro e w8 ⟨rfl, hg8⟩
              clear hT9
              have hB8 := hBl.grow hg8
              have cd0 := hB8.cell 0
              have cd1 := hB8.cell 1
              have hgall : Grow w6 w8 := ((hgz.trans hgp).trans hgl).trans hg8
              by_cases hv : d.1 = mk []
              · have hvl : d.1.toList = [] := by rw [hv, Lib.toList_data]; rfl
                have hve : (d.1.toList == ([] : List UInt8)) = true := by rw [hvl]; rfl
                clear hv
                go_wp2_with fail
                go_roundw
                case rel => exact ⟨j + 1, by omega, by rw [HST.out, Int.natCast_add], by go_num, hgall⟩
                case measure => simp [intOf]; omega
              · have heq : sx = d.2 := by rw [HSX.out]; exact HPD.out hv
                have hvl : ¬ d.1.toList = [] := fun e => hv (txt_eq.1 (by rw [e, Lib.toList_data]; rfl))
                have hve : (d.1.toList == ([] : List UInt8)) = false := beq_eq_false_iff_ne.2 hvl
                clear HSX HPD hv
                subst heq
                go_wp2_with fail
                go_roundw
                case rel => exact ⟨j + 1, by omega, by rw [HST.out, Int.natCast_add], by go_num, hgall⟩
                case measure => simp [intOf]; omega
            · obtain rfl : j = m := by omega
              have hd2 : decide ((j : Int) < (j : Int)) = false := decide_eq_false (by omega)
              rw [List.take_of_length_le (by have := HM.out; omega), HRS.out]
              go_wp2_with fail
              go_roundw
              case rel => exact ⟨a + 1, by omega, by go_num, (hgr.trans hg6).trans hgz⟩
              case measure => simp [intOf]; omega
        · obtain rfl : a = 4 := by omega
          have hd1 : decide (((4 : Nat) : Int) < 4) = false := by decide
          have hg3o := hg35.trans hgr
          clear hBy hTot HWH HPT HTS hBt hgr hg35
          go_wp2_with fail
          refine (within_nat wo x1 0 20 hx1 (by omega) (by omega) (by omega)).mono ?_
          rintro e w' ⟨k, _, hk20, rfl, rfl⟩
          have hTp := hTop wo hg3o (k : Int) (by omega)
          have hmk : topN (k : Int) i = min k i := by unfold topN; omega
          rw [hmk] at hTp
          clear hTop hmk
          obtain ⟨m, HMK⟩ : ∃ m : Nat, Hid (m = min k i) := ⟨_, Lib.hid rfl⟩
          rw [← HMK.out] at hTp
          have hm20 : m ≤ 20 := by rw [HMK.out]; omega
          have hmn : ∀ ts t w, (Builtin.min_ ts t #[.int .i64 (k : Int), .int .i64 (i : Int)]).run Tryd.prog w = .ok (.int .i64 (m : Int)) w := fun ts t w => by rw [run_min_int2, HMK.out]; congr 2; split <;> omega
          go_wp2_with fail
          refine hTp.mono ?_
          rintro e w6 ⟨A9, r, rfl, hr, hI9, hg6⟩
          clear hTp
          have HFALL : Hid (∀ x y, y < r.length → x < y → r[y]!.2 ≤ r[x]!.2) := Lib.hid fun x y hy hxy => by
            rw [getElem!_pos r y hy, getElem!_pos r x (by omega)]
            exact hr.falls hy hxy
          have hrl : m ≤ r.length := by
            have h1 := hI9.1
            rw [dcells_len, List.length_take] at h1
            omega
          clear hr
          have hg36 := hg3o.trans hg6
          go_wp2_with fail
          go_loopw [99] (fun i wr => ∃ y : Nat, y ≤ m ∧ i = .int .i64 (y : Int) ∧ Grow w6 wr) (fun i _ => m - (intOf i).toNat)
          case atStart => exact ⟨0, by omega, rfl, Grow.refl _⟩
          case round =>
            obtain ⟨y, hym, rfl, hgz⟩ := hrel
            by_cases hy : y < m
            · have hd2 : decide ((y : Int) < (m : Int)) = true := decide_eq_true (by omega)
              have hy' : ¬ m ≤ y := by omega
              have hI9r := hI9.grow hgz
              obtain ⟨a9, hq1, rfl, _, hp⟩ := del_at hI9r hy
              by_cases hy0 : y = 0
              · have hd3 : decide ((0 : Int) < (y : Int)) = false := decide_eq_false (by omega)
                have hd4 : ¬ 0 < y := by omega
                clear hy0 hp
                go_wp2_with fail
                refine wp_region_flow 16 132 [] rfl rfl (by kernel_rfl) (by kernel_rfl) (by kernel_rfl) ?_ ?_
                · intro x hx φ he
                  cases hx
                intro ops' A' K' T hops hA' hK hT
                refine fl_mv 102 (by rfl) (by decide) (wanted_none (by rfl)) (by rw [hK.out]; rfl) (by rfl) _ (Or.inl (by rfl)) (.int .i64 (y : Int)) (by rfl) ?_
                refine fl_op2 103 (by rfl) (by decide) (wanted_none (by rfl)) (by rw [hK.out]; rfl) (by rfl) (.tmp 102) (.const (.int .i64 0)) (.int .i64 (y : Int)) (.int .i64 0) (by rfl) (by rfl) (.bool false) (fun ρ h1 h2 kk w1 (hg : Grow _ w1) hb hf => by go_simp) ?_
                refine fl_mv 104 (by rfl) (by decide) (wanted_none (by rfl)) (by rw [hK.out]; rfl) (by rfl) _ (Or.inl (by rfl)) (.bool false) (by rfl) ?_
                refine fl_skip 105 (by rfl) (by decide) (wanted_if hops 2 true (by rfl) 104 (by rfl) false (by rfl)) (by rfl) ?_
                refine fl_skip 106 (by rfl) (by decide) (wanted_if hops 2 true (by rfl) 104 (by rfl) false (by rfl)) (by rfl) ?_
                refine fl_skip 107 (by rfl) (by decide) (wanted_if hops 2 true (by rfl) 104 (by rfl) false (by rfl)) (by rfl) ?_
                refine fl_skip 108 (by rfl) (by decide) (wanted_if hops 2 true (by rfl) 104 (by rfl) false (by rfl)) (by rfl) ?_
                refine fl_skip 109 (by rfl) (by decide) (wanted_if hops 2 true (by rfl) 104 (by rfl) false (by rfl)) (by rfl) ?_
                refine fl_skip 110 (by rfl) (by decide) (wanted_if hops 2 true (by rfl) 104 (by rfl) false (by rfl)) (by rfl) ?_
                refine fl_skip 111 (by rfl) (by decide) (wanted_if hops 2 true (by rfl) 104 (by rfl) false (by rfl)) (by rfl) ?_
                refine fl_skip 112 (by rfl) (by decide) (wanted_if hops 2 true (by rfl) 104 (by rfl) false (by rfl)) (by rfl) ?_
                refine fl_skip 113 (by rfl) (by decide) (wanted_if hops 2 true (by rfl) 104 (by rfl) false (by rfl)) (by rfl) ?_
                refine fl_skip 114 (by rfl) (by decide) (wanted_if hops 2 true (by rfl) 104 (by rfl) false (by rfl)) (by rfl) ?_
                refine fl_skip 115 (by rfl) (by decide) (wanted_if hops 2 true (by rfl) 104 (by rfl) false (by rfl)) (by rfl) ?_
                refine fl_skip 116 (by rfl) (by decide) (wanted_if hops 2 true (by rfl) 104 (by rfl) false (by rfl)) (by rfl) ?_
                refine fl_pick 117 (by rfl) (by decide) (wanted_none (by rfl)) (by rw [hK.out]; rfl) (by rfl) _ _ _ (by rfl) false (by rfl) (.bool false) (by rfl) ?_
                refine fl_end (fun _ _ w1 (hg : Grow _ w1) _ hfacts => hT _ _ ?_)
                clear hops hA' hK hT
                simp only [putsL, Act.put, List.setIfInBounds_toArray, List.set_cons_zero, List.set_cons_succ, List.drop_succ_cons, List.drop_zero]
                clear hfacts
                go_wp2_with fail
                go_roundw
                case rel => exact ⟨y + 1, by omega, by go_num, hgz.trans hg⟩
                case measure => simp [intOf]; omega
              · have hd3 : decide ((0 : Int) < (y : Int)) = true := decide_eq_true (by omega)
                have hd4 : 0 < y := by omega
                obtain ⟨j, HJ⟩ : ∃ j : Nat, Hid (y = j + 1) := ⟨y - 1, Lib.hid (by omega)⟩
                have hjm : j < m := by have := HJ.out; omega
                have hij : (y : Int) - 1 = (j : Int) := by have := HJ.out; omega
                have hwj : IntKind.i64.wrap (j : Int) = (j : Int) := by rw [IntKind.wrap_i64]; omega
                have hjneg : ¬ (j : Int) < 0 := by omega
                have hjn' : ¬ m ≤ j := by omega
                obtain ⟨b9, hq2, e9, _, hq⟩ := del_at hI9r hjm
                injection e9 with e9
                subst e9
                have hfl := HFALL.out j y (by omega) (by have := HJ.out; omega)
                rw [getElem!_pos r y (by omega), getElem!_pos r j (by omega)] at hfl
                simp only [List.getElem_take] at hp hq
                generalize r[y].2 = u at hp hfl
                generalize r[j].2 = v at hq hfl
                have hdl : decide (v < u) = false := decide_eq_false (by omega)
                clear hy0 hI9r
                go_wp2_with fail
                refine wp_region_flow 16 132 [] rfl rfl (by kernel_rfl) (by kernel_rfl) (by kernel_rfl) ?_ ?_
                · intro x hx φ he
                  cases hx
                intro ops' A' K' T hops hA' hK hT
                refine fl_mv 102 (by rfl) (by decide) (wanted_none (by rfl)) (by rw [hK.out]; rfl) (by rfl) _ (Or.inl (by rfl)) (.int .i64 (y : Int)) (by rfl) ?_
                refine fl_op2 103 (by rfl) (by decide) (wanted_none (by rfl)) (by rw [hK.out]; rfl) (by rfl) (.tmp 102) (.const (.int .i64 0)) (.int .i64 (y : Int)) (.int .i64 0) (by rfl) (by rfl) (.bool true) (fun ρ h1 h2 kk w1 (hg : Grow _ w1) hb hf => by go_simp) ?_
                refine fl_mv 104 (by rfl) (by decide) (wanted_none (by rfl)) (by rw [hK.out]; rfl) (by rfl) _ (Or.inl (by rfl)) (.bool true) (by rfl) ?_
                refine fl_mv 105 (by rfl) (by decide) (wanted_if hops 2 true (by rfl) 104 (by rfl) true (by rfl)) (by rw [hK.out]; rfl) (by rfl) _ (Or.inl (by rfl)) (.slice (some a9) m m) (by rfl) ?_
                refine fl_mv 106 (by rfl) (by decide) (wanted_if hops 2 true (by rfl) 104 (by rfl) true (by rfl)) (by rw [hK.out]; rfl) (by rfl) _ (Or.inl (by rfl)) (.int .i64 (y : Int)) (by rfl) ?_
                refine fl_op2 107 (by rfl) (by decide) (wanted_if hops 2 true (by rfl) 104 (by rfl) true (by rfl)) (by rw [hK.out]; rfl) (by rfl) (.tmp 105) (.tmp 106) (.slice (some a9) m m) (.int .i64 (y : Int)) (by rfl) (by rfl) (.pointer (some (a9.add (y * 2)))) (fun ρ h1 h2 kk w1 (hg : Grow _ w1) hb hf => by go_simp; try (intro hlt; omega)) ?_
                refine fl_op1 108 (by rfl) (by decide) (wanted_if hops 2 true (by rfl) 104 (by rfl) true (by rfl)) (by rw [hK.out]; rfl) (by rfl) (.tmp 107) (.pointer (some (a9.add (y * 2)))) (by rfl) (.pointer (some ⟨(a9.add (y * 2)).block, (a9.add (y * 2)).off + 1, none⟩)) (fun ρ h1 kk w1 (hg : Grow _ w1) hb hf => by go_simp) ?_
                refine fl_op1 109 (by rfl) (by decide) (wanted_if hops 2 true (by rfl) 104 (by rfl) true (by rfl)) (by rw [hK.out]; rfl) (by rfl) (.tmp 108) (.pointer (some ⟨(a9.add (y * 2)).block, (a9.add (y * 2)).off + 1, none⟩)) (by rfl) (.int .u64 (u : Int)) (fun ρ h1 kk w1 (hg : Grow _ w1) hb hf => by have c := hp w1 hg; go_simp) ?_
                refine fl_mv 110 (by rfl) (by decide) (wanted_if hops 2 true (by rfl) 104 (by rfl) true (by rfl)) (by rw [hK.out]; rfl) (by rfl) _ (Or.inl (by rfl)) (.slice (some a9) m m) (by rfl) ?_
                refine fl_mv 111 (by rfl) (by decide) (wanted_if hops 2 true (by rfl) 104 (by rfl) true (by rfl)) (by rw [hK.out]; rfl) (by rfl) _ (Or.inl (by rfl)) (.int .i64 (y : Int)) (by rfl) ?_
                refine fl_op2 112 (by rfl) (by decide) (wanted_if hops 2 true (by rfl) 104 (by rfl) true (by rfl)) (by rw [hK.out]; rfl) (by rfl) (.tmp 111) (.const (.int .i64 1)) (.int .i64 (y : Int)) (.int .i64 1) (by rfl) (by rfl) (.int .i64 (j : Int)) (fun ρ h1 h2 kk w1 (hg : Grow _ w1) hb hf => by go_simp) ?_
                refine fl_op2 113 (by rfl) (by decide) (wanted_if hops 2 true (by rfl) 104 (by rfl) true (by rfl)) (by rw [hK.out]; rfl) (by rfl) (.tmp 110) (.tmp 112) (.slice (some a9) m m) (.int .i64 (j : Int)) (by rfl) (by rfl) (.pointer (some (a9.add (j * 2)))) (fun ρ h1 h2 kk w1 (hg : Grow _ w1) hb hf => by go_simp; try (intro hlt; omega)) ?_
                refine fl_op1 114 (by rfl) (by decide) (wanted_if hops 2 true (by rfl) 104 (by rfl) true (by rfl)) (by rw [hK.out]; rfl) (by rfl) (.tmp 113) (.pointer (some (a9.add (j * 2)))) (by rfl) (.pointer (some ⟨(a9.add (j * 2)).block, (a9.add (j * 2)).off + 1, none⟩)) (fun ρ h1 kk w1 (hg : Grow _ w1) hb hf => by go_simp) ?_
                refine fl_op1 115 (by rfl) (by decide) (wanted_if hops 2 true (by rfl) 104 (by rfl) true (by rfl)) (by rw [hK.out]; rfl) (by rfl) (.tmp 114) (.pointer (some ⟨(a9.add (j * 2)).block, (a9.add (j * 2)).off + 1, none⟩)) (by rfl) (.int .u64 (v : Int)) (fun ρ h1 kk w1 (hg : Grow _ w1) hb hf => by have c := hq w1 hg; go_simp) ?_
                refine fl_op2 116 (by rfl) (by decide) (wanted_if hops 2 true (by rfl) 104 (by rfl) true (by rfl)) (by rw [hK.out]; rfl) (by rfl) (.tmp 109) (.tmp 115) (.int .u64 (u : Int)) (.int .u64 (v : Int)) (by rfl) (by rfl) (.bool false) (fun ρ h1 h2 kk w1 (hg : Grow _ w1) hb hf => by go_simp) ?_
                refine fl_pick 117 (by rfl) (by decide) (wanted_none (by rfl)) (by rw [hK.out]; rfl) (by rfl) _ _ _ (by rfl) true (by rfl) (.bool false) (by rfl) ?_
                refine fl_end (fun _ _ w1 (hg : Grow _ w1) _ hfacts => hT _ _ ?_)
                clear hops hA' hK hT
                simp only [putsL, Act.put, List.setIfInBounds_toArray, List.set_cons_zero, List.set_cons_succ, List.drop_succ_cons, List.drop_zero]
                clear hfacts
                go_wp2_with fail
                go_roundw
                case rel => exact ⟨y + 1, by omega, by go_num, hgz.trans hg⟩
                case measure => simp [intOf]; omega
            · obtain rfl : y = m := by omega
              have hd2 : decide ((y : Int) < (y : Int)) = false := decide_eq_false (by omega)
              go_wp2_with fail
              refine (known_any wr).mono ?_
              rintro e w9 ⟨rfl, hg9⟩
              go_wp2_with fail
              go_ret
              exact ⟨rfl, below_trans hgw3 ((hg36.trans hgz).trans hg9) hsw3⟩
end Go.Proofs.YtidkhokecekpgaaDoor
