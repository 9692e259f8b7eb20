/- LedgerAgain: its walk. -/
import Derived.Test.YtidkhokecekpgaaDoorGpart
namespace Go.Proofs.YtidkhokecekpgaaDoor
open Go.RowKit Go.Hop
theorem own_in {w : World} {V : Nat → Prop} {e : TypeId} {size n c : Nat} {A : Option Addr} {xs : List Value} (h : Own w V e size (.slice A n c) n xs) : In w V size A n xs := by
  obtain ⟨A', c', e1, hI, _⟩ := Own.in_ h
  injection e1 with e1 e2 e3
  subst e1
  exact hI
set_option maxRecDepth 100000 in
set_option maxHeartbeats 2000000 in
theorem again_any (w : World) (A0 : Option Addr) (n0 c0 : Nat) (l0 : List Int) (x1 : Int) (hl0 : Reads w w.heap.size 1 A0 n0 (l0.map (Value.int .i64))) (hx0 : ∀ z ∈ l0, -9223372036854775808 ≤ z ∧ z ≤ 9223372036854775807) (hn0 : n0 ≤ 9223372036854775807) :
    Calls Tryd.prog 5 #[.slice A0 n0 c0, .int .i64 x1] w fun e w' => e = .returned (.bool true) ∧ Grow w w' := by
  have hI0 : In w (fun b => b < w.heap.size) 1 A0 n0 (l0.map (Value.int .i64)) := Reads.in_ hl0 (Nat.le_refl _) fun _ h => h
  have hT0 := tape_made w A0 n0 c0 l0 hI0 hx0 hn0
  have hg0 : Grow w (w.alloc (.cells #[.slice A0 n0 c0, .int .i64 0] 25)) := (Below.refl _ _).alloc (Nat.le_refl _) _
  have hs0 := hg0.size
  go_enter Tryd.func5, Tryd.ntmps5
  go_wp2_with fail
  refine (deltas_any _ _ _ hT0 fun b hb => by omega).mono ?_
  rintro e w2 ⟨v, l, rfl, hO, hfew, hK, hT2, hj2⟩
  obtain ⟨A, c, rfl, hI, hnc, hcm⟩ := hO.in_
  have hg2 : Grow w w2 := Below.trans hg0 (hj2.below (B := w.heap.size) (fun b hb => by omega) hs0)
  have hs2 := hg2.size
  have hs02 := hj2.size
  clear hT0 hI0 hl0
  obtain ⟨n, HN⟩ : ∃ n : Nat, Hid (n = l.length) := ⟨_, Lib.hid rfl⟩
  rw [← HN.out] at hI hO hnc hfew
  rw [show l.length = n from HN.out.symm]
  obtain ⟨V, HVD⟩ : ∃ V : Nat → Prop, Hid (V = New (w.alloc (.cells #[.slice A0 n0 c0, .int .i64 0] 25)) w2) := ⟨_, rfl⟩
  rw [← HVD.out] at hO hI
  have hVb : ∀ b, V b → w.heap.size ≤ b ∧ b < w2.heap.size := fun b hb => by rw [HVD.out] at hb; exact ⟨by have := hb.1; omega, hb.2⟩
  clear HVD hj2 hT2
  have hkk : ∃ k : Nat, k ≤ n ∧ (n = 0 → k = 0) ∧ (0 < n → (wrap64 (x1.tmod n + n)).tmod n = (k : Int)) := by
    by_cases h0 : 0 < n
    · obtain ⟨k, hkn, hq1, hq2, hk⟩ := kin x1 h0
      refine ⟨k, by omega, fun h => by omega, fun _ => ?_⟩
      rw [show wrap64 (x1.tmod n + n) = x1.tmod n + n by unfold wrap64; omega]
      exact hk
    · exact ⟨0, by omega, fun _ => rfl, fun h => absurd h h0⟩
  obtain ⟨k, hkn, hk0, hk1⟩ := hkk
  have key : ∀ (u19 u20 : Value), True := fun _ _ => trivial
  clear key
  by_cases h0 : 0 < n
  · have hd0 : decide ((0 : Int) < (n : Int)) = true := decide_eq_true (by omega)
    have hn1 : ¬ (n : Int) = 0 := by omega
    have hk' := hk1 h0
    clear hk0 hk1
    go_wp2_with fail
    have hMk0 : Masked l n 0 := ⟨HN.out.symm, fun d hd => ⟨(hK d hd).1, (hK d hd).2.2⟩, fun j hj h => absurd h (by omega)⟩
    have HMK := Lib.hid hMk0
    clear hMk0 hK HN hI
    go_loopw [34] (fun i wr => ∃ (i' : Nat) (q : List Dl), i' ≤ n ∧ i = .int .i64 (i' : Int) ∧ Hid (Masked q n i') ∧ Own wr V 30 2 (.slice A n c) n (dcells q) ∧ Just V w2 wr) (fun i _ => n - (intOf i).toNat)
    case atStart => exact ⟨0, l, by omega, rfl, HMK, hO, Just.of_grow (Grow.refl _)⟩
    case round =>
      clear hO HMK
      obtain ⟨i, q, hin, rfl, HMK, hO, hj⟩ := hrel
      by_cases hi : i < n
      · have hd1 : decide ((i : Int) < (n : Int)) = true := decide_eq_true (by omega)
        have hiq : i < q.length := by rw [HMK.out.len]; exact hi
        obtain ⟨g, c9, hsl, hVg, _, _, _⟩ := own_shape hO (by omega)
        injection hsl with e1 _ e3
        subst e1; subst e3
        obtain ⟨d0, d1, fz0, fz1, _, hput⟩ := del_own hO hiq
        have hst := HMK.out.step hiq
        have hN64 := (HMK.out.all _ (List.getElem_mem hiq)).2
        obtain ⟨hO2, hj2'⟩ := hput (q[i].2 % 16777216)
        have hand := and24u q[i].2 (by unfold M64 at hN64; omega)
        have HST := Lib.hid hst
        clear hput hst HMK
        generalize q.set i (q[i].1, q[i].2 % 16777216) = q9 at hO2 HST
        generalize q[i].2 = xn at d1 hand hO2 hj2'
        have hi' : ¬ n ≤ i := by omega
        go_wp2_with fail
        go_roundw
        case rel => exact ⟨i + 1, q9, by omega, by go_num, HST, hO2, hj.trans hj2'⟩
        case measure => simp [intOf]; omega
      · obtain rfl : i = n := by omega
        have hd1 : decide ((i : Int) < (i : Int)) = false := decide_eq_false (by omega)
        have hLow := HMK.out.low_ hfew
        have hqn := HMK.out.len
        have HQN := Lib.hid hqn
        have hgw3 : Grow w wr := Below.trans hg2 (hj.below (B := w.heap.size) (fun b hb => (hVb b hb).1) (by omega))
        have hsz3 := hj.size
        have hsw3 := hgw3.size
        have hIq := own_in hO
        clear HMK hqn hj
        obtain ⟨w3, rfl⟩ : ∃ w3 : World, w3 = wr := ⟨_, rfl⟩
        obtain ⟨B, HBd⟩ : ∃ B : Nat, Hid (B = w3.heap.size) := ⟨_, rfl⟩
        have HB : ∀ w1, Just (FromB B) w3 w1 → B ≤ w1.heap.size := fun w1 h => HBd.out ▸ h.size
        have hDB : ∀ b, b < w3.heap.size → ¬ FromB B b := fun b hb h => by have h2 : B ≤ b := h; have := HBd.out; omega
        have hI' : In w3 (fun b => b < w3.heap.size) 2 A i (dcells q) := hIq.mono fun b hb => by have := (hVb b hb).2; omega
        obtain ⟨A2, HA2⟩ : ∃ A2 : Option Addr, Hid (A2 = if c = k then A else A.map (·.add (k * 2))) := ⟨_, rfl⟩
        have hIb : ∀ w1, Just (FromB B) w3 w1 → Reads w1 w1.heap.size 2 A k ((dcells q).take (k * 2)) := fun w1 hj => ((hI'.just hj hDB).take (by omega)).reads
        have hIc : ∀ w1, Just (FromB B) w3 w1 → Reads w1 w1.heap.size 2 A2 (i - k) ((dcells q).drop (k * 2)) := fun w1 hj => by
          have := (hI'.just hj hDB).reads.cut (k := k) (by omega) hnc
          rwa [← HA2.out] at this
        have hone := dcells_one q
        have hone1 : ∀ u ∈ (dcells q).take (k * 2), u.oneCell' = true := fun u hu => hone u (List.mem_of_mem_take hu)
        have hone2 : ∀ u ∈ (dcells q).drop (k * 2), u.oneCell' = true := fun u hu => hone u (List.mem_of_mem_drop hu)
        have hck : ¬ c < k := by omega
        have hck1 : ¬ i < k := by omega
        have hck2 : ¬ c < i := by omega
        go_wp2_with fail
        refine wp_region_reg rfl ?_
        refine reg_flow (OneStL B 8 [(4, 0)]) (oneStL_ok B 8 _) 0 10 86 [(0, .inr (KF 0 (EmptyF B 30 2))), (4, .inr (KF 0 (OwnF B 30 2 (i - k) ((dcells q).drop (k * 2))))), (8, .inr (KF 1 (OwnF B 30 2 (i - k + k) ((dcells q).drop (k * 2) ++ (dcells q).take (k * 2)))))] rfl (by kernel_rfl) (by kernel_rfl) (by kernel_rfl) ?_ (Just.of_grow (Grow.refl _).drew) trivial ?_
        · intro x hx φ he
          simp only [List.mem_cons, List.not_mem_nil, or_false] at hx
          rcases hx with rfl | rfl | rfl <;> cases he
          all_goals first | exact lasts_quiet (lasting_bytes _) | exact kf_lasts (ownF_lasting _ _ _ _ _) _ | exact kf_lasts (emptyF_lasting _ _ _) _ | exact kf_lasts (readF_lasting _ _ _) _
        intro ops' A' K' T hops hA' hK hT
        refine fl_any 48 (by rfl) (by decide) (wanted_none (by rfl)) (KF 0 (EmptyF B 30 2)) (by rw [hK.out]; rfl) (fun kk w1 (hg : Just (FromB B) _ w1) hb hf => by refine upon_behindAny (φ := KF 0 (EmptyF B 30 2)) (by rfl) ?_; exact upon_imp (empty_made deltaE (HB w1 hg) rfl) fun u w2 h => ⟨h.1, early_of h.2⟩) (fun v48 => ?_)
        refine fl_mv 49 (by rfl) (by decide) (wanted_none (by rfl)) (by rw [hK.out]; rfl) (by rfl) _ (Or.inl (by rfl)) (.slice A i c) (by rfl) ?_
        refine fl_mv 50 (by rfl) (by decide) (wanted_none (by rfl)) (by rw [hK.out]; rfl) (by rfl) _ (Or.inl (by rfl)) (.int .i64 (k : Int)) (by rfl) ?_
        refine fl_op2 51 (by rfl) (by decide) (wanted_none (by rfl)) (by rw [hK.out]; rfl) (by rfl) (.tmp 49) (.tmp 50) (.slice A i c) (.int .i64 (k : Int)) (by rfl) (by rfl) (.slice A2 (i - k) (c - k)) (fun ρ h1 h2 kk w1 (hg : Just (FromB B) _ w1) hb hf => by have hA := HA2.out; go_simp) ?_
        refine fl_any2 52 (by rfl) (by decide) (wanted_none (by rfl)) (KF 0 (OwnF B 30 2 (i - k) ((dcells q).drop (k * 2)))) (by rw [hK.out]; rfl) (.tmp 48) (.tmp 51) (v48) (.slice A2 (i - k) (c - k)) (by rfl) (by rfl) (fun ρ h1 h2 kk w1 (hg : Just (FromB B) _ w1) hb hf => by obtain rfl := before_some 0 (by rfl) hb; have hI := hb.1; refine upon_behindAny (φ := KF 0 (OwnF B 30 2 (i - k) ((dcells q).drop (k * 2)))) (by rfl) ?_; have q1 := (facts_take hf (by rw [hA'.out]; kernel_rfl)); have hu : EmptyF B 30 2 v48 w1 := q1; exact upon_imp (empty_app deltaE hu h1 h2 (hIc w1 hg) hone2 (by omega) (HB w1 hg) rfl) fun u w2 h => ⟨h.1, early_of h.2⟩) (fun v52 => ?_)
        refine fl_mv 53 (by rfl) (by decide) (wanted_none (by rfl)) (by rw [hK.out]; rfl) (by rfl) _ (Or.inl (by rfl)) (.slice A i c) (by rfl) ?_
        refine fl_mv 54 (by rfl) (by decide) (wanted_none (by rfl)) (by rw [hK.out]; rfl) (by rfl) _ (Or.inl (by rfl)) (.int .i64 (k : Int)) (by rfl) ?_
        refine fl_op2 55 (by rfl) (by decide) (wanted_none (by rfl)) (by rw [hK.out]; rfl) (by rfl) (.tmp 53) (.tmp 54) (.slice A i c) (.int .i64 (k : Int)) (by rfl) (by rfl) (.slice A k c) (fun ρ h1 h2 kk w1 (hg : Just (FromB B) _ w1) hb hf => by go_simp) ?_
        refine fl_any2 56 (by rfl) (by decide) (wanted_none (by rfl)) (KF 1 (OwnF B 30 2 (i - k + k) ((dcells q).drop (k * 2) ++ (dcells q).take (k * 2)))) (by rw [hK.out]; rfl) (.tmp 52) (.tmp 55) (v52) (.slice A k c) (by rfl) (by rfl) (fun ρ h1 h2 kk w1 (hg : Just (FromB B) _ w1) hb hf => by obtain rfl := before_some 0 (by rfl) hb; have hI := hb.1; refine upon_turnAny (φ := KF 1 (OwnF B 30 2 (i - k + k) ((dcells q).drop (k * 2) ++ (dcells q).take (k * 2)))) 0 (by rfl) ?_; have q1 := (facts_take hf (by rw [hA'.out]; kernel_rfl)); have hu : OwnF B 30 2 (i - k) ((dcells q).drop (k * 2)) v52 w1 := q1; exact two_app deltaE hu h1 h2 (hIb w1 hg) hone1 (by omega) (HB w1 hg) rfl) (fun v56 => ?_)
        refine fl_mv 9 (by rfl) (by decide) (wanted_none (by rfl)) (by rw [hK.out]; rfl) (by rfl) _ (Or.inr (by rfl)) (v56) (by rfl) ?_
        refine fl_end (fun _ _ w1 (hg : Just (FromB B) _ w1) hend hfacts => hT _ _ ?_)
        clear hops hA' hK hT
        simp only [putsL, Act.put, List.setIfInBounds_toArray, List.set_cons_zero, List.set_cons_succ]
        have hF : OwnF B 30 2 (i - k + k) ((dcells q).drop (k * 2) ++ (dcells q).take (k * 2)) v56 w1 := hfacts.1
        clear hend hfacts
        have hnk : i - k + k = i := by omega
        rw [hnk] at hF
        obtain ⟨w4, rfl⟩ : ∃ w4 : World, w4 = w1 := ⟨_, rfl⟩
        have hg4 : Grow w3 w4 := hg.below (B := w3.heap.size) (fun b hb => by have h2 : B ≤ b := hb; have := HBd.out; omega) (Nat.le_refl _)
        obtain ⟨A6, c6, rfl, hI6, hnc6, hcm6⟩ := Own.in_ hF
        have hperm : q.Perm (q.drop k ++ q.take k) := ((List.perm_append_comm (l₁ := q.drop k)).trans (by rw [List.take_append_drop])).symm
        have hcs : dcells (q.drop k ++ q.take k) = (dcells q).drop (k * 2) ++ (dcells q).take (k * 2) := by
          unfold dcells
          rw [List.flatMap_append, flat_take dcell 2 dcell_len, flat_drop dcell 2 dcell_len]
        rw [← hcs] at hI6
        have hI4 := hI'.grow hg4
        have hLm := hLow.perm hperm
        generalize q.drop k ++ q.take k = m at hI6 hperm hLm
        have hT1 := Total_any w4 _ (fun _ => False) A none i c 0 0 q [] hI4 (by omega) hLow.fit In.nil (by omega)
        have hT2 := fun w5 (hg : Grow w4 w5) => Total_any w5 _ (fun _ => False) A6 none i c6 0 0 m [] (hI6.grow hg) (by omega) hLm.fit In.nil (by omega)
        rw [hLow.tot, hLow.sum_nil] at hT1
        rw [hLm.tot, hLm.sum_nil, ← sumN_perm hperm] at hT2
        unfold totV at hT1 hT2
        dsimp only at hT1 hT2
        have hB1 := fun w5 (hg : Grow w4 w5) => By_any w5 _ A i c q (hI4.grow hg) (by omega) hLow.fit { data := #[97] }
        have hB2 := fun w5 (hg : Grow w4 w5) => By_any w5 _ A6 i c6 m (hI6.grow hg) (by omega) hLm.fit { data := #[97] }
        have hbs : sumN (byM { data := #[97] } q) ≤ M64 := by rw [hLow.by_sum]; have := hLow.sum; unfold M64; omega
        have hbp := byM_perm (name := { data := #[97] }) hperm
        have hone9 : ∀ r r', ByD r (byM { data := #[97] } q) → ByD r' (byM { data := #[97] } m) → r = r' := fun r r' h h' => h.one h' hbp hbs
        have hlen9 : ∀ r, ByD r (byM { data := #[97] } q) → r.length ≤ 1048576 := fun r h => by
          have h1 := h.perm.length_eq
          have h2 := joinD_len (byM { data := #[97] } q) []
          have h3 := byM_len { data := #[97] } q
          have h4 := hLow.few
          unfold joinD at h1
          simp at h2
          omega
        generalize sumN q = sm at hT1 hT2
        have hgw4 := below_trans hgw3 hg4 hsw3
        have hsw4 := hgw4.size
        clear hg HB hDB hI' hIb hIc hone hone1 hone2 hIq hI4 hI6 hF hcs hgw3 hg4 hbs hbp hLow hLm hperm hO
        refine reg_end ?_
        go_wp2_with fail
        refine hT1.mono ?_
        rintro e w5 ⟨rfl, hg5⟩
        clear hT1
        go_wp2_with fail
        refine (hT2 w5 hg5).mono ?_
        rintro e w6 ⟨rfl, hg6⟩
        clear hT2
        have hg46 := hg5.trans hg6
        clear hg5 hg6
        go_wp2_with fail
        refine (hB1 w6 hg46).mono ?_
        rintro e w7 ⟨A7, r7, rfl, hr7, hI7, hg7⟩
        clear hB1
        have hg47 := hg46.trans hg7
        go_wp2_with fail
        refine (hB2 w7 hg47).mono ?_
        rintro e w8 ⟨A8, r8, rfl, hr8, hI8, hg8⟩
        clear hB2
        have hg48 := hg47.trans hg8
        have hl9 := hlen9 r7 hr7
        have he := hone9 r7 r8 hr7 hr8
        subst he
        have hSd := SameDeltas_any w8 A7 A8 r7.length r7.length r7.length r7 _ _ (hI7.grow hg8) hI8 hl9
        clear hI7 hI8 hr7 hr8 hone9 hlen9 hg46 hg7 hg47 hg8
        go_wp2_with fail
        refine hSd.mono ?_
        rintro e w9 ⟨rfl, hg9⟩
        clear hSd
        go_wp2_with fail
        refine (known_any w9).mono ?_
        rintro e w10 ⟨rfl, hg10⟩
        go_wp2_with fail
        go_ret
        exact ⟨rfl, below_trans hgw4 ((hg48.trans hg9).trans hg10) hsw4⟩
  · have hd0 : decide ((0 : Int) < (n : Int)) = false := decide_eq_false (by omega)
    obtain rfl : k = 0 := hk0 (by omega)
    clear hk0 hk1
    go_wp2_with fail
    have hMk0 : Masked l n 0 := ⟨HN.out.symm, fun d hd => ⟨(hK d hd).1, (hK d hd).2.2⟩, fun j hj h => absurd h (by omega)⟩
    have HMK := Lib.hid hMk0
    clear hMk0 hK HN hI
    go_loopw [34] (fun i wr => ∃ (i' : Nat) (q : List Dl), i' ≤ n ∧ i = .int .i64 (i' : Int) ∧ Hid (Masked q n i') ∧ Own wr V 30 2 (.slice A n c) n (dcells q) ∧ Just V w2 wr) (fun i _ => n - (intOf i).toNat)
    case atStart => exact ⟨0, l, by omega, rfl, HMK, hO, Just.of_grow (Grow.refl _)⟩
    case round =>
      clear hO HMK
      obtain ⟨i, q, hin, rfl, HMK, hO, hj⟩ := hrel
      by_cases hi : i < n
      · exact absurd hi (by omega)
      · obtain rfl : i = n := by omega
        have hd1 : decide ((i : Int) < (i : Int)) = false := decide_eq_false (by omega)
        have hLow := HMK.out.low_ hfew
        have hqn := HMK.out.len
        have HQN := Lib.hid hqn
        have hgw3 : Grow w wr := Below.trans hg2 (hj.below (B := w.heap.size) (fun b hb => (hVb b hb).1) (by omega))
        have hsz3 := hj.size
        have hsw3 := hgw3.size
        have hIq := own_in hO
        clear HMK hqn hj
        obtain ⟨w3, rfl⟩ : ∃ w3 : World, w3 = wr := ⟨_, rfl⟩
        obtain ⟨B, HBd⟩ : ∃ B : Nat, Hid (B = w3.heap.size) := ⟨_, rfl⟩
        have HB : ∀ w1, Just (FromB B) w3 w1 → B ≤ w1.heap.size := fun w1 h => HBd.out ▸ h.size
        have hDB : ∀ b, b < w3.heap.size → ¬ FromB B b := fun b hb h => by have h2 : B ≤ b := h; have := HBd.out; omega
        have hI' : In w3 (fun b => b < w3.heap.size) 2 A i (dcells q) := hIq.mono fun b hb => by have := (hVb b hb).2; omega
        obtain ⟨A2, HA2⟩ : ∃ A2 : Option Addr, Hid (A2 = if c = 0 then A else A.map (·.add (0 * 2))) := ⟨_, rfl⟩
        have hIb : ∀ w1, Just (FromB B) w3 w1 → Reads w1 w1.heap.size 2 A 0 ((dcells q).take (0 * 2)) := fun w1 hj => ((hI'.just hj hDB).take (by omega)).reads
        have hIc : ∀ w1, Just (FromB B) w3 w1 → Reads w1 w1.heap.size 2 A2 (i - 0) ((dcells q).drop (0 * 2)) := fun w1 hj => by
          have := (hI'.just hj hDB).reads.cut (k := 0) (by omega) hnc
          rwa [← HA2.out] at this
        have hone := dcells_one q
        have hone1 : ∀ u ∈ (dcells q).take (0 * 2), u.oneCell' = true := fun u hu => hone u (List.mem_of_mem_take hu)
        have hone2 : ∀ u ∈ (dcells q).drop (0 * 2), u.oneCell' = true := fun u hu => hone u (List.mem_of_mem_drop hu)
        have hck : ¬ c < 0 := by omega
        have hck1 : ¬ i < 0 := by omega
        have hck2 : ¬ c < i := by omega
        go_wp2_with fail
        refine wp_region_reg rfl ?_
        refine reg_flow (OneStL B 8 [(4, 0)]) (oneStL_ok B 8 _) 0 10 86 [(0, .inr (KF 0 (EmptyF B 30 2))), (4, .inr (KF 0 (OwnF B 30 2 (i - 0) ((dcells q).drop (0 * 2))))), (8, .inr (KF 1 (OwnF B 30 2 (i - 0 + 0) ((dcells q).drop (0 * 2) ++ (dcells q).take (0 * 2)))))] rfl (by kernel_rfl) (by kernel_rfl) (by kernel_rfl) ?_ (Just.of_grow (Grow.refl _).drew) trivial ?_
        · intro x hx φ he
          simp only [List.mem_cons, List.not_mem_nil, or_false] at hx
          rcases hx with rfl | rfl | rfl <;> cases he
          all_goals first | exact lasts_quiet (lasting_bytes _) | exact kf_lasts (ownF_lasting _ _ _ _ _) _ | exact kf_lasts (emptyF_lasting _ _ _) _ | exact kf_lasts (readF_lasting _ _ _) _
        intro ops' A' K' T hops hA' hK hT
        refine fl_any 48 (by rfl) (by decide) (wanted_none (by rfl)) (KF 0 (EmptyF B 30 2)) (by rw [hK.out]; rfl) (fun kk w1 (hg : Just (FromB B) _ w1) hb hf => by refine upon_behindAny (φ := KF 0 (EmptyF B 30 2)) (by rfl) ?_; exact upon_imp (empty_made deltaE (HB w1 hg) rfl) fun u w2 h => ⟨h.1, early_of h.2⟩) (fun v48 => ?_)
        refine fl_mv 49 (by rfl) (by decide) (wanted_none (by rfl)) (by rw [hK.out]; rfl) (by rfl) _ (Or.inl (by rfl)) (.slice A i c) (by rfl) ?_
        refine fl_mv 50 (by rfl) (by decide) (wanted_none (by rfl)) (by rw [hK.out]; rfl) (by rfl) _ (Or.inl (by rfl)) (.int .i64 0) (by rfl) ?_
        refine fl_op2 51 (by rfl) (by decide) (wanted_none (by rfl)) (by rw [hK.out]; rfl) (by rfl) (.tmp 49) (.tmp 50) (.slice A i c) (.int .i64 0) (by rfl) (by rfl) (.slice A2 (i - 0) (c - 0)) (fun ρ h1 h2 kk w1 (hg : Just (FromB B) _ w1) hb hf => by have hA := HA2.out; go_simp) ?_
        refine fl_any2 52 (by rfl) (by decide) (wanted_none (by rfl)) (KF 0 (OwnF B 30 2 (i - 0) ((dcells q).drop (0 * 2)))) (by rw [hK.out]; rfl) (.tmp 48) (.tmp 51) (v48) (.slice A2 (i - 0) (c - 0)) (by rfl) (by rfl) (fun ρ h1 h2 kk w1 (hg : Just (FromB B) _ w1) hb hf => by obtain rfl := before_some 0 (by rfl) hb; have hI := hb.1; refine upon_behindAny (φ := KF 0 (OwnF B 30 2 (i - 0) ((dcells q).drop (0 * 2)))) (by rfl) ?_; have q1 := (facts_take hf (by rw [hA'.out]; kernel_rfl)); have hu : EmptyF B 30 2 v48 w1 := q1; exact upon_imp (empty_app deltaE hu h1 h2 (hIc w1 hg) hone2 (by omega) (HB w1 hg) rfl) fun u w2 h => ⟨h.1, early_of h.2⟩) (fun v52 => ?_)
        refine fl_mv 53 (by rfl) (by decide) (wanted_none (by rfl)) (by rw [hK.out]; rfl) (by rfl) _ (Or.inl (by rfl)) (.slice A i c) (by rfl) ?_
        refine fl_mv 54 (by rfl) (by decide) (wanted_none (by rfl)) (by rw [hK.out]; rfl) (by rfl) _ (Or.inl (by rfl)) (.int .i64 0) (by rfl) ?_
        refine fl_op2 55 (by rfl) (by decide) (wanted_none (by rfl)) (by rw [hK.out]; rfl) (by rfl) (.tmp 53) (.tmp 54) (.slice A i c) (.int .i64 0) (by rfl) (by rfl) (.slice A 0 c) (fun ρ h1 h2 kk w1 (hg : Just (FromB B) _ w1) hb hf => by go_simp) ?_
        refine fl_any2 56 (by rfl) (by decide) (wanted_none (by rfl)) (KF 1 (OwnF B 30 2 (i - 0 + 0) ((dcells q).drop (0 * 2) ++ (dcells q).take (0 * 2)))) (by rw [hK.out]; rfl) (.tmp 52) (.tmp 55) (v52) (.slice A 0 c) (by rfl) (by rfl) (fun ρ h1 h2 kk w1 (hg : Just (FromB B) _ w1) hb hf => by obtain rfl := before_some 0 (by rfl) hb; have hI := hb.1; refine upon_turnAny (φ := KF 1 (OwnF B 30 2 (i - 0 + 0) ((dcells q).drop (0 * 2) ++ (dcells q).take (0 * 2)))) 0 (by rfl) ?_; have q1 := (facts_take hf (by rw [hA'.out]; kernel_rfl)); have hu : OwnF B 30 2 (i - 0) ((dcells q).drop (0 * 2)) v52 w1 := q1; exact two_app deltaE hu h1 h2 (hIb w1 hg) hone1 (by omega) (HB w1 hg) rfl) (fun v56 => ?_)
        refine fl_mv 9 (by rfl) (by decide) (wanted_none (by rfl)) (by rw [hK.out]; rfl) (by rfl) _ (Or.inr (by rfl)) (v56) (by rfl) ?_
        refine fl_end (fun _ _ w1 (hg : Just (FromB B) _ w1) hend hfacts => hT _ _ ?_)
        clear hops hA' hK hT
        simp only [putsL, Act.put, List.setIfInBounds_toArray, List.set_cons_zero, List.set_cons_succ]
        have hF : OwnF B 30 2 (i - 0 + 0) ((dcells q).drop (0 * 2) ++ (dcells q).take (0 * 2)) v56 w1 := hfacts.1
        clear hend hfacts
        have hnk : i - 0 + 0 = i := by omega
        rw [hnk] at hF
        obtain ⟨w4, rfl⟩ : ∃ w4 : World, w4 = w1 := ⟨_, rfl⟩
        have hg4 : Grow w3 w4 := hg.below (B := w3.heap.size) (fun b hb => by have h2 : B ≤ b := hb; have := HBd.out; omega) (Nat.le_refl _)
        obtain ⟨A6, c6, rfl, hI6, hnc6, hcm6⟩ := Own.in_ hF
        have hperm : q.Perm (q.drop 0 ++ q.take 0) := ((List.perm_append_comm (l₁ := q.drop 0)).trans (by rw [List.take_append_drop])).symm
        have hcs : dcells (q.drop 0 ++ q.take 0) = (dcells q).drop (0 * 2) ++ (dcells q).take (0 * 2) := by
          unfold dcells
          rw [List.flatMap_append, flat_take dcell 2 dcell_len, flat_drop dcell 2 dcell_len]
        rw [← hcs] at hI6
        have hI4 := hI'.grow hg4
        have hLm := hLow.perm hperm
        generalize q.drop 0 ++ q.take 0 = m at hI6 hperm hLm
        have hT1 := Total_any w4 _ (fun _ => False) A none i c 0 0 q [] hI4 (by omega) hLow.fit In.nil (by omega)
        have hT2 := fun w5 (hg : Grow w4 w5) => Total_any w5 _ (fun _ => False) A6 none i c6 0 0 m [] (hI6.grow hg) (by omega) hLm.fit In.nil (by omega)
        rw [hLow.tot, hLow.sum_nil] at hT1
        rw [hLm.tot, hLm.sum_nil, ← sumN_perm hperm] at hT2
        unfold totV at hT1 hT2
        dsimp only at hT1 hT2
        have hB1 := fun w5 (hg : Grow w4 w5) => By_any w5 _ A i c q (hI4.grow hg) (by omega) hLow.fit { data := #[97] }
        have hB2 := fun w5 (hg : Grow w4 w5) => By_any w5 _ A6 i c6 m (hI6.grow hg) (by omega) hLm.fit { data := #[97] }
        have hbs : sumN (byM { data := #[97] } q) ≤ M64 := by rw [hLow.by_sum]; have := hLow.sum; unfold M64; omega
        have hbp := byM_perm (name := { data := #[97] }) hperm
        have hone9 : ∀ r r', ByD r (byM { data := #[97] } q) → ByD r' (byM { data := #[97] } m) → r = r' := fun r r' h h' => h.one h' hbp hbs
        have hlen9 : ∀ r, ByD r (byM { data := #[97] } q) → r.length ≤ 1048576 := fun r h => by
          have h1 := h.perm.length_eq
          have h2 := joinD_len (byM { data := #[97] } q) []
          have h3 := byM_len { data := #[97] } q
          have h4 := hLow.few
          unfold joinD at h1
          simp at h2
          omega
        generalize sumN q = sm at hT1 hT2
        have hgw4 := below_trans hgw3 hg4 hsw3
        have hsw4 := hgw4.size
        clear hg HB hDB hI' hIb hIc hone hone1 hone2 hIq hI4 hI6 hF hcs hgw3 hg4 hbs hbp hLow hLm hperm hO
        refine reg_end ?_
        go_wp2_with fail
        refine hT1.mono ?_
        rintro e w5 ⟨rfl, hg5⟩
        clear hT1
        go_wp2_with fail
        refine (hT2 w5 hg5).mono ?_
        rintro e w6 ⟨rfl, hg6⟩
        clear hT2
        have hg46 := hg5.trans hg6
        clear hg5 hg6
        go_wp2_with fail
        refine (hB1 w6 hg46).mono ?_
        rintro e w7 ⟨A7, r7, rfl, hr7, hI7, hg7⟩
        clear hB1
        have hg47 := hg46.trans hg7
        go_wp2_with fail
        refine (hB2 w7 hg47).mono ?_
        rintro e w8 ⟨A8, r8, rfl, hr8, hI8, hg8⟩
        clear hB2
        have hg48 := hg47.trans hg8
        have hl9 := hlen9 r7 hr7
        have he := hone9 r7 r8 hr7 hr8
        subst he
        have hSd := SameDeltas_any w8 A7 A8 r7.length r7.length r7.length r7 _ _ (hI7.grow hg8) hI8 hl9
        clear hI7 hI8 hr7 hr8 hone9 hlen9 hg46 hg7 hg47 hg8
        go_wp2_with fail
        refine hSd.mono ?_
        rintro e w9 ⟨rfl, hg9⟩
        clear hSd
        go_wp2_with fail
        refine (known_any w9).mono ?_
        rintro e w10 ⟨rfl, hg10⟩
        go_wp2_with fail
        go_ret
        exact ⟨rfl, below_trans hgw4 ((hg48.trans hg9).trans hg10) hsw4⟩
end Go.Proofs.YtidkhokecekpgaaDoor
