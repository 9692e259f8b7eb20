/- The answer's Right: its walk. -/
import Derived.Test.YthkkfdnechmddaaDoorLright
import Derived.Test.YthkkfdnechmddaaDoorLrname
namespace Go.Proofs.YthkkfdnechmddaaDoor
open Go.RowKit Go.Hop
set_option maxRecDepth 20000 in
set_option maxHeartbeats 1000000 in
theorem rRight_any (w : World) (V : Nat → Prop) (A : Option Addr) (n c : Nat) (l : List Lb) (h : In w V 2 A n (lcells l)) (hl : ∀ d ∈ l, d.1.size ≤ maxLen ∧ d.2.size ≤ maxLen) (hn : n ≤ 9223372036854775807) :
    Calls Tryd.prog 20 #[.slice A n c] w fun e w' => e = .returned (.int .i64 (rightE l)) ∧ Grow w w' := by
  have hll := LIn.len h
  by_cases h8 : 8 < n
  · have hd : decide ((8 : Int) < (n : Int)) = true := decide_eq_true (by omega)
    rw [right_long (by omega)]
    clear h
    go_enter Tryd.func20, Tryd.ntmps20
    go_wp2_with fail
    go_ret
    exact ⟨rfl, Grow.refl _⟩
  have hd : decide ((8 : Int) < (n : Int)) = false := decide_eq_false (by omega)
  have hl8 : l.length ≤ 8 := by omega
  obtain ⟨R, HR⟩ : ∃ R : Int, Hid (R = rightE l) := ⟨_, rfl⟩
  rw [← HR.out]
  have HLL := Lib.hid hll
  clear hll
  go_enter Tryd.func20, Tryd.ntmps20
  go_wp2_with fail
  go_loopw [10] (fun i wr => ∃ k : Nat, k ≤ n ∧ i = .int .i64 (k : Int) ∧ (∀ j (hj : j < l.length), j < k → okL l[j] = true) ∧ (∀ i j (hi : i < l.length) (hj : j < l.length), i < j → j < k → l[i].1 ≠ l[j].1) ∧ Grow w wr) (fun i _ => n - (intOf i).toNat)
  case atStart => exact ⟨0, by omega, rfl, fun _ _ h => absurd h (by omega), fun _ _ _ _ _ h => absurd h (by omega), Grow.refl _⟩
  case round =>
    obtain ⟨i, hin, rfl, hok, hne, hgr⟩ := hrel
    have HOK := Lib.hid hok
    have HNE := Lib.hid hne
    clear hok hne
    by_cases hi : i < n
    · have hit : decide ((i : Int) < (n : Int)) = true := decide_eq_true (by omega)
      have hI := h.grow hgr
      obtain ⟨ad, hqi, rfl, hd0, e1⟩ := lab_at hI hi
      have ce0 := hd0 wr (Grow.refl _)
      have ce1 := e1 wr (Grow.refl _)
      have hdm : l[i] ∈ l := List.getElem_mem hqi
      have hds := hl _ hdm
      obtain ⟨d, hdd⟩ : ∃ d, d = l[i] := ⟨_, rfl⟩
      rw [← hdd] at ce0 ce1 hdm hds hd0
      have HD := Lib.hid hdd
      clear hdd e1
      have hN1 := fun w1 => rName_any w1 d.1 hds.1
      have hN2 := fun w1 => rName_any w1 d.2 hds.2
      have hin2 : ¬ n ≤ i := by omega
      have HD0 := Lib.hid hd0
      clear hd0
      cases hb1 : nameB d.1 with
      | false =>
        have hR : R = 1 := by
          rw [HR.out]
          exact right_bad hl8 (bad_one hdm (by unfold okL; rw [hb1]; rfl))
        rw [hb1] at hN1
        have HR1 := Lib.hid hR
        clear hR hb1 hN2
        go_wp2_with (go_at_call 25; refine (hN1 _).mono ?_; rintro e w' ⟨rfl, rfl⟩)
        go_ret
        exact ⟨ret_int HR1.out.symm, hgr⟩
      | true =>
        rw [hb1] at hN1
        have HB1 := Lib.hid hb1
        clear hb1
        cases hb2 : nameB d.2 with
        | false =>
          have hR : R = 1 := by
            rw [HR.out]
            exact right_bad hl8 (bad_one hdm (by unfold okL; rw [HB1.out, hb2]; rfl))
          rw [hb2] at hN2
          have HR1 := Lib.hid hR
          clear hR hb2
          go_wp2_with fail
          refine (hN1 _).mono ?_
          rintro e w' ⟨rfl, rfl⟩
          go_wp2_with fail
          refine (hN2 _).mono ?_
          rintro e w' ⟨rfl, rfl⟩
          go_wp2_with fail
          go_ret
          exact ⟨ret_int HR1.out.symm, hgr⟩
        | true =>
          rw [hb2] at hN2
          have hdo : okL d = true := by unfold okL; rw [HB1.out, hb2]; rfl
          have HOK1 : Hid (∀ j (hj : j < l.length), j < i + 1 → okL l[j] = true) := Lib.hid fun j hj hji => by
            rcases Nat.lt_or_ge j i with h | h
            · exact HOK.out j hj h
            · obtain rfl : j = i := by omega
              rw [← HD.out]; exact hdo
          clear hb2 HB1
          go_wp2_with fail
          refine (hN1 _).mono ?_
          rintro e w' ⟨rfl, rfl⟩
          go_wp2_with fail
          refine (hN2 _).mono ?_
          rintro e w' ⟨rfl, rfl⟩
          clear hN1 hN2
          go_wp2_with fail
          go_loopw [4] (fun k wz => ∃ k' : Nat, k' ≤ i ∧ k = .int .i64 (k' : Int) ∧ (∀ j (hj : j < l.length), j < k' → l[j].1 ≠ d.1) ∧ Grow w wz) (fun k _ => i - (intOf k).toNat)
          case atStart => exact ⟨0, by omega, rfl, fun _ _ h => absurd h (by omega), hgr⟩
          case round =>
            clear hgr ce0 ce1 hI
            obtain ⟨k, hki, rfl, hnk, hgr⟩ := hrel
            have HNK := Lib.hid hnk
            clear hnk
            by_cases hk : k < i
            · have hkt : decide ((k : Int) < (i : Int)) = true := decide_eq_true (by omega)
              have hI := h.grow hgr
              obtain ⟨ad', hqk, ea, hp, _⟩ := lab_at hI (show k < n by omega)
              injection ea with ea
              subst ea
              obtain ⟨ad2, hqi2, ea, hd0, _⟩ := lab_at hI hi
              injection ea with ea
              subst ea
              rw [← HD.out] at hd0
              obtain ⟨p, hpp⟩ : ∃ p, p = l[k].1 := ⟨_, rfl⟩
              rw [← hpp] at hp
              have HP := Lib.hid hpp
              have hkn2 : ¬ n ≤ k := by omega
              clear hpp
              by_cases heq : p = d.1
              · have hR : R = 1 := by
                  rw [HR.out]
                  exact right_bad hl8 (bad_two hqk hqi hk (by rw [← HP.out, ← HD.out]; exact heq))
                have HR1 := Lib.hid hR
                have heqb : (p.toList == d.1.toList) = true := by rw [heq]; simp
                have HEQ := Lib.hid heq
                clear hR heq
                go_wp2_with fail
                refine wp_region_flow 11 49 [] rfl rfl (by kernel_rfl) (by kernel_rfl) (by kernel_rfl) ?_ ?_
                · intro x hx φ he
                  cases hx
                intro ops' A' K' T hops hA' hK hT
                refine fl_mv 34 (by rfl) (by decide) (wanted_none (by rfl)) (by rw [hK.out]; rfl) (by rfl) _ (Or.inl (by rfl)) (.slice (some ad) n c) (by rfl) ?_
                refine fl_mv 35 (by rfl) (by decide) (wanted_none (by rfl)) (by rw [hK.out]; rfl) (by rfl) _ (Or.inl (by rfl)) (.int .i64 (k : Int)) (by rfl) ?_
                refine fl_op2 36 (by rfl) (by decide) (wanted_none (by rfl)) (by rw [hK.out]; rfl) (by rfl) (.tmp 34) (.tmp 35) (.slice (some ad) n c) (.int .i64 (k : Int)) (by rfl) (by rfl) (.pointer (some (ad.add (k * 2)))) (fun ρ h1 h2 kk w1 (hg : Grow _ w1) hb hf => by go_simp; try (intro hlt; omega)) ?_
                refine fl_op1 37 (by rfl) (by decide) (wanted_none (by rfl)) (by rw [hK.out]; rfl) (by rfl) (.tmp 36) (.pointer (some (ad.add (k * 2)))) (by rfl) (.pointer (some (ad.add (k * 2)))) (fun ρ h1 kk w1 (hg : Grow _ w1) hb hf => by go_simp) ?_
                refine fl_op1 38 (by rfl) (by decide) (wanted_none (by rfl)) (by rw [hK.out]; rfl) (by rfl) (.tmp 37) (.pointer (some (ad.add (k * 2)))) (by rfl) (.string p) (fun ρ h1 kk w1 (hg : Grow _ w1) hb hf => by have c := hp w1 hg; go_simp) ?_
                refine fl_mv 39 (by rfl) (by decide) (wanted_none (by rfl)) (by rw [hK.out]; rfl) (by rfl) _ (Or.inl (by rfl)) (.slice (some ad) n c) (by rfl) ?_
                refine fl_mv 40 (by rfl) (by decide) (wanted_none (by rfl)) (by rw [hK.out]; rfl) (by rfl) _ (Or.inl (by rfl)) (.int .i64 (i : Int)) (by rfl) ?_
                refine fl_op2 41 (by rfl) (by decide) (wanted_none (by rfl)) (by rw [hK.out]; rfl) (by rfl) (.tmp 39) (.tmp 40) (.slice (some ad) n c) (.int .i64 (i : Int)) (by rfl) (by rfl) (.pointer (some (ad.add (i * 2)))) (fun ρ h1 h2 kk w1 (hg : Grow _ w1) hb hf => by go_simp; try (intro hlt; omega)) ?_
                refine fl_op1 42 (by rfl) (by decide) (wanted_none (by rfl)) (by rw [hK.out]; rfl) (by rfl) (.tmp 41) (.pointer (some (ad.add (i * 2)))) (by rfl) (.pointer (some (ad.add (i * 2)))) (fun ρ h1 kk w1 (hg : Grow _ w1) hb hf => by go_simp) ?_
                refine fl_op1 43 (by rfl) (by decide) (wanted_none (by rfl)) (by rw [hK.out]; rfl) (by rfl) (.tmp 42) (.pointer (some (ad.add (i * 2)))) (by rfl) (.string d.1) (fun ρ h1 kk w1 (hg : Grow _ w1) hb hf => by have c := hd0 w1 hg; go_simp) ?_
                refine fl_op2 44 (by rfl) (by decide) (wanted_none (by rfl)) (by rw [hK.out]; rfl) (by rfl) (.tmp 38) (.tmp 43) (.string p) (.string d.1) (by rfl) (by rfl) (.bool true) (fun ρ h1 h2 kk w1 (hg : Grow _ w1) hb hf => by go_simp) ?_
                refine fl_end (fun _ _ w1 (hg : Grow _ w1) _ hfacts => hT _ _ ?_)
                clear hops hA' hK hT
                simp only [putsL, Act.put, List.setIfInBounds_toArray, List.set_cons_zero, List.set_cons_succ, List.drop_succ_cons, List.drop_zero]
                clear hfacts
                go_wp2_with fail
                go_ret
                exact ⟨ret_int HR1.out.symm, hgr.trans hg⟩
              · have HEQ := Lib.hid heq
                have heqb := str_eqb heq
                clear heq
                go_wp2_with fail
                refine wp_region_flow 11 49 [] rfl rfl (by kernel_rfl) (by kernel_rfl) (by kernel_rfl) ?_ ?_
                · intro x hx φ he
                  cases hx
                intro ops' A' K' T hops hA' hK hT
                refine fl_mv 34 (by rfl) (by decide) (wanted_none (by rfl)) (by rw [hK.out]; rfl) (by rfl) _ (Or.inl (by rfl)) (.slice (some ad) n c) (by rfl) ?_
                refine fl_mv 35 (by rfl) (by decide) (wanted_none (by rfl)) (by rw [hK.out]; rfl) (by rfl) _ (Or.inl (by rfl)) (.int .i64 (k : Int)) (by rfl) ?_
                refine fl_op2 36 (by rfl) (by decide) (wanted_none (by rfl)) (by rw [hK.out]; rfl) (by rfl) (.tmp 34) (.tmp 35) (.slice (some ad) n c) (.int .i64 (k : Int)) (by rfl) (by rfl) (.pointer (some (ad.add (k * 2)))) (fun ρ h1 h2 kk w1 (hg : Grow _ w1) hb hf => by go_simp; try (intro hlt; omega)) ?_
                refine fl_op1 37 (by rfl) (by decide) (wanted_none (by rfl)) (by rw [hK.out]; rfl) (by rfl) (.tmp 36) (.pointer (some (ad.add (k * 2)))) (by rfl) (.pointer (some (ad.add (k * 2)))) (fun ρ h1 kk w1 (hg : Grow _ w1) hb hf => by go_simp) ?_
                refine fl_op1 38 (by rfl) (by decide) (wanted_none (by rfl)) (by rw [hK.out]; rfl) (by rfl) (.tmp 37) (.pointer (some (ad.add (k * 2)))) (by rfl) (.string p) (fun ρ h1 kk w1 (hg : Grow _ w1) hb hf => by have c := hp w1 hg; go_simp) ?_
                refine fl_mv 39 (by rfl) (by decide) (wanted_none (by rfl)) (by rw [hK.out]; rfl) (by rfl) _ (Or.inl (by rfl)) (.slice (some ad) n c) (by rfl) ?_
                refine fl_mv 40 (by rfl) (by decide) (wanted_none (by rfl)) (by rw [hK.out]; rfl) (by rfl) _ (Or.inl (by rfl)) (.int .i64 (i : Int)) (by rfl) ?_
                refine fl_op2 41 (by rfl) (by decide) (wanted_none (by rfl)) (by rw [hK.out]; rfl) (by rfl) (.tmp 39) (.tmp 40) (.slice (some ad) n c) (.int .i64 (i : Int)) (by rfl) (by rfl) (.pointer (some (ad.add (i * 2)))) (fun ρ h1 h2 kk w1 (hg : Grow _ w1) hb hf => by go_simp; try (intro hlt; omega)) ?_
                refine fl_op1 42 (by rfl) (by decide) (wanted_none (by rfl)) (by rw [hK.out]; rfl) (by rfl) (.tmp 41) (.pointer (some (ad.add (i * 2)))) (by rfl) (.pointer (some (ad.add (i * 2)))) (fun ρ h1 kk w1 (hg : Grow _ w1) hb hf => by go_simp) ?_
                refine fl_op1 43 (by rfl) (by decide) (wanted_none (by rfl)) (by rw [hK.out]; rfl) (by rfl) (.tmp 42) (.pointer (some (ad.add (i * 2)))) (by rfl) (.string d.1) (fun ρ h1 kk w1 (hg : Grow _ w1) hb hf => by have c := hd0 w1 hg; go_simp) ?_
                refine fl_op2 44 (by rfl) (by decide) (wanted_none (by rfl)) (by rw [hK.out]; rfl) (by rfl) (.tmp 38) (.tmp 43) (.string p) (.string d.1) (by rfl) (by rfl) (.bool false) (fun ρ h1 h2 kk w1 (hg : Grow _ w1) hb hf => by go_simp) ?_
                refine fl_end (fun _ _ w1 (hg : Grow _ w1) _ hfacts => hT _ _ ?_)
                clear hops hA' hK hT
                simp only [putsL, Act.put, List.setIfInBounds_toArray, List.set_cons_zero, List.set_cons_succ, List.drop_succ_cons, List.drop_zero]
                clear hfacts
                go_wp2_with fail
                go_roundw
                case rel =>
                  refine ⟨k + 1, by omega, by go_num, fun j hj hjk => ?_, hgr.trans hg⟩
                  rcases Nat.lt_or_ge j k with h | h
                  · exact HNK.out j hj h
                  · obtain rfl : j = k := by omega
                    rw [← HP.out]; exact HEQ.out
                case measure => simp [intOf]; omega
            · obtain rfl : i = k := by omega
              have hkt : decide ((i : Int) < (i : Int)) = false := decide_eq_false (by omega)
              go_wp2_with fail
              go_roundw
              case rel =>
                refine ⟨i + 1, by omega, by go_num, HOK1.out, fun a b ha hb hab hbi => ?_, hgr⟩
                rcases Nat.lt_or_ge b i with h | h
                · exact HNE.out a b ha hb hab h
                · obtain rfl : b = i := by omega
                  rw [← HD.out]
                  exact HNK.out a ha hab
              case measure => simp [intOf]; omega
    · obtain rfl : n = i := by omega
      have hit : decide ((n : Int) < (n : Int)) = false := decide_eq_false (by omega)
      by_cases h0 : n = 0
      · have hR : R = 1 := by
          rw [HR.out]
          refine right_bad hl8 ?_
          obtain rfl : l = [] := List.eq_nil_of_length_eq_zero (by rw [HLL.out]; exact h0)
          rfl
        have HR1 := Lib.hid hR
        have h0e : ((n : Int) == 0) = true := beq_iff_eq.2 (by omega)
        clear hR
        go_wp2_with fail
        go_ret
        exact ⟨ret_int HR1.out.symm, hgr⟩
      · have hR : R = 0 := by
          rw [HR.out]
          refine right_ok hl8 (fine_mk (fun e => h0 (by rw [← HLL.out, e]; rfl)) (fun d hd => ?_) fun a b ha hb hab => HNE.out a b ha hb hab (by have := HLL.out; omega))
          obtain ⟨j, hj, rfl⟩ := List.getElem_of_mem hd
          exact HOK.out j hj (by have := HLL.out; omega)
        have HR1 := Lib.hid hR
        have h0e : ((n : Int) == 0) = false := beq_eq_false_iff_ne.2 (by omega)
        clear hR
        go_wp2_with fail
        go_ret
        exact ⟨ret_int HR1.out.symm, hgr⟩
end Go.Proofs.YthkkfdnechmddaaDoor
