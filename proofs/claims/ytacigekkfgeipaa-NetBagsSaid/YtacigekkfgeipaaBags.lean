/- NetBags: its walk. -/
import Derived.Test.YtacigekkfgeipaaParted
namespace Go.Proofs.Ytacigekkfgeipaa
open Go.RowKit Go.Hop
def mk (n : Nat) : List Lb := (List.range n).map fun j : Nat => (0, 1, [UInt8.ofNat j])
theorem mk_succ (n : Nat) : mk (n + 1) = mk n ++ [(0, 1, [UInt8.ofNat n])] := by unfold mk; rw [List.range_succ, List.map_append]; rfl
theorem mk_len (n : Nat) : (mk n).length = n := by unfold mk; rw [List.length_map, List.length_range]
theorem send_mk {n : Nat} (h : n < 64) : sendE 2 (mk n) 0 1 = 0 ∧ sendL 2 (mk n) (0, 1, [UInt8.ofNat n]) = mk (n + 1) := by
  have h1 : sendE 2 (mk n) 0 1 = 0 := by
    unfold sendE
    rw [if_neg (by decide), if_neg (by decide), if_neg (by rw [mk_len]; omega)]
  refine ⟨h1, ?_⟩
  unfold sendL
  rw [if_pos h1, mk_succ]
theorem send_full (a : Lb) (h0 : a.1 = 0) (h1 : a.2.1 = 1) : sendE 2 (mk 64) 0 1 = 24 ∧ sendL 2 (mk 64) a = mk 64 := by
  have e : sendE 2 (mk 64) 0 1 = 24 := by
    unfold sendE
    rw [if_neg (by decide), if_neg (by decide), if_pos (by rw [mk_len]; omega)]
  refine ⟨e, ?_⟩
  unfold sendL
  rw [h0, h1, if_neg (by rw [e]; decide)]
theorem twice_full : twiceE 2 (mk 64) 0 = 24 ∧ twiceL 2 (mk 64) 0 = mk 64 := by
  have hl : ltAt (mk 64) 0 = (0, 1, [UInt8.ofNat 0]) := rfl
  have hn : nodeB ((mk 64).length : Int) 0 = true := by rw [mk_len]; rfl
  obtain ⟨h1, h2⟩ := send_full (0, 1, [UInt8.ofNat 0]) rfl rfl
  exact ⟨by unfold twiceE; rw [hn, if_pos rfl, hl]; exact h1, by unfold twiceL; rw [hn, if_pos rfl, hl]; exact h2⟩
set_option maxRecDepth 100000 in
set_option maxHeartbeats 4000000 in
theorem bags_any (w : World) (n : Int) (hn : -9223372036854775808 ≤ n ∧ n ≤ 9223372036854775807) :
    Calls Try.prog 6 #[.int .i64 n] w fun e w' => e = .returned (.bool true) ∧ Grow w w' := by
  go_enter Try.func6, Try.ntmps6
  go_wp2_with fail
  go_at_call 10
  refine (New_any w 2 (by decide) (by decide)).mono ?_
  rintro e w1 ⟨rfl, hD1, hb1⟩
  obtain ⟨g, HD⟩ : ∃ g : Nat, Hid (g = w.heap.size) := ⟨_, rfl⟩
  rw [← HD.out] at hD1 ⊢
  have hs1 := hb1.size
  have hs0 : Solo (fun b => w.heap.size ≤ b) (NetAt g 2 (mk (min 0 64)) P0) w1 := Solo.make (V := New w w1) hD1 (fun b hb => by omega) (fun b hb => hb)
  clear hD1
  go_wp2_with fail
  go_at_call 9
  refine (within_nat w1 n 0 128 hn (by omega) (by omega) (by omega)).mono ?_
  rintro e w1' ⟨k, _, hk128, rfl, rfl⟩
  go_wp2_with fail
  go_loopw [5] (fun i wr => ∃ j : Nat, j ≤ k ∧ i = .int .i64 j ∧ Solo (fun b => w.heap.size ≤ b) (NetAt g 2 (mk (min j 64)) P0) wr ∧ Below w.heap.size w wr) (fun i _ => k - (intOf i).toNat)
  case atStart => exact ⟨0, by omega, rfl, hs0, hb1⟩
  case round =>
    obtain ⟨j, hjk, rfl, hs, hb⟩ := hrel
    by_cases hj : j < k
    · have hga := (Below.refl wr.heap.size wr).alloc (Nat.le_refl _) (.cells #[.int .u8 (j : Int)] 5)
      obtain ⟨x, HX⟩ : ∃ x : Nat, Hid (x = wr.heap.size) := ⟨_, rfl⟩
      obtain ⟨wa, HA⟩ : ∃ wa : World, Hid (wa = wr.alloc (.cells #[.int .u8 (j : Int)] 5)) := ⟨_, rfl⟩
      rw [← HA.out] at hga
      have hu : ((UInt8.ofNat j).toNat : Int) = (j : Int) := by rw [UInt8.toNat_ofNat']; omega
      have hda : BIn wa (fun b => b = x) (some ⟨x, 0, none⟩) 1 [UInt8.ofNat j] := by
        have := byte_laid wr (UInt8.ofNat j) x (0, 0) HX.out.symm
        rw [hu] at this
        exact HA.out ▸ this
      have hwu : IntKind.u8.wrap (j : Int) = (j : Int) := by rw [IntKind.wrap_u8]; omega
      have hsa := Solo.grow hs (NetAt.framed _ _ _ _) hga
      have hba := below_trans hb hga hb.size
      clear hs hb hu
      by_cases h64 : j < 64
      · have ht := Send_any wa _ g 2 (mk j) P0 0 1 (some ⟨x, 0, none⟩) 1 1 [UInt8.ofNat j] hda (by decide) (by decide) (by decide)
        rw [(send_mk h64).1, (send_mk h64).2] at ht
        rw [show min j 64 = j by omega] at hsa
        go_wp2_with fail
        rw [← HA.out, ← HX.out]
        refine (solo_step hsa hba ht).mono ?_
        rintro e w3 ⟨rfl, hs3, hb3⟩
        clear ht hsa hba hda
        go_wp2_with fail
        go_roundw
        case rel => exact ⟨j + 1, by omega, by go_num, by rw [show min (j + 1) 64 = j + 1 by omega]; exact hs3, hb3⟩
        case measure => simp [intOf]; omega
      · have ht := Send_any wa _ g 2 (mk 64) P0 0 1 (some ⟨x, 0, none⟩) 1 1 [UInt8.ofNat j] hda (by decide) (by decide) (by decide)
        obtain ⟨q1, q2⟩ := send_full (0, 1, [UInt8.ofNat j]) rfl rfl
        rw [q1, q2] at ht
        rw [show min j 64 = 64 by omega] at hsa
        go_wp2_with fail
        rw [← HA.out, ← HX.out]
        refine (solo_step hsa hba ht).mono ?_
        rintro e w3 ⟨rfl, hs3, hb3⟩
        clear ht hsa hba hda q1 q2
        have ht := Twice_int w3 g 2 (mk 64) P0 0
        rw [twice_full.1, twice_full.2] at ht
        go_wp2_with fail
        refine (solo_step hs3 hb3 ht).mono ?_
        rintro e w4 ⟨rfl, hs4, hb4⟩
        clear ht hs3 hb3
        go_wp2_with fail
        go_roundw
        case rel => exact ⟨j + 1, by omega, by go_num, by rw [show min (j + 1) 64 = 64 by omega]; exact hs4, hb4⟩
        case measure => simp [intOf]; omega
    · obtain rfl : j = k := by omega
      obtain ⟨M, hM⟩ : ∃ M : Nat, Hid (M = min j 64) := ⟨_, rfl⟩
      rw [← hM.out] at hs
      have hM64 : M ≤ 64 := by have := hM.out; omega
      obtain ⟨_, V, hV, _⟩ := hs
      go_wp2_with fail
      go_at_call 16
      refine (All_any wr g 2 (mk M) P0 V hV).mono ?_
      rintro e w5 ⟨u, rfl, ⟨A, n', cn, q, rfl, hL, habs, hncn, hcmn⟩, hg5⟩
      have hqM : q.length = M := by rw [← mk_len M, ← habs, List.length_map]
      obtain rfl : n' = M := by rw [← hL.len, hqM]
      have hb5 := below_trans hb hg5 hb.size
      clear hV hg5
      go_wp2_with fail
      go_loopw [47] (fun i wr => ∃ t : Nat, t ≤ n' ∧ i = .int .i64 t ∧ Grow w5 wr) (fun i _ => n' - (intOf i).toNat)
      case atStart => exact ⟨0, by omega, rfl, Grow.refl _⟩
      case round =>
        obtain ⟨t, htn, rfl, hgr⟩ := hrel
        by_cases ht : t < n'
        · obtain ⟨ad, hq, rfl, _, _, e2⟩ := rec3 (hL.grow hgr).row lt_len ht
          have e2 := e2 _ rfl _ (Grow.refl _)
          have hbs := (hL.all _ (List.getElem_mem hq)).bs.grow hgr
          have hab : q[t].bs = [UInt8.ofNat t] := by
            have h3 : (q.map Lt.abs)[t]? = some q[t].abs := by rw [List.getElem?_map, List.getElem?_eq_getElem hq]; rfl
            have h4 : (mk n')[t]? = some (0, 1, [UInt8.ofNat t]) := by
              unfold mk; rw [List.getElem?_map, List.getElem?_range ht]; rfl
            rw [habs, h4] at h3
            injection h3 with h3
            unfold Lt.abs at h3
            injection h3 with _ h3
            injection h3 with _ h3
            exact h3.symm
          generalize q[t] = b at hbs e2 hab
          obtain ⟨f, tt, Ab, mb, cb, bs⟩ := b
          dsimp only at hbs e2 hab
          subst hab
          obtain rfl : mb = 1 := by have := BIn.len hbs; simpa using this.symm
          obtain ⟨ab, rfl, _, _, hc⟩ := hbs.2 (by decide)
          have hc0 := hc 0 _ rfl
          rw [show ab.add 0 = ab from by unfold Addr.add; rw [if_pos rfl]] at hc0
          have hu : ((UInt8.ofNat t).toNat : Int) = (t : Int) := by rw [UInt8.toNat_ofNat']; omega
          have hwu : IntKind.u8.wrap (t : Int) = (t : Int) := by rw [IntKind.wrap_u8]; omega
          have hc0 : wr.cell? ab = some (.int .u8 ((UInt8.ofNat t).toNat : Int)) := hc0
          rw [hu] at hc0
          clear hu hc hbs
          go_wp2_with fail
          go_roundw
          case rel => exact ⟨t + 1, by omega, by go_num, hgr⟩
          case measure => simp [intOf]; omega
        · obtain rfl : t = n' := by omega
          have hb6 := below_trans hb5 hgr hb5.size
          clear hb5 hL habs
          have hM' := hM.out
          by_cases h64 : j < 64
          · obtain rfl : t = j := by omega
            clear hM'
            go_wp2_with fail
            refine (known_any _).mono ?_
            rintro e w20 ⟨rfl, hg20⟩
            go_wp2_with fail
            go_ret
            exact ⟨rfl, below_trans hb6 hg20 hb6.size⟩
          · obtain rfl : t = 64 := by omega
            clear hM'
            rcases (show j = 64 ∨ 64 < j by omega) with h65 | h65
            · subst h65
              go_wp2_with fail
              refine (known_any _).mono ?_
              rintro e w20 ⟨rfl, hg20⟩
              go_wp2_with fail
              go_ret
              exact ⟨rfl, below_trans hb6 hg20 hb6.size⟩
            · have h66 : ¬ (j : Int) ≤ 64 := by omega
              have h67 : (64 : Int) < (j : Int) := by omega
              go_wp2_with fail
              refine (known_any _).mono ?_
              rintro e w20 ⟨rfl, hg20⟩
              go_wp2_with fail
              go_ret
              exact ⟨rfl, below_trans hb6 hg20 hb6.size⟩
end Go.Proofs.Ytacigekkfgeipaa
