/- CountSums: its walk. -/
import Derived.Test.YtnijeemldhmkjaaLsumw
namespace Go.Proofs.Ytnijeemldhmkjaa
open Go.RowKit Go.Hop
set_option maxRecDepth 100000 in
set_option maxHeartbeats 1000000 in
theorem sums_any (w : World) (A0 : Option Addr) (n0 c0 : Nat) (l0 : List Int) (hl0 : Reads w w.heap.size 1 A0 n0 (l0.map (Value.int .i64))) (hx0 : ∀ z ∈ l0, -9223372036854775808 ≤ z ∧ z ≤ 9223372036854775807) (hn0 : n0 ≤ 9223372036854775807) (turn : Int) :
    Calls Try.prog 4 #[.slice A0 n0 c0, .int .i64 turn] w fun e w' => e = .returned (.bool true) ∧ Grow w w' := by
  have hI0 : In w (fun b => b < w.heap.size) 1 A0 n0 (l0.map (Value.int .i64)) := Reads.in_ hl0 (Nat.le_refl _) fun _ h => h
  have hrows := rows_any w A0 n0 c0 l0 (fun b => b < w.heap.size) hI0 (fun b hb => hb) hn0 hx0 20 (by omega)
  rw [show ((20 : Nat) : Int) = 20 from rfl] at hrows
  go_enter Try.func4, Try.ntmps4
  go_wp2_with fail
  refine hrows.mono ?_
  rintro e wA ⟨v, q0, rfl, hR, hq20, hg1⟩
  clear hrows
  have hs1 := hg1.size
  have hM0 := hR.masked
  obtain ⟨A, c, rfl, hnc, hcm, _⟩ := hR.ins
  clear hR
  go_wp2_with fail
  refine (New_any wA).mono ?_
  rintro e w2 ⟨a, rfl, hSa, hg2⟩
  have hs2 := hg2.size
  go_wp2_with fail
  refine (New_any w2).mono ?_
  rintro e w3 ⟨b, rfl, hSb, hg3⟩
  have hs3 := hg3.size
  have hT0 := Two.made hSa hSb hg2 hg3
  have hM3 : MOwn w3 (New w wA) (.slice A q0.length c) q0 := (hM0.keep fun x hx => hg2.block x hx.2).keep fun x hx => hg3.block x (by have := hx.2; omega)
  have hg03 := below_trans (below_trans hg1 hg2 hs1) hg3 (by omega)
  clear hSa hSb hM0
  obtain ⟨N, HN⟩ : ∃ N : Nat, Hid (N = q0.length) := ⟨_, rfl⟩
  have hN20 : N ≤ 20 := by rw [HN.out]; exact hq20
  rw [← HN.out] at hM3 hnc ⊢
  go_wp2_with fail
  go_loopw [25] (fun i wr => ∃ (k : Nat) (q : List Dr), k ≤ N ∧ i = .int .i64 (k : Int) ∧ q.length = N ∧ MOwn wr (New w wA) (.slice A N c) q ∧ MDone q k 0 ∧ Just (New w wA) w3 wr) (fun i _ => N - (intOf i).toNat)
  case atStart => exact ⟨0, q0, by omega, rfl, HN.out.symm, hM3, fun j hj => ⟨fun h => absurd h (by omega), fun _ x _ h => absurd h (by omega)⟩, Just.of_grow (Grow.refl _)⟩
  case round =>
    clear hM3
    obtain ⟨i, q, hiN, rfl, hqN, hM, hD, hj⟩ := hrel
    have HQ := Lib.hid hqN
    clear hqN
    by_cases hi : i < N
    · have hit : decide ((i : Int) < (N : Int)) = true := decide_eq_true (by omega)
      have hit2 : decide (i < N) = true := decide_eq_true hi
      have hiq : i < q.length := by rw [HQ.out]; exact hi
      obtain ⟨ad, rfl, hc⟩ := row_at hM.ins (k := i) (by rw [List.length_map]; exact hiq)
      simp only [List.getElem_map] at hc
      obtain ⟨g, hg⟩ : ∃ g, g = q[i].g := ⟨_, rfl⟩
      obtain ⟨m, hm⟩ : ∃ m, m = q[i].l.length := ⟨_, rfl⟩
      obtain ⟨cg, hcg⟩ : ∃ cg, cg = q[i].c := ⟨_, rfl⟩
      have hc0 : wr.cell? (ad.add i) = some (.slice (some ⟨g, 0, none⟩) m cg) := by rw [hg, hm, hcg]; exact hc wr (Grow.refl _)
      have hm5 : m ≤ 5 := by rw [hm]; exact (hM.ok _ (List.getElem_mem hiq)).1
      have Hg := Lib.hid hg
      have Hm := Lib.hid hm
      have Hcg := Lib.hid hcg
      clear hg hm hcg hc
      have hmt : decide ((0 : Int) < (m : Int)) = decide ((0 : Int) < (m : Int)) := rfl
      clear hmt
      go_wp2_with fail
      go_loopw [33] (fun k wz => ∃ (k' : Nat) (q' : List Dr), k' ≤ m ∧ k = .int .i64 (k' : Int) ∧ q'.length = N ∧ (∀ (h : i < q'.length), q'[i].g = g ∧ q'[i].l.length = m ∧ q'[i].c = cg) ∧ MOwn wz (New w wA) (.slice (some ad) N c) q' ∧ MDone q' i k' ∧ Just (New w wA) w3 wz) (fun k _ => m - (intOf k).toNat)
      case atStart => exact ⟨0, q, by omega, rfl, HQ.out, fun h => ⟨Hg.out.symm, Hm.out.symm, Hcg.out.symm⟩, hM, hD, hj⟩
      case round =>
        clear hM hD hj hc0 Hg Hm Hcg hiq HQ
        obtain ⟨k, q', hkm, rfl, hqN, hrow, hM, hD, hj⟩ := hrel
        have hiq : i < q'.length := by omega
        obtain ⟨hg, hm, hcg⟩ := hrow hiq
        have HQ := Lib.hid hqN
        have Hg := Lib.hid hg
        have Hm := Lib.hid hm
        have Hcg := Lib.hid hcg
        clear hqN hg hm hcg hrow
        by_cases hk : k < m
        · have hkt : decide ((k : Int) < (m : Int)) = true := decide_eq_true (by omega)
          have hkq : k < q'[i].l.length := by rw [Hm.out]; exact hk
          obtain ⟨ad', e, hc1⟩ := row_at hM.ins (k := i) (by rw [List.length_map]; exact hiq)
          injection e with e
          subst e
          simp only [List.getElem_map] at hc1
          have hc : ∀ w9, Grow wr w9 → w9.cell? (ad.add i) = some (.slice (some ⟨g, 0, none⟩) m cg) := fun w9 hg9 => by rw [hc1 w9 hg9, ← Hg.out, ← Hm.out, ← Hcg.out]; rfl
          clear hc1
          have hb := (hM.all _ (List.getElem_mem hiq)).2
          have ho := (hM.ok _ (List.getElem_mem hiq)).2 _ (List.getElem_mem hkq)
          have hfr := Own.free (show Own _ (fun x => x = q'[i].g) 34 2 (.slice (some ⟨q'[i].g, 0, none⟩) q'[i].l.length q'[i].c) q'[i].l.length (dcells q'[i].l) from hb) (j := k * 2 + 1) (by rw [dcells_len]; omega)
          have hz0 : (dcells q'[i].l)[k * 2 + 1]'(by rw [dcells_len]; omega) = .int .u64 (q'[i].l[k].2 : Int) := by
            have := flat_get dcell 2 dcell_len q'[i].l k 1 hkq (by omega)
            have h2 := List.getElem?_eq_some_iff.1 this
            exact h2.2
          rw [hz0] at hfr
          obtain ⟨hf1, hf2, hf3, _⟩ := hfr
          have hst := hM.store hiq hkq (m := q'[i].l[k].2 % 65536) (by unfold M64; omega)
          have hds := hD.store hiq hkq (m := q'[i].l[k].2 % 65536) (by omega)
          have hz6 := and_u16 _ ho.2
          have hrow2 : ∀ (h : i < (setRow q' i (q'[i].l.set k (q'[i].l[k].1, q'[i].l[k].2 % 65536))).length), (setRow q' i (q'[i].l.set k (q'[i].l[k].1, q'[i].l[k].2 % 65536)))[i].g = g ∧ (setRow q' i (q'[i].l.set k (q'[i].l[k].1, q'[i].l[k].2 % 65536)))[i].l.length = m ∧ (setRow q' i (q'[i].l.set k (q'[i].l[k].1, q'[i].l[k].2 % 65536)))[i].c = cg := fun h => by
            rw [setRow_at hiq, if_pos rfl]
            exact ⟨Hg.out, by rw [List.length_set]; exact Hm.out, Hcg.out⟩
          have hl2 : (setRow q' i (q'[i].l.set k (q'[i].l[k].1, q'[i].l[k].2 % 65536))).length = N := by rw [setRow_len]; exact HQ.out
          generalize setRow q' i (q'[i].l.set k (q'[i].l[k].1, q'[i].l[k].2 % 65536)) = q2 at hst hds hrow2 hl2
          have hgV : New w wA g := by rw [← Hg.out]; exact (hM.all _ (List.getElem_mem hiq)).1
          have hgl : g < wr.heap.size := by rw [← Hg.out]; exact hf3
          rw [Hg.out] at hf1 hf2 hst
          generalize q'[i].l[k].2 = z at hf1 hz6 hst hds
          obtain ⟨zm, Hzm⟩ : ∃ zm : Nat, Hid (bits .and .u64 (z : Int) 65535 = (zm : Int)) := ⟨_, Lib.hid hz6⟩
          have hzme : zm = z % 65536 := by have := Hzm.out; omega
          rw [← hzme] at hst
          have HST := Lib.hid hst
          have hz : ∀ w9, Grow wr w9 → w9.cell? ⟨g, k * 2 + 1, none⟩ = some (.int .u64 (z : Int)) := fun w9 hg9 => (hg9.cell (p := ⟨g, k * 2 + 1, none⟩) hgl).trans hf1
          clear hst hz6 hzme hz0 ho hb
          have hwz := hj.size
          go_wp2_with fail
          refine wp_region_flow 16 119 [] rfl rfl (by kernel_rfl) (by kernel_rfl) (by kernel_rfl) ?_ ?_
          · intro x hx φ he
            cases hx
          intro ops' A' K' T hops hA' hK hT
          refine fl_mv 36 (by rfl) (by decide) (wanted_none (by rfl)) (by rw [hK.out]; rfl) (by rfl) _ (Or.inl (by rfl)) (.slice (some ad) N c) (by rfl) ?_
          refine fl_mv 37 (by rfl) (by decide) (wanted_none (by rfl)) (by rw [hK.out]; rfl) (by rfl) _ (Or.inl (by rfl)) (.int .i64 (i : Int)) (by rfl) ?_
          refine fl_op2 38 (by rfl) (by decide) (wanted_none (by rfl)) (by rw [hK.out]; rfl) (by rfl) (.tmp 36) (.tmp 37) (.slice (some ad) N c) (.int .i64 (i : Int)) (by rfl) (by rfl) (.pointer (some (ad.add i))) (fun ρ h1 h2 kk w1 (hg : Grow _ w1) hb hf => by go_simp; try (intro hlt; omega)) ?_
          refine fl_op1 39 (by rfl) (by decide) (wanted_none (by rfl)) (by rw [hK.out]; rfl) (by rfl) (.tmp 38) (.pointer (some (ad.add i))) (by rfl) (.slice (some ⟨g, 0, none⟩) m cg) (fun ρ h1 kk w1 (hg : Grow _ w1) hb hf => by have c := hc w1 hg; go_simp) ?_
          refine fl_mv 40 (by rfl) (by decide) (wanted_none (by rfl)) (by rw [hK.out]; rfl) (by rfl) _ (Or.inl (by rfl)) (.int .i64 (k : Int)) (by rfl) ?_
          refine fl_mv 41 (by rfl) (by decide) (wanted_none (by rfl)) (by rw [hK.out]; rfl) (by rfl) _ (Or.inl (by rfl)) (.slice (some ad) N c) (by rfl) ?_
          refine fl_mv 42 (by rfl) (by decide) (wanted_none (by rfl)) (by rw [hK.out]; rfl) (by rfl) _ (Or.inl (by rfl)) (.int .i64 (i : Int)) (by rfl) ?_
          refine fl_op2 43 (by rfl) (by decide) (wanted_none (by rfl)) (by rw [hK.out]; rfl) (by rfl) (.tmp 41) (.tmp 42) (.slice (some ad) N c) (.int .i64 (i : Int)) (by rfl) (by rfl) (.pointer (some (ad.add i))) (fun ρ h1 h2 kk w1 (hg : Grow _ w1) hb hf => by go_simp; try (intro hlt; omega)) ?_
          refine fl_op1 44 (by rfl) (by decide) (wanted_none (by rfl)) (by rw [hK.out]; rfl) (by rfl) (.tmp 43) (.pointer (some (ad.add i))) (by rfl) (.slice (some ⟨g, 0, none⟩) m cg) (fun ρ h1 kk w1 (hg : Grow _ w1) hb hf => by have c := hc w1 hg; go_simp) ?_
          refine fl_mv 45 (by rfl) (by decide) (wanted_none (by rfl)) (by rw [hK.out]; rfl) (by rfl) _ (Or.inl (by rfl)) (.int .i64 (k : Int)) (by rfl) ?_
          refine fl_op2 46 (by rfl) (by decide) (wanted_none (by rfl)) (by rw [hK.out]; rfl) (by rfl) (.tmp 44) (.tmp 45) (.slice (some ⟨g, 0, none⟩) m cg) (.int .i64 (k : Int)) (by rfl) (by rfl) (.pointer (some ⟨g, k * 2, none⟩)) (fun ρ h1 h2 kk w1 (hg : Grow _ w1) hb hf => by go_simp; try (intro hlt; omega)) ?_
          refine fl_op1 47 (by rfl) (by decide) (wanted_none (by rfl)) (by rw [hK.out]; rfl) (by rfl) (.tmp 46) (.pointer (some ⟨g, k * 2, none⟩)) (by rfl) (.pointer (some ⟨g, k * 2 + 1, none⟩)) (fun ρ h1 kk w1 (hg : Grow _ w1) hb hf => by go_simp) ?_
          refine fl_op1 48 (by rfl) (by decide) (wanted_none (by rfl)) (by rw [hK.out]; rfl) (by rfl) (.tmp 47) (.pointer (some ⟨g, k * 2 + 1, none⟩)) (by rfl) (.int .u64 (z : Int)) (fun ρ h1 kk w1 (hg : Grow _ w1) hb hf => by have c := hz w1 hg; go_simp) ?_
          refine fl_op2 49 (by rfl) (by decide) (wanted_none (by rfl)) (by rw [hK.out]; rfl) (by rfl) (.tmp 48) (.const (.int .u64 65535)) (.int .u64 (z : Int)) (.int .u64 65535) (by rfl) (by rfl) (.int .u64 (zm : Int)) (fun ρ h1 h2 kk w1 (hg : Grow _ w1) hb hf => by have h := Hzm.out; go_simp) ?_
          refine fl_op2 50 (by rfl) (by decide) (wanted_none (by rfl)) (by rw [hK.out]; rfl) (by rfl) (.tmp 39) (.tmp 40) (.slice (some ⟨g, 0, none⟩) m cg) (.int .i64 (k : Int)) (by rfl) (by rfl) (.pointer (some ⟨g, k * 2, none⟩)) (fun ρ h1 h2 kk w1 (hg : Grow _ w1) hb hf => by go_simp; try (intro hlt; omega)) ?_
          refine fl_op1 51 (by rfl) (by decide) (wanted_none (by rfl)) (by rw [hK.out]; rfl) (by rfl) (.tmp 50) (.pointer (some ⟨g, k * 2, none⟩)) (by rfl) (.pointer (some ⟨g, k * 2 + 1, none⟩)) (fun ρ h1 kk w1 (hg : Grow _ w1) hb hf => by go_simp) ?_
          refine fl_end (fun _ _ w1 (hg : Grow _ w1) _ hfacts => hT _ _ ?_)
          clear hops hA' hK hT
          simp only [putsL, Act.put, List.setIfInBounds_toArray, List.set_cons_zero, List.set_cons_succ, List.drop_succ_cons, List.drop_zero]
          clear hfacts
          have c1 := hz w1 hg
          have f1 : w1.frozen? ⟨g, k * 2 + 1, none⟩ = false := (hg.frozen (p := ⟨g, k * 2 + 1, none⟩) hgl).trans hf2
          have hst1 : MOwn (w1.setCell ⟨g, k * 2 + 1, none⟩ (.int .u64 (zm : Int))) (New w wA) (.slice (some ad) N c) q2 := HST.out.keep fun x hx => grow_set hg _ _ (by have := hx.2; omega)
          have hj1 : Just (New w wA) w3 (w1.setCell ⟨g, k * 2 + 1, none⟩ (.int .u64 (zm : Int))) := (hj.trans (Just.of_grow hg)).put hgV _ _
          clear HST hz hf1 hf2 hM hD
          go_wp2_with fail
          go_roundw
          case rel => exact ⟨k + 1, q2, by omega, by go_num, hl2, hrow2, hst1, hds, hj1⟩
          case measure => simp [intOf]; omega
        · obtain rfl : m = k := by omega
          have hkt : decide ((m : Int) < (m : Int)) = false := decide_eq_false (by omega)
          go_wp2_with fail
          go_roundw
          case rel => exact ⟨i + 1, q', by omega, by go_num, HQ.out, hM, hD.next fun _ => by rw [Hm.out]; exact Nat.le_refl _, hj⟩
          case measure => simp [intOf]; omega
    · obtain rfl : N = i := by omega
      have hit : decide ((N : Int) < (N : Int)) = false := decide_eq_false (by omega)
      have hlow : ∀ l ∈ q.map Dr.l, Low l := MDone.low (v := .slice A N c) (V := New w wA) (w := wr) (by rw [HQ.out]; exact hD) hM
      have hRI := hM.ins
      have hTr : Two (fun x => wA.heap.size ≤ x) a b [] [] wr := Duo.else_ hT0 (SumsAt.framed a []) (SumsAt.framed b []) hj fun x hx h => by have := hx.2; omega
      have hgF : Grow w wr := Below.trans hg03 (hj.below (B := w.heap.size) (fun x hx => hx.1) (by omega))
      clear hT0 hM hD hj hg03 hg1 hg2 hg3
      by_cases hN0 : 0 < N
      · have hn0t : decide ((0 : Int) < (N : Int)) = true := decide_eq_true (by omega)
        obtain ⟨k, hkN, hk⟩ : ∃ k : Nat, k < N ∧ (wrap64 (turn.tmod (N : Int) + (N : Int))).tmod (N : Int) = (k : Int) := by
          have q1 := Int.tmod_lt_of_pos turn (show (0 : Int) < (N : Int) by omega)
          have q2 := Int.lt_tmod_of_pos turn (show (0 : Int) < (N : Int) by omega)
          generalize turn.tmod (N : Int) = z at q1 q2
          have e1 : wrap64 (z + (N : Int)) = z + (N : Int) := by unfold wrap64; omega
          rw [e1, Int.tmod_eq_emod_of_nonneg (by omega)]
          have q3 := Int.emod_nonneg (z + (N : Int)) (b := (N : Int)) (by omega)
          have q4 := Int.emod_lt_of_pos (z + (N : Int)) (b := (N : Int)) (by omega)
          exact ⟨((z + (N : Int)) % (N : Int)).toNat, by omega, by omega⟩
        go_wp2_with fail
        clear hk
        obtain ⟨ls, Hls⟩ : ∃ ls : List (List Dl), Hid (ls = q.map Dr.l) := ⟨_, rfl⟩
        obtain ⟨lt, Hlt⟩ : ∃ lt : List (List Dl), Hid (lt = ls.drop k ++ ls.take k) := ⟨_, rfl⟩
        have hlow' : ∀ l ∈ ls, Low l := by rw [Hls.out]; exact hlow
        have hlsN : Hid (ls.length = N) := by rw [Hls.out, List.length_map]; exact HQ
        clear hlow
        obtain ⟨wB, rfl⟩ : ∃ wB : World, wB = wr := ⟨_, rfl⟩
        have hsB := hgF.size
        go_loopw [69] (fun i' wz => ∃ (i : Nat) (QA QB : Sm), i ≤ N ∧ i' = .int .i64 (i : Int) ∧ Hid (QA = add [] (ls.take i).flatten) ∧ Hid (QB = add [] (lt.take i).flatten) ∧ LowQ QA i ∧ LowQ QB i ∧ Two (fun x => wA.heap.size ≤ x) a b QA QB wz ∧ Just (fun x => wA.heap.size ≤ x) wB wz) (fun i' _ => N - (intOf i').toNat)
        case atStart => exact ⟨0, [], [], by omega, rfl, Lib.hid (by rw [List.take_zero]; rfl), Lib.hid (by rw [List.take_zero]; rfl), LowQ.nil, LowQ.nil, hTr, Just.of_grow (Grow.refl _)⟩
        case round =>
          clear hTr
          obtain ⟨i, QA, QB, hiN, rfl, HA, HB, hLA, hLB, hT, hj⟩ := hrel
          have hszr := hj.size
          by_cases hi : i < N
          · have hit : decide ((i : Int) < (N : Int)) = true := decide_eq_true (by omega)
            have hfa := hLA.few
            have hfb := hLB.few
            obtain ⟨j, hjN, Hj⟩ : ∃ j : Nat, j < N ∧ Hid (j = (i + k) % N) := ⟨_, Nat.mod_lt _ hN0, rfl⟩
            have hjm : ((i : Int) + (k : Int)) % (N : Int) = (j : Int) := by rw [Hj.out, Int.natCast_emod, Int.natCast_add]
            have hjm2 : ((i : Int) + (k : Int)).tmod (N : Int) = (j : Int) := by rw [Int.tmod_eq_emod_of_nonneg (by omega)]; exact hjm
            have hli : i < (q.map Dr.rr).length := by rw [List.length_map, HQ.out]; exact hi
            have hlj : j < (q.map Dr.rr).length := by rw [List.length_map, HQ.out]; exact hjN
            have hRr := hRI.just hj fun x hx h => by have := hx.2; omega
            have hall := Two.all1 hT (by omega)
            have hls1 : ls[i]? = some (q.map Dr.rr)[i].l := by
              rw [Hls.out, List.getElem?_map, List.getElem?_eq_getElem (by rw [HQ.out]; exact hi), List.getElem_map]; rfl
            have hls2 : lt[i]? = some (q.map Dr.rr)[j].l := by
              have e := turn_at ls (k := k) (i := i) (by rw [hlsN.out]; exact hkN) (by rw [hlsN.out]; exact hi)
              rw [Hlt.out, e, hlsN.out, ← Hj.out, Hls.out, List.getElem?_map, List.getElem?_eq_getElem (by rw [HQ.out]; exact hjN), List.getElem_map]; rfl
            have hlowi := hlow' _ (List.mem_of_getElem? hls1)
            have hlowj : Low (q.map Dr.rr)[j].l := hlow' _ (by rw [Hls.out, List.getElem_map]; exact List.mem_map.2 ⟨q[j]'(by rw [HQ.out]; exact hjN), List.getElem_mem _, rfl⟩)
            have HA1 : Hid (add QA (q.map Dr.rr)[i].l = add [] (ls.take (i + 1)).flatten) := Lib.hid (by rw [take_flat ls hls1, add_append, ← HA.out])
            have HB1 : Hid (add QB (q.map Dr.rr)[j].l = add [] (lt.take (i + 1)).flatten) := Lib.hid (by rw [take_flat lt hls2, add_append, ← HB.out])
            obtain ⟨bi, hbi⟩ : ∃ bi, bi = (q.map Dr.rr)[i] := ⟨_, rfl⟩
            obtain ⟨bj, hbj⟩ : ∃ bj, bj = (q.map Dr.rr)[j] := ⟨_, rfl⟩
            have Hbi := Lib.hid hbi
            have Hbj := Lib.hid hbj
            rw [← hbi] at hlowi HA1
            rw [← hbj] at hlowj HB1
            clear hls1 hls2 hbi hbj
            obtain ⟨n9, hn9⟩ : ∃ n9, n9 = bi.l.length := ⟨_, rfl⟩
            obtain ⟨n8, hn8⟩ : ∃ n8, n8 = bj.l.length := ⟨_, rfl⟩
            have H9 := Lib.hid hn9
            have H8 := Lib.hid hn8
            clear hn9 hn8
            have hkN' : k ≤ 20 := by omega
            clear hRr
            go_wp2_with fail
            refine hall.mono ?_
            rintro e w5 ⟨A5, rfl, hI5, hg5⟩
            clear hall hI5
            have hT5 := hT.grow hg5
            have hj5 := hj.trans (Just.of_grow hg5)
            have hs5 := hj5.size
            have hR5 := hRI.just hj5 fun x hx h => by have := hx.2; omega
            obtain ⟨ad, ea, hc⟩ := row_at hR5 hli
            have hc0 := hc w5 (Grow.refl _)
            rw [← Hbi.out, val_of bi H9.out] at hc0
            have hri := hR5.all _ (List.getElem_mem hli)
            rw [← Hbi.out] at hri
            subst ea
            have hadd := hT5.add1 (Grow.refl _) (c := bi.c) hri.ins (fun x hx => .inl fun h => by have := hx.2; omega) hri.ok (Nat.le_trans hri.small (by omega)) (by omega)
            rw [hLA.may (by omega) hlowi, hLA.addM_ (by omega) hlowi, ← H9.out] at hadd
            have hLA1 := hLA.more hlowi
            have hge : QA.length ≤ (add QA bi.l).length := add_ge bi.l QA
            have hfa1 := hLA1.few
            generalize add QA bi.l = QA1 at hadd HA1 hLA1 hge hfa1
            clear hT hj hg5 hR5 hri hc
            have hiN2 : ¬ N ≤ i := by omega
            go_wp2_with fail
            refine hadd.mono ?_
            rintro e w6 ⟨rfl, hj6, hT6⟩
            clear hadd hc0
            have hj56 := hj5.trans hj6
            have hs6 := hj56.size
            have hR6 := hRI.just hj56 fun x hx h => by have := hx.2; omega
            obtain ⟨ad', ea, hc⟩ := row_at hR6 hlj
            injection ea with ea
            subst ea
            have hc0 := hc w6 (Grow.refl _)
            rw [← Hbj.out, val_of bj H8.out] at hc0
            have hri := hR6.all _ (List.getElem_mem hlj)
            rw [← Hbj.out] at hri
            have hadd := hT6.add2 (Grow.refl _) (c := bj.c) hri.ins (fun x hx => .inl fun h => by have := hx.2; omega) hri.ok (Nat.le_trans hri.small (by omega)) (by omega)
            rw [hLB.may (by omega) hlowj, hLB.addM_ (by omega) hlowj, ← H8.out] at hadd
            have hLB1 := hLB.more hlowj
            generalize add QB bj.l = QB1 at hadd HB1 hLB1
            clear hT5 hj5 hj6 hR6 hri hc hLA hLB HA HB
            go_wp2_with fail
            refine hadd.mono ?_
            rintro e w7 ⟨rfl, hj7, hT7⟩
            clear hadd hc0
            have hj57 := hj56.trans hj7
            have hs7 := hj57.size
            have hga : Grow w7 (w7.alloc (.cells #[.string { data := #[107, 61, 118] }, .int .u64 1, .string { data := #[97, 61, 49] }, .int .u64 18446744073709551615, .string { data := #[97, 61, 49] }, .int .u64 1] 34)) := (Below.refl _ _).alloc (Nat.le_refl _) _
            have hadd := hT7.add1 hga (n := 3) (c := 3) (l := badL) (in_laid w7 #[.string { data := #[107, 61, 118] }, .int .u64 1, .string { data := #[97, 61, 49] }, .int .u64 18446744073709551615, .string { data := #[97, 61, 49] }, .int .u64 1] 34 rfl) (fun x hx => .inr (by omega)) bad_ok (by omega) (by omega)
            rw [bad_may, bad_add] at hadd
            clear hT6 hj56 hga
            go_wp2_with fail
            refine hadd.mono ?_
            rintro e w8 ⟨rfl, hj8, hT8⟩
            clear hadd hT7
            have hj58 := hj57.trans hj8
            have hs8 := hj58.size
            have hall := Two.all1 hT8 (by omega)
            have hget : decide ((QA1.length : Int) < (QA.length : Int)) = false := decide_eq_false (by omega)
            have hget2 : decide (QA1.length < QA.length) = false := decide_eq_false (by omega)
            go_wp2_with fail
            refine hall.mono ?_
            rintro e w9 ⟨A9, rfl, hI9, hg9⟩
            clear hall
            have hT9 := hT8.grow hg9
            have hj59 := hj58.trans (Just.of_grow hg9)
            clear hI9 hT8 hj57 hj58 hj8
            go_wp2_with fail
            go_roundw
            case rel => exact ⟨i + 1, QA1, QB1, by omega, by go_num, HA1, HB1, hLA1, hLB1, hT9, hj59⟩
            case measure => simp [intOf]; omega
          · obtain rfl : N = i := by omega
            have hit : decide ((N : Int) < (N : Int)) = false := decide_eq_false (by omega)
            obtain ⟨QF, HF⟩ : ∃ QF : Sm, Hid (QF = add [] ls.flatten) := ⟨_, rfl⟩
            have hA2 : QA = QF := by rw [HA.out, HF.out, List.take_of_length_le (by rw [hlsN.out]; exact Nat.le_refl _)]
            have hB2 : QB = QF := by
              rw [HB.out, HF.out, List.take_of_length_le (by rw [Hlt.out, List.length_append, List.length_drop, List.length_take, hlsN.out]; omega), Hlt.out, List.flatten_append, add_swap, ← List.flatten_append, List.take_append_drop]
            rw [hA2, hB2] at hT
            rw [hA2] at hLA
            have hfa := hLA.few
            have hgF : Grow w _ := Below.trans hgF (hj.below (B := w.heap.size) (fun x hx => by omega) (by omega))
            clear hA2 hB2 HA HB hRI hj
            have hA1 := Two.all1 hT (by omega)
            go_wp2_with fail
            refine hA1.mono ?_
            rintro e w8 ⟨A8, rfl, hI8, hg8⟩
            clear hA1
            have hT8 := hT.grow hg8
            have hA2 := hT8.all2 (by omega)
            go_wp2_with fail
            refine hA2.mono ?_
            rintro e w9 ⟨A9, rfl, hI9, hg9⟩
            clear hA2
            have hsd := SameDeltas_any w9 A8 A9 QF.length QF.length QF.length QF _ _ (hI8.grow hg9) hI9 (by omega)
            go_wp2_with fail
            refine hsd.mono ?_
            rintro e w10 ⟨rfl, hg10⟩
            clear hsd
            go_wp2_with fail
            refine (known_any _).mono ?_
            rintro e w11 ⟨rfl, hg11⟩
            go_wp2_with fail
            go_ret
            have hg08 := below_trans hgF hg8 hgF.size
            have hg09 := below_trans hg08 hg9 hg08.size
            have hg010 := below_trans hg09 hg10 hg09.size
            exact ⟨rfl, below_trans hg010 hg11 hg010.size⟩
      · obtain rfl : N = 0 := by omega
        have hn0t : decide ((0 : Int) < ((0 : Nat) : Int)) = false := rfl
        go_wp2_with fail
        rw [show ((0 : Nat) : Int) = 0 from rfl]
        go_loopw [69] (fun i' wz => i' = .int .i64 0 ∧ Two (fun x => wA.heap.size ≤ x) a b [] [] wz ∧ Grow w wz) (fun i' _ => 0)
        case atStart => exact ⟨rfl, hTr, hgF⟩
        case round =>
          clear hTr hgF
          obtain ⟨rfl, hT, hgF⟩ := hrel
          obtain ⟨QF, HF⟩ : ∃ QF : Sm, Hid (QF = []) := ⟨_, rfl⟩
          have hfa : QF.length ≤ 8 := by rw [HF.out]; simp
          rw [← HF.out] at hT
          have hA1 := Two.all1 hT (by omega)
          go_wp2_with fail
          refine hA1.mono ?_
          rintro e w8 ⟨A8, rfl, hI8, hg8⟩
          clear hA1
          have hT8 := hT.grow hg8
          have hA2 := hT8.all2 (by omega)
          go_wp2_with fail
          refine hA2.mono ?_
          rintro e w9 ⟨A9, rfl, hI9, hg9⟩
          clear hA2
          have hsd := SameDeltas_any w9 A8 A9 QF.length QF.length QF.length QF _ _ (hI8.grow hg9) hI9 (by omega)
          go_wp2_with fail
          refine hsd.mono ?_
          rintro e w10 ⟨rfl, hg10⟩
          clear hsd
          go_wp2_with fail
          refine (known_any _).mono ?_
          rintro e w11 ⟨rfl, hg11⟩
          go_wp2_with fail
          go_ret
          have hg08 := below_trans hgF hg8 hgF.size
          have hg09 := below_trans hg08 hg9 hg08.size
          have hg010 := below_trans hg09 hg10 hg09.size
          exact ⟨rfl, below_trans hg010 hg11 hg010.size⟩
end Go.Proofs.Ytnijeemldhmkjaa
