/- LabelBack: its walk. -/
import Derived.Test.YthkkfdnechmddaaDoorWrefuses
namespace Go.Proofs.YthkkfdnechmddaaDoor
open Go.RowKit Go.Hop
theorem turned_text {w : World} {B n k : Nat} {l : List Lb} {v : Value} {ta : ByteArray} (hTX : ∀ w1 A c, In w1 (fun b => b < w1.heap.size) 2 A (n - k + k) (lcells (l.drop k ++ l.take k)) → Calls Tryd.prog 15 #[.slice A (n - k + k) c] w1 fun e w' => e = .returned (.tuple #[.string ta, .int .i64 0]) ∧ Grow w1 w')
    (h : OwnF B 25 2 (n - k + k) ((lcells l).drop (k * 2) ++ (lcells l).take (k * 2)) v w) : Calls Tryd.prog 15 #[v] w fun e w' => e = .returned (.tuple #[.string ta, .int .i64 0]) ∧ Grow w w' := by
  obtain ⟨A, c, rfl, hI, _, _⟩ := Own.in_ h
  refine hTX w A c ?_
  have : lcells (l.drop k ++ l.take k) = (lcells l).drop (k * 2) ++ (lcells l).take (k * 2) := by
    unfold lcells
    rw [List.flatMap_append, flat_take lcell 2 lcell_len, flat_drop lcell 2 lcell_len]
  rw [this]
  exact hI.mono fun b hb => hb.2
theorem Made.read {l : List Lb} (h : Made l) (h0 : l ≠ []) : parseE (textOf l) = 0 ∧ parseL (textOf l) = can l := by
  have hr := h.right h0
  have hp := parse_text hr
  rw [← text_zero hr] at hp
  unfold parseE parseL
  rw [hp.1]
  exact ⟨rfl, hp.2⟩
theorem Made.turn {l q : List Lb} (h : Made l) (h0 : l ≠ []) (hp : l.Perm q) : rightE q = 0 ∧ textOf q = textOf l := by
  have hr := h.right h0
  have hr2 : rightE q = 0 := by rw [← right_perm hp]; exact hr
  exact ⟨hr2, by rw [text_zero hr, text_zero hr2, can_perm hp h.sub]⟩
theorem Made.rising {l : List Lb} (h : Made l) {i j : Nat} (hi : i < (can l).length) (hj : j < i) : slt (can l)[j].1 (can l)[i].1 = true :=
  List.pairwise_iff_getElem.1 ((can_by l).strict h.sub) j i (by omega) hi hj
set_option maxRecDepth 100000 in
set_option maxHeartbeats 1000000 in
theorem back_any (w : World) (A0 : Option Addr) (n0 c0 : Nat) (l0 : List Int) (x1 : Int) (hl0 : Reads w w.heap.size 1 A0 n0 (l0.map (Value.int .i64))) (hx0 : ∀ z ∈ l0, -9223372036854775808 ≤ z ∧ z ≤ 9223372036854775807) (hn0 : n0 ≤ 9223372036854775807) :
    Calls Tryd.prog 5 #[.slice A0 n0 c0, .int .i64 x1] w fun e w' => e = .returned (.bool true) ∧ Grow w w' := by
  have hI0 : In w (fun b => b < w.heap.size) 1 A0 n0 (l0.map (Value.int .i64)) := Reads.in_ hl0 (Nat.le_refl _) fun _ h => h
  have hT0 := tape_made w A0 n0 c0 l0 hI0 hx0 hn0
  have hg0 : Grow w (w.alloc (.cells #[.slice A0 n0 c0, .int .i64 0] 32)) := (Below.refl _ _).alloc (Nat.le_refl _) _
  have hs0 := hg0.size
  go_enter Tryd.func5, Tryd.ntmps5
  go_wp2_with fail
  refine (Labels_any _ _ _ hT0 fun b hb => by omega).mono ?_
  rintro e w2 ⟨v, l, rfl, hO, hM, hT2, hj2⟩
  obtain ⟨A, c, rfl, hI, hnc, hcm⟩ := hO.in_
  have hg2 : Grow w w2 := Below.trans hg0 (hj2.below (B := w.heap.size) (fun b hb => by omega) hs0)
  have hs2 := hg2.size
  have hsm := hM.small
  have hfew := hM.few
  clear hO hT0 hT2 hj2 hI0 hl0
  obtain ⟨n, HN⟩ : ∃ n : Nat, Hid (n = l.length) := ⟨_, rfl⟩
  rw [← HN.out] at hI hnc hfew
  rw [show l.length = n from HN.out.symm]
  by_cases hn : n = 0
  · have hn0' : decide ((n : Int) = 0) = true := decide_eq_true (by omega)
    subst hn
    have hl0 : l = [] := List.eq_nil_of_length_eq_zero HN.out.symm
    subst hl0
    have hr := Right_any w2 _ A 0 c [] hI (by simp) (by omega)
    rw [show rightE [] = 1 by decide +kernel] at hr
    go_wp2_with fail
    refine hr.mono ?_
    rintro e w3 ⟨rfl, hg3⟩
    have hg23 := below_trans hg2 hg3 hs2
    go_wp2_with fail
    refine (known_any w3).mono ?_
    rintro e w4 ⟨rfl, hg4⟩
    go_wp2_with fail
    go_ret
    exact ⟨rfl, below_trans hg23 hg4 hg23.size⟩
  have hn0' : decide ((n : Int) = 0) = false := decide_eq_false (by omega)
  obtain ⟨k, hkn, hq1, hq2, hk⟩ := kin x1 (n := n) (by omega)
  have hn1 : ¬ (n : Int) = 0 := by omega
  have hw : wrap64 (x1.tmod n + n) = x1.tmod n + n := by unfold wrap64; omega
  have hk' : (wrap64 (x1.tmod n + n)).tmod n = (k : Int) := by rw [hw]; exact hk
  clear hw hk hq1 hq2
  have hkc : ¬ n ≤ k := by omega
  have hlz : l ≠ [] := fun e => hn (by rw [HN.out, e]; rfl)
  have hT1 := Text_any w2 _ A n c l hI hsm (by omega)
  rw [hM.right hlz] at hT1
  obtain ⟨hp1, hp2⟩ := hM.read hlz
  have hsz := text_small (l := l)
  have hPR := fun w => Parse_any w (textOf l) (by omega)
  have hPN := fun w => Print_any w (textOf l) (by unfold maxLen; omega)
  have hSH := fun w => Shard_any w (textOf l) 4 (by unfold maxLen; omega) (by omega)
  have h42 := shard_four (textOf l)
  have hrise := fun (i j : Nat) (hi : i < (can l).length) (hj : j < i) => hM.rising hi hj
  have HRISE := Lib.hid hrise
  have hcl : (can l).length = n := by rw [(can_by l).len, ← HN.out]
  have htp := hM.turn hlz (q := l.drop k ++ l.take k) ((List.perm_append_comm (l₁ := l.drop k)).trans (by rw [List.take_append_drop])).symm
  have hsmt : ∀ d ∈ l.drop k ++ l.take k, d.1.size ≤ maxLen ∧ d.2.size ≤ maxLen := fun d hd => by
    rcases List.mem_append.1 hd with hd | hd
    · exact hsm d (List.mem_of_mem_drop hd)
    · exact hsm d (List.mem_of_mem_take hd)
  have hTX := fun w1 A c hI => Text_any w1 (fun b => b < w1.heap.size) A (n - k + k) c (l.drop k ++ l.take k) hI hsmt (by omega)
  rw [htp.1, htp.2] at hTX
  rw [hp1, hp2, hcl] at hPR
  clear htp hsmt hp1 hp2 hsz hrise
  generalize textOf l = ta at hT1 hTX hPR hPN hSH h42
  generalize printI ta.data.toList = pa at hPN
  generalize shardI ta 4 = s4 at hSH h42
  go_wp2_with fail
  refine hT1.mono ?_
  rintro e w3 ⟨rfl, hg3⟩
  clear hT1
  obtain ⟨ad, hkl, rfl, _, _⟩ := lab_at hI hkn
  have hI' : In w3 (fun b => b < w3.heap.size) 2 (some ad) n (lcells l) := (hI.grow hg3).mono fun b hb => by have := hb.2; have := hg3.size; omega
  obtain ⟨B, HBd⟩ : ∃ B : Nat, Hid (B = w3.heap.size) := ⟨_, rfl⟩
  have HB : ∀ w1, Just (FromB B) w3 w1 → B ≤ w1.heap.size := fun w1 h => HBd.out ▸ h.size
  have hDB : ∀ b, b < w3.heap.size → ¬ FromB B b := fun b hb h => by have h2 : B ≤ b := h; have := HBd.out; omega
  obtain ⟨A2, HA2⟩ : ∃ A2 : Option Addr, Hid (A2 = if c = k then some ad else (some ad).map (·.add (k * 2))) := ⟨_, rfl⟩
  have hIb : ∀ w1, Just (FromB B) w3 w1 → Reads w1 w1.heap.size 2 (some ad) k ((lcells l).take (k * 2)) := fun w1 hj => ((hI'.just hj hDB).take (by omega)).reads
  have hIc : ∀ w1, Just (FromB B) w3 w1 → Reads w1 w1.heap.size 2 A2 (n - k) ((lcells l).drop (k * 2)) := fun w1 hj => by
    have := (hI'.just hj hDB).reads.cut (k := k) (by omega) hnc
    rwa [← HA2.out] at this
  have hone := lcells_one l
  have hone1 : ∀ u ∈ (lcells l).take (k * 2), u.oneCell' = true := fun u hu => hone u (List.mem_of_mem_take hu)
  have hone2 : ∀ u ∈ (lcells l).drop (k * 2), u.oneCell' = true := fun u hu => hone u (List.mem_of_mem_drop hu)
  have hck : ¬ c < k := by omega
  have hck1 : ¬ n < k := by omega
  have hck2 : ¬ c < n := by omega
  have k15 : ∀ (vs : Array Value) (w : World), (callFunc 15 vs).run Tryd.prog w = .ok (.enter 15 vs) w := fun vs w => by go_simp
  go_wp2_with fail
  refine wp_region_reg rfl ?_
  refine reg_flow (OneStL B 8 [(4, 0), (9, 1)]) (oneStL_ok B 8 _) 0 15 123 [(0, .inr (KF 0 (EmptyF B 25 2))), (4, .inr (KF 0 (OwnF B 25 2 (n - k) ((lcells l).drop (k * 2))))), (8, .inr (KF 1 (OwnF B 25 2 (n - k + k) ((lcells l).drop (k * 2) ++ (lcells l).take (k * 2))))), (9, .inl (.tuple #[.string ta, .int .i64 0]))] rfl (by kernel_rfl) (by kernel_rfl) (by kernel_rfl) ?_ (Just.of_grow (Grow.refl _).drew) trivial ?_
  · intro x hx φ he
    simp only [List.mem_cons, List.not_mem_nil, or_false] at hx
    rcases hx with rfl | rfl | rfl | rfl <;> cases he
    all_goals first | exact lasts_quiet (lasting_bytes _) | exact kf_lasts (ownF_lasting _ _ _ _ _) _ | exact kf_lasts (emptyF_lasting _ _ _) _ | exact kf_lasts (readF_lasting _ _ _) _
  intro ops' A' K' T hops hA' hK hT
  refine fl_any 44 (by rfl) (by decide) (wanted_none (by rfl)) (KF 0 (EmptyF B 25 2)) (by rw [hK.out]; rfl) (fun kk w1 (hg : Just (FromB B) _ w1) hb hf => by refine upon_behindAny (φ := KF 0 (EmptyF B 25 2)) (by rfl) ?_; exact upon_imp (empty_made labelE (HB w1 hg) rfl) fun u w2 h => ⟨h.1, early_of h.2⟩) (fun v44 => ?_)
  refine fl_mv 45 (by rfl) (by decide) (wanted_none (by rfl)) (by rw [hK.out]; rfl) (by rfl) _ (Or.inl (by rfl)) (.slice (some ad) n c) (by rfl) ?_
  refine fl_mv 46 (by rfl) (by decide) (wanted_none (by rfl)) (by rw [hK.out]; rfl) (by rfl) _ (Or.inl (by rfl)) (.int .i64 (k : Int)) (by rfl) ?_
  refine fl_op2 47 (by rfl) (by decide) (wanted_none (by rfl)) (by rw [hK.out]; rfl) (by rfl) (.tmp 45) (.tmp 46) (.slice (some ad) n c) (.int .i64 (k : Int)) (by rfl) (by rfl) (.slice A2 (n - k) (c - k)) (fun ρ h1 h2 kk w1 (hg : Just (FromB B) _ w1) hb hf => by have hA := HA2.out; go_simp) ?_
  refine fl_any2 48 (by rfl) (by decide) (wanted_none (by rfl)) (KF 0 (OwnF B 25 2 (n - k) ((lcells l).drop (k * 2)))) (by rw [hK.out]; rfl) (.tmp 44) (.tmp 47) (v44) (.slice A2 (n - k) (c - k)) (by rfl) (by rfl) (fun ρ h1 h2 kk w1 (hg : Just (FromB B) _ w1) hb hf => by obtain rfl := before_some 0 (by rfl) hb; have hI := hb.1; refine upon_behindAny (φ := KF 0 (OwnF B 25 2 (n - k) ((lcells l).drop (k * 2)))) (by rfl) ?_; have q1 := (facts_take hf (by rw [hA'.out]; kernel_rfl)); have hu : EmptyF B 25 2 v44 w1 := q1; exact upon_imp (empty_app labelE hu h1 h2 (hIc w1 hg) hone2 (by omega) (HB w1 hg) rfl) fun u w2 h => ⟨h.1, early_of h.2⟩) (fun v48 => ?_)
  refine fl_mv 49 (by rfl) (by decide) (wanted_none (by rfl)) (by rw [hK.out]; rfl) (by rfl) _ (Or.inl (by rfl)) (.slice (some ad) n c) (by rfl) ?_
  refine fl_mv 50 (by rfl) (by decide) (wanted_none (by rfl)) (by rw [hK.out]; rfl) (by rfl) _ (Or.inl (by rfl)) (.int .i64 (k : Int)) (by rfl) ?_
  refine fl_op2 51 (by rfl) (by decide) (wanted_none (by rfl)) (by rw [hK.out]; rfl) (by rfl) (.tmp 49) (.tmp 50) (.slice (some ad) n c) (.int .i64 (k : Int)) (by rfl) (by rfl) (.slice (some ad) k c) (fun ρ h1 h2 kk w1 (hg : Just (FromB B) _ w1) hb hf => by go_simp) ?_
  refine fl_any2 52 (by rfl) (by decide) (wanted_none (by rfl)) (KF 1 (OwnF B 25 2 (n - k + k) ((lcells l).drop (k * 2) ++ (lcells l).take (k * 2)))) (by rw [hK.out]; rfl) (.tmp 48) (.tmp 51) (v48) (.slice (some ad) k c) (by rfl) (by rfl) (fun ρ h1 h2 kk w1 (hg : Just (FromB B) _ w1) hb hf => by obtain rfl := before_some 0 (by rfl) hb; have hI := hb.1; refine upon_turnAny (φ := KF 1 (OwnF B 25 2 (n - k + k) ((lcells l).drop (k * 2) ++ (lcells l).take (k * 2)))) 0 (by rfl) ?_; have q1 := (facts_take hf (by rw [hA'.out]; kernel_rfl)); have hu : OwnF B 25 2 (n - k) ((lcells l).drop (k * 2)) v48 w1 := q1; exact two_app labelE hu h1 h2 (hIb w1 hg) hone1 (by omega) (HB w1 hg) rfl) (fun v52 => ?_)
  refine fl_call 53 (by rfl) (by decide) (wanted_none (by rfl)) (.tuple #[.string ta, .int .i64 0]) (by rw [hK.out]; rfl) 15 _ _ (by rfl) [v52] (by rfl) k15 (fun kk w1 (hg : Just (FromB B) _ w1) hb hf => calls_behind (by rfl) (by obtain rfl := before_some 1 (by rfl) hb; have hI := hb.1; exact turned_text hTX (facts_take hf (by rw [hA'.out]; kernel_rfl)))) ?_
  refine fl_mv 43 (by rfl) (by decide) (wanted_none (by rfl)) (by rw [hK.out]; rfl) (by rfl) _ (Or.inl (by rfl)) (.tuple #[.string ta, .int .i64 0]) (by rfl) ?_
  refine fl_op1 54 (by rfl) (by decide) (wanted_none (by rfl)) (by rw [hK.out]; rfl) (by rfl) (.tmp 43) (.tuple #[.string ta, .int .i64 0]) (by rfl) (.string ta) (fun ρ h1 kk w1 (hg : Just (FromB B) _ w1) hb hf => by go_simp) ?_
  refine fl_op1 55 (by rfl) (by decide) (wanted_none (by rfl)) (by rw [hK.out]; rfl) (by rfl) (.tmp 43) (.tuple #[.string ta, .int .i64 0]) (by rfl) (.int .i64 0) (fun ρ h1 kk w1 (hg : Just (FromB B) _ w1) hb hf => by go_simp) ?_
  refine fl_mv 9 (by rfl) (by decide) (wanted_none (by rfl)) (by rw [hK.out]; rfl) (by rfl) _ (Or.inr (by rfl)) (.string ta) (by rfl) ?_
  refine fl_mv 10 (by rfl) (by decide) (wanted_none (by rfl)) (by rw [hK.out]; rfl) (by rfl) _ (Or.inr (by rfl)) (.int .i64 0) (by rfl) ?_
  refine fl_end (fun _ _ w1 (hg : Just (FromB B) _ w1) hend hfacts => hT _ _ ?_)
  clear hops hA' hK hT
  simp only [putsL, Act.put, List.setIfInBounds_toArray, List.set_cons_zero, List.set_cons_succ]
  clear hend hfacts
  obtain ⟨w4, rfl⟩ : ∃ w4 : World, w4 = w1 := ⟨_, rfl⟩
  have hg4 : Grow w3 w4 := hg.below (B := w3.heap.size) (fun b hb => by have h2 : B ≤ b := hb; have := HBd.out; omega) (Nat.le_refl _)
  have hg24 := below_trans hg2 (hg3.trans hg4) hs2
  clear hg HB hDB hI' hI hIb hIc hsm hM hk' hTX hone hone1 hone2 hg2 hg3 hg4 HBd HA2
  refine reg_end ?_
  go_wp2_with fail
  refine (hPR w4).mono ?_
  rintro e w5 ⟨A9, c9, rfl, hI9, hnc9, hg5⟩
  clear hPR
  have hg25 := below_trans hg24 hg5 hg24.size
  have hsz5 := hg25.size
  clear hg24 hg5
  obtain ⟨a9, hcl9, rfl, _, _⟩ := lab_at hI9 hkn
  go_wp2_with fail
  refine (hPN w5).mono ?_
  rintro e w' ⟨rfl, rfl⟩
  go_wp2_with fail
  refine (hPN w5).mono ?_
  rintro e w' ⟨rfl, rfl⟩
  clear hPN
  go_wp2_with fail
  go_loopw [92] (fun i wr => ∃ i' : Nat, i' ≤ n ∧ i = .int .i64 (i' : Int) ∧ Grow w5 wr) (fun i _ => n - (intOf i).toNat)
  case atStart => exact ⟨0, by omega, rfl, Grow.refl _⟩
  case round =>
    obtain ⟨i, hin, rfl, hgr⟩ := hrel
    by_cases hi : i < n
    · have hd1 : decide ((i : Int) < (n : Int)) = true := decide_eq_true (by omega)
      have hin' : ¬ n ≤ i := by omega
      by_cases hi0 : i = 0
      · have hd2 : decide ((0 : Int) < (i : Int)) = false := decide_eq_false (by omega)
        have hd3 : ¬ 0 < i := by omega
        have HI0 := Lib.hid hi0
        clear hi0
        go_wp2_with fail
        refine wp_region_flow 16 123 [] rfl rfl (by kernel_rfl) (by kernel_rfl) (by kernel_rfl) ?_ ?_
        · intro x hx φ he
          cases hx
        intro ops' A' K' T hops hA' hK hT
        refine fl_mv 95 (by rfl) (by decide) (wanted_none (by rfl)) (by rw [hK.out]; rfl) (by rfl) _ (Or.inl (by rfl)) (.int .i64 (i : Int)) (by rfl) ?_
        refine fl_op2 96 (by rfl) (by decide) (wanted_none (by rfl)) (by rw [hK.out]; rfl) (by rfl) (.tmp 95) (.const (.int .i64 0)) (.int .i64 (i : Int)) (.int .i64 0) (by rfl) (by rfl) (.bool false) (fun ρ h1 h2 kk w1 (hg : Grow _ w1) hb hf => by go_simp) ?_
        refine fl_mv 97 (by rfl) (by decide) (wanted_none (by rfl)) (by rw [hK.out]; rfl) (by rfl) _ (Or.inl (by rfl)) (.bool false) (by rfl) ?_
        refine fl_skip 98 (by rfl) (by decide) (wanted_if hops 2 true (by rfl) 97 (by rfl) false (by rfl)) (by rfl) ?_
        refine fl_skip 99 (by rfl) (by decide) (wanted_if hops 2 true (by rfl) 97 (by rfl) false (by rfl)) (by rfl) ?_
        refine fl_skip 100 (by rfl) (by decide) (wanted_if hops 2 true (by rfl) 97 (by rfl) false (by rfl)) (by rfl) ?_
        refine fl_skip 101 (by rfl) (by decide) (wanted_if hops 2 true (by rfl) 97 (by rfl) false (by rfl)) (by rfl) ?_
        refine fl_skip 102 (by rfl) (by decide) (wanted_if hops 2 true (by rfl) 97 (by rfl) false (by rfl)) (by rfl) ?_
        refine fl_skip 103 (by rfl) (by decide) (wanted_if hops 2 true (by rfl) 97 (by rfl) false (by rfl)) (by rfl) ?_
        refine fl_skip 104 (by rfl) (by decide) (wanted_if hops 2 true (by rfl) 97 (by rfl) false (by rfl)) (by rfl) ?_
        refine fl_skip 105 (by rfl) (by decide) (wanted_if hops 2 true (by rfl) 97 (by rfl) false (by rfl)) (by rfl) ?_
        refine fl_skip 106 (by rfl) (by decide) (wanted_if hops 2 true (by rfl) 97 (by rfl) false (by rfl)) (by rfl) ?_
        refine fl_skip 107 (by rfl) (by decide) (wanted_if hops 2 true (by rfl) 97 (by rfl) false (by rfl)) (by rfl) ?_
        refine fl_skip 108 (by rfl) (by decide) (wanted_if hops 2 true (by rfl) 97 (by rfl) false (by rfl)) (by rfl) ?_
        refine fl_skip 109 (by rfl) (by decide) (wanted_if hops 2 true (by rfl) 97 (by rfl) false (by rfl)) (by rfl) ?_
        refine fl_pick 110 (by rfl) (by decide) (wanted_none (by rfl)) (by rw [hK.out]; rfl) (by rfl) _ _ _ (by rfl) false (by rfl) (.bool false) (by rfl) ?_
        refine fl_end (fun _ _ w1 (hg : Grow _ w1) _ hfacts => hT _ _ ?_)
        clear hops hA' hK hT
        simp only [putsL, Act.put, List.setIfInBounds_toArray, List.set_cons_zero, List.set_cons_succ, List.drop_succ_cons, List.drop_zero]
        clear hfacts
        go_wp2_with fail
        go_roundw
        case rel => exact ⟨i + 1, by omega, by go_num, hgr.trans hg⟩
        case measure => simp [intOf]; omega
      · have hd2 : decide ((0 : Int) < (i : Int)) = true := decide_eq_true (by omega)
        have hd3 : 0 < i := by omega
        obtain ⟨j, HJ⟩ : ∃ j : Nat, Hid (i = j + 1) := ⟨i - 1, Lib.hid (by omega)⟩
        have hjn : j < n := by have := HJ.out; omega
        have hij : (i : Int) - 1 = (j : Int) := by have := HJ.out; omega
        have hwj : IntKind.i64.wrap (j : Int) = (j : Int) := by rw [IntKind.wrap_i64]; omega
        have hjneg : ¬ (j : Int) < 0 := by omega
        have hjn' : ¬ n ≤ j := by omega
        have hI9r := hI9.grow hgr
        obtain ⟨b1, hq1, e1, hp, _⟩ := lab_at hI9r hi
        injection e1 with e1
        subst e1
        obtain ⟨b1, hq2, e1, hq, _⟩ := lab_at hI9r hjn
        injection e1 with e1
        subst e1
        have hlt := HRISE.out i j hq1 (by have := HJ.out; omega)
        generalize (can l)[i].1 = p at hp hlt
        generalize (can l)[j].1 = q at hq hlt
        have hpq : ¬ p.toList = q.toList := fun e => by
          have h2 := slt_no hlt
          unfold slt at h2 hlt
          rw [e] at h2 hlt
          rw [h2] at hlt
          cases hlt
        have hcp := slt_no hlt
        unfold slt at hcp
        clear hi0 hlt hI9r
        go_wp2_with fail
        refine wp_region_flow 16 123 [] rfl rfl (by kernel_rfl) (by kernel_rfl) (by kernel_rfl) ?_ ?_
        · intro x hx φ he
          cases hx
        intro ops' A' K' T hops hA' hK hT
        refine fl_mv 95 (by rfl) (by decide) (wanted_none (by rfl)) (by rw [hK.out]; rfl) (by rfl) _ (Or.inl (by rfl)) (.int .i64 (i : Int)) (by rfl) ?_
        refine fl_op2 96 (by rfl) (by decide) (wanted_none (by rfl)) (by rw [hK.out]; rfl) (by rfl) (.tmp 95) (.const (.int .i64 0)) (.int .i64 (i : Int)) (.int .i64 0) (by rfl) (by rfl) (.bool true) (fun ρ h1 h2 kk w1 (hg : Grow _ w1) hb hf => by go_simp) ?_
        refine fl_mv 97 (by rfl) (by decide) (wanted_none (by rfl)) (by rw [hK.out]; rfl) (by rfl) _ (Or.inl (by rfl)) (.bool true) (by rfl) ?_
        refine fl_mv 98 (by rfl) (by decide) (wanted_if hops 2 true (by rfl) 97 (by rfl) true (by rfl)) (by rw [hK.out]; rfl) (by rfl) _ (Or.inl (by rfl)) (.slice (some a9) n c9) (by rfl) ?_
        refine fl_mv 99 (by rfl) (by decide) (wanted_if hops 2 true (by rfl) 97 (by rfl) true (by rfl)) (by rw [hK.out]; rfl) (by rfl) _ (Or.inl (by rfl)) (.int .i64 (i : Int)) (by rfl) ?_
        refine fl_op2 100 (by rfl) (by decide) (wanted_if hops 2 true (by rfl) 97 (by rfl) true (by rfl)) (by rw [hK.out]; rfl) (by rfl) (.tmp 98) (.tmp 99) (.slice (some a9) n c9) (.int .i64 (i : Int)) (by rfl) (by rfl) (.pointer (some (a9.add (i * 2)))) (fun ρ h1 h2 kk w1 (hg : Grow _ w1) hb hf => by go_simp; try (intro hlt; omega)) ?_
        refine fl_op1 101 (by rfl) (by decide) (wanted_if hops 2 true (by rfl) 97 (by rfl) true (by rfl)) (by rw [hK.out]; rfl) (by rfl) (.tmp 100) (.pointer (some (a9.add (i * 2)))) (by rfl) (.pointer (some (a9.add (i * 2)))) (fun ρ h1 kk w1 (hg : Grow _ w1) hb hf => by go_simp) ?_
        refine fl_op1 102 (by rfl) (by decide) (wanted_if hops 2 true (by rfl) 97 (by rfl) true (by rfl)) (by rw [hK.out]; rfl) (by rfl) (.tmp 101) (.pointer (some (a9.add (i * 2)))) (by rfl) (.string p) (fun ρ h1 kk w1 (hg : Grow _ w1) hb hf => by have c := hp w1 hg; go_simp) ?_
        refine fl_mv 103 (by rfl) (by decide) (wanted_if hops 2 true (by rfl) 97 (by rfl) true (by rfl)) (by rw [hK.out]; rfl) (by rfl) _ (Or.inl (by rfl)) (.slice (some a9) n c9) (by rfl) ?_
        refine fl_mv 104 (by rfl) (by decide) (wanted_if hops 2 true (by rfl) 97 (by rfl) true (by rfl)) (by rw [hK.out]; rfl) (by rfl) _ (Or.inl (by rfl)) (.int .i64 (i : Int)) (by rfl) ?_
        refine fl_op2 105 (by rfl) (by decide) (wanted_if hops 2 true (by rfl) 97 (by rfl) true (by rfl)) (by rw [hK.out]; rfl) (by rfl) (.tmp 104) (.const (.int .i64 1)) (.int .i64 (i : Int)) (.int .i64 1) (by rfl) (by rfl) (.int .i64 (j : Int)) (fun ρ h1 h2 kk w1 (hg : Grow _ w1) hb hf => by go_simp) ?_
        refine fl_op2 106 (by rfl) (by decide) (wanted_if hops 2 true (by rfl) 97 (by rfl) true (by rfl)) (by rw [hK.out]; rfl) (by rfl) (.tmp 103) (.tmp 105) (.slice (some a9) n c9) (.int .i64 (j : Int)) (by rfl) (by rfl) (.pointer (some (a9.add (j * 2)))) (fun ρ h1 h2 kk w1 (hg : Grow _ w1) hb hf => by go_simp; try (intro hlt; omega)) ?_
        refine fl_op1 107 (by rfl) (by decide) (wanted_if hops 2 true (by rfl) 97 (by rfl) true (by rfl)) (by rw [hK.out]; rfl) (by rfl) (.tmp 106) (.pointer (some (a9.add (j * 2)))) (by rfl) (.pointer (some (a9.add (j * 2)))) (fun ρ h1 kk w1 (hg : Grow _ w1) hb hf => by go_simp) ?_
        refine fl_op1 108 (by rfl) (by decide) (wanted_if hops 2 true (by rfl) 97 (by rfl) true (by rfl)) (by rw [hK.out]; rfl) (by rfl) (.tmp 107) (.pointer (some (a9.add (j * 2)))) (by rfl) (.string q) (fun ρ h1 kk w1 (hg : Grow _ w1) hb hf => by have c := hq w1 hg; go_simp) ?_
        refine fl_op2 109 (by rfl) (by decide) (wanted_if hops 2 true (by rfl) 97 (by rfl) true (by rfl)) (by rw [hK.out]; rfl) (by rfl) (.tmp 102) (.tmp 108) (.string p) (.string q) (by rfl) (by rfl) (.bool false) (fun ρ h1 h2 kk w1 (hg : Grow _ w1) hb hf => by go_simp) ?_
        refine fl_pick 110 (by rfl) (by decide) (wanted_none (by rfl)) (by rw [hK.out]; rfl) (by rfl) _ _ _ (by rfl) true (by rfl) (.bool false) (by rfl) ?_
        refine fl_end (fun _ _ w1 (hg : Grow _ w1) _ hfacts => hT _ _ ?_)
        clear hops hA' hK hT
        simp only [putsL, Act.put, List.setIfInBounds_toArray, List.set_cons_zero, List.set_cons_succ, List.drop_succ_cons, List.drop_zero]
        clear hfacts
        go_wp2_with fail
        go_roundw
        case rel => exact ⟨i + 1, by omega, by go_num, hgr.trans hg⟩
        case measure => simp [intOf]; omega
    · obtain rfl : n = i := by omega
      have hd1 : decide ((n : Int) < (n : Int)) = false := decide_eq_false (by omega)
      have h40 : decide ((0 : Int) ≤ s4) = true := decide_eq_true (by omega)
      have h44 : decide (s4 < 4) = true := decide_eq_true (by omega)
      go_wp2_with fail
      refine (hSH wr).mono ?_
      rintro e w' ⟨rfl, rfl⟩
      go_wp2_with fail
      refine (known_any wr).mono ?_
      rintro e w6 ⟨rfl, hg6⟩
      go_wp2_with fail
      go_ret
      exact ⟨rfl, below_trans (below_trans hg25 hgr hsz5) hg6 (below_trans hg25 hgr hsz5).size⟩
end Go.Proofs.YthkkfdnechmddaaDoor
