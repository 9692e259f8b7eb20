/- The document's own timers: set. -/
import Derived.Test.YtjjafpgpnmdjlaaPln
namespace Go.Proofs.Ytjjafpgpnmdjlaa
open Go.RowKit Go.Hop
theorem ins_at (a : It) : ∀ (L : List It) (k : Nat), k ≤ L.length → (∀ q, q < k → ¬ Lt a (hat L q)) → (k < L.length → Lt a (hat L k)) → ins a L = L.take k ++ a :: L.drop k
  | [], k, hk, _, _ => by
    obtain rfl : k = 0 := by simpa using hk
    rfl
  | b :: L, 0, _, _, h2 => by
    have := h2 (by simp)
    have hb : hat (b :: L) 0 = b := by unfold hat; simp
    rw [hb] at this
    unfold ins
    rw [if_pos this]
    rfl
  | b :: L, k + 1, hk, h1, h2 => by
    have hb : hat (b :: L) 0 = b := by unfold hat; simp
    have hs : ∀ q, hat (b :: L) (q + 1) = hat L q := fun q => by unfold hat; simp
    have h0 := h1 0 (by omega)
    rw [hb] at h0
    unfold ins
    rw [if_neg h0, ins_at a L k (by simpa using hk) (fun q hq => by have := h1 (q + 1) (by omega); rwa [hs] at this) (fun hq => by have := h2 (by simpa using hq); rwa [hs] at this)]
    rfl
theorem read_made {w : World} {a : It} {o : Oper} {ρ : Operand → Value} {x : Operand} (ho : o.op = .buildSlice 32 1 #[(0, x)]) (hx : ρ x = .agg #[.int .i64 a.1, .int .i64 a.2]) :
    flowUpon Try.prog (fun u w' => Grow w w' ∧ ReadF 2 1 (itc a) u w') ((execOp ρ o).run Try.prog w) := by
  refine upon_imp (one_made (B := 0) ho hx (Nat.zero_le _)) fun u w' ⟨hg, g, hu, _, hblk⟩ => ⟨hg, some ⟨g, 0, none⟩, 1, hu, rfl, fun _ => ⟨_, rfl, hblk.lt, fun j v hv => ?_⟩⟩
  rw [Addr.add_lit, Nat.zero_add]
  exact (hblk.cell j).trans (by simpa [itc] using hv)
def TwoStX (B m1 m2 : Nat) (st : List (Nat × Nat)) : Stages where
  G := Just (FromB B)
  T := fun _ => Just (FromB B)
  I := fun _ _ => True
  muts := [m1, m2]
  stage := fun j => if j = m1 then some 0 else if j = m2 then some 1 else st.lookup j
theorem twoStX_ok (B m1 m2 : Nat) (st : List (Nat × Nat)) : (TwoStX B m1 m2 st).Ok := ⟨fun _ _ _ => Just.trans, fun _ _ h => Just.of_grow h, fun _ _ _ h => h, fun _ _ _ _ _ => trivial⟩
set_option maxRecDepth 20000 in
set_option maxHeartbeats 1600000 in
theorem pset_any (w : World) (p : Nat) (S : List It) (key z : Int) (hK : Keys S) (hsm : S.length ≤ 1000000) :
    Turns Try.prog 16 #[.pointer (some ⟨p, 0, none⟩), .int .i64 key, .int .i64 z] (fun e => e = .returned (.tuple #[])) (PlainAt p S) (PlainAt p (setF (z, key) S)) w := by
  intro V hQ hV
  have hVp0 := hQ.1
  have hTk : ∀ a ∈ noKey key S, a.2 ≠ key := fun a ha => (noKey_mem.1 ha).2
  have hTl : (noKey key S).length ≤ 1000000 := by have : (noKey key S).length ≤ S.length := List.length_filter_le _ _; omega
  unfold setF
  dsimp only
  go_enter Try.func16, Try.ntmps16
  go_wp2_with fail
  go_at_call 15
  refine (pstop_any w p S key hK (by omega) V hQ hV).mono ?_
  rintro e wa ⟨rfl, hQa, hja⟩
  have hVa : ∀ b, Ext V w wa b → b < wa.heap.size := fun b hb => by
    rcases hb with hb | hb
    · have := hV b hb; have := hja.size; omega
    · exact hb.2
  obtain ⟨L, HL⟩ : ∃ L, Hid (L = noKey key S) := ⟨_, rfl⟩
  rw [← HL.out] at hQa hTk hTl
  obtain ⟨_, A0, c0, D, hB, hI, hnc, hcm, hD⟩ := hQa
  have cq : wa.cell? ⟨p, 0, none⟩ = some (.slice A0 L.length c0) := hB.cell 0
  unfold maxLen at hcm
  have hsa := hja.size
  obtain ⟨B, HBd⟩ : ∃ B : Nat, Hid (B = wa.heap.size) := ⟨_, rfl⟩
  have HB : ∀ w1, Just (FromB B) wa w1 → B ≤ w1.heap.size := fun w1 h => HBd.out ▸ h.size
  have hpB : ¬ FromB B p := fun h => by have h2 : B ≤ p := h; have := HBd.out; have := hV p hVp0; omega
  have hDB : ∀ b, D b → ¬ FromB B b := fun b hb h => by have := hVa b (hD b hb).1; have h2 : B ≤ b := h; have := HBd.out; omega
  have hBq := hB
  go_wp2_with fail
  go_loopw [6] (fun i wr => ∃ k : Nat, k ≤ L.length ∧ i = .int .i64 (k : Int) ∧ (∀ q, q < k → Lt (hat L q) (z, key)) ∧ wa = wr) (fun i _ => L.length - (intOf i).toNat)
  case atStart => exact ⟨0, by omega, rfl, fun q hq => by omega, rfl⟩
  case round =>
    obtain ⟨k, hkn, rfl, hpr, rfl⟩ := hrel
    have hone1 : ∀ u ∈ (L.flatMap itc).take (k * 2), u.oneCell' = true := fun u hu => itc_one L u (List.mem_of_mem_take hu)
    have hone2 : ∀ u ∈ (L.flatMap itc).drop (k * 2), u.oneCell' = true := fun u hu => itc_one L u (List.mem_of_mem_drop hu)
    have hck : ¬ c0 < k := by omega
    have hnk : ¬ L.length < k := by omega
    by_cases hk : k < L.length
    · have hk' : decide ((k : Int) < (L.length : Int)) = true := decide_eq_true (by omega)
      obtain ⟨ad, hA0, _, hadB, e0, e1⟩ := itc_rec hI hk
      subst hA0
      have hne : (hat L k).2 ≠ key := by rw [hat_get hk]; exact hTk _ (List.getElem_mem hk)
      have hnext : Lt (hat L k) (z, key) → ∀ q, q < k + 1 → Lt (hat L q) (z, key) := fun h q hq => by
        by_cases hqk : q = k
        · rw [hqk]; exact h
        · exact hpr q (by omega)
      have hstop : ¬ Lt (hat L k) (z, key) → Lt (z, key) (hat L k) := fun h => by unfold Lt at h ⊢; dsimp only at h ⊢; omega
      have HST := Lib.hid hstop
      have HNE := Lib.hid hnext
      clear hstop hnext
      obtain ⟨ah, HAH⟩ : ∃ ah, Hid (hat L k = ah) := ⟨_, rfl⟩
      rw [HAH.out] at e0 e1 hne HST HNE
      obtain ⟨pp, qq⟩ := ah
      dsimp only at e0 e1 hne
      by_cases hp : pp < z
      · have hp' : decide (pp < z) = true := decide_eq_true hp
        go_wp2_with fail
        go_roundw
        case rel => exact ⟨k + 1, by omega, by go_num, HNE.out (by unfold Lt; dsimp only; omega), by trivial⟩
        case measure => simp [intOf]; omega
      · have hp' : decide (pp < z) = false := decide_eq_false hp
        by_cases hz : pp = z
        · have hz' : (pp == z) = true := beq_iff_eq.2 hz
          have HZ := Lib.hid hz
          clear hz hp
          by_cases hq : qq < key
          · have hq' : decide (qq < key) = true := decide_eq_true hq
            go_wp2_with fail
            go_roundw
            case rel => exact ⟨k + 1, by omega, by go_num, HNE.out (by have := HZ.out; unfold Lt; dsimp only; omega), by trivial⟩
            case measure => simp [intOf]; omega
          · have hq' : decide (qq < key) = false := decide_eq_false hq
            have HNX : k < L.length → Lt (z, key) (hat L k) := fun _ => by rw [HAH.out]; exact HST.out (by have := HZ.out; unfold Lt; dsimp only; omega)
            obtain ⟨A2, HA2⟩ : ∃ A2 : Option Addr, Hid (A2 = if c0 = k then some ad else some (ad.add (k * 2))) := ⟨_, rfl⟩
            have hI2 : ∀ w1, Just (FromB B) wa w1 → Reads w1 w1.heap.size 2 A2 (L.length - k) ((L.flatMap itc).drop (k * 2)) := fun w1 hj => by
              have := (hI.just hj hDB).reads.cut (k := k) (by omega) hnc
              rwa [Option.map_some, ← HA2.out] at this
            have hI1 : ∀ w1, Just (FromB B) wa w1 → Reads w1 w1.heap.size 2 (some ad) k ((L.flatMap itc).take (k * 2)) := fun w1 hj => ((hI.just hj hDB).take (by omega)).reads
            have HINS := Lib.hid (ins_at (z, key) L k hkn (fun q hq => lt_asymm (hpr q hq)) HNX)
            clear hpr HNX
            go_wp2_with fail
            refine wp_region_reg rfl ?_
            refine reg_flow (TwoStX B 13 20 [(8, 0)]) (twoStX_ok B 13 20 _) 0 21 78 [(1, .inr (KF 0 (EmptyF B 36 2))), (8, .inr (KF 0 (OwnF B 36 2 k ((L.flatMap itc).take (k * 2))))), (12, .inr (KF 0 (ReadF 2 1 (itc (z, key))))), (13, .inr (KF 1 (OwnF B 36 2 (k + 1) ((L.flatMap itc).take (k * 2) ++ itc (z, key))))), (20, .inr (KF 2 (OwnF B 36 2 (k + 1 + (L.length - k)) ((L.flatMap itc).take (k * 2) ++ itc (z, key) ++ (L.flatMap itc).drop (k * 2)))))] rfl (by kernel_rfl) (by kernel_rfl) (by kernel_rfl) ?_ (Just.of_grow (Grow.refl _).drew) trivial ?_
            · intro x hx φ he
              simp only [List.mem_cons, List.not_mem_nil, or_false] at hx
              rcases hx with rfl | rfl | rfl | rfl | rfl <;> cases he
              all_goals first | exact lasts_quiet (lasting_bytes _) | exact kf_lasts (ownF_lasting _ _ _ _ _) _ | exact kf_lasts (emptyF_lasting _ _ _) _ | exact kf_lasts (readF_lasting _ _ _) _
            intro ops' A' K' T hops hA' hK hT
            refine fl_mv 55 (by rfl) (by decide) (wanted_none (by rfl)) (by rw [hK.out]; rfl) (by rfl) _ (Or.inl (by rfl)) (.pointer (some ⟨p, 0, none⟩)) (by rfl) ?_
            refine fl_any 56 (by rfl) (by decide) (wanted_none (by rfl)) (KF 0 (EmptyF B 36 2)) (by rw [hK.out]; rfl) (fun kk w1 (hg : Just (FromB B) _ w1) hb hf => by refine upon_behindAny (φ := KF 0 (EmptyF B 36 2)) (by rfl) ?_; exact upon_imp (empty_made itemE (HB w1 hg) rfl) fun u w2 h => ⟨h.1, early_of h.2⟩) (fun v56 => ?_)
            refine fl_mv 57 (by rfl) (by decide) (wanted_none (by rfl)) (by rw [hK.out]; rfl) (by rfl) _ (Or.inl (by rfl)) (.pointer (some ⟨p, 0, none⟩)) (by rfl) ?_
            refine fl_op1 58 (by rfl) (by decide) (wanted_none (by rfl)) (by rw [hK.out]; rfl) (by rfl) (.tmp 57) (.pointer (some ⟨p, 0, none⟩)) (by rfl) (.pointer (some ⟨p, 0, none⟩)) (fun ρ h1 kk w1 (hg : Just (FromB B) _ w1) hb hf => by go_simp) ?_
            refine fl_op1 59 (by rfl) (by decide) (wanted_none (by rfl)) (by rw [hK.out]; rfl) (by rfl) (.tmp 58) (.pointer (some ⟨p, 0, none⟩)) (by rfl) (.pointer (some ⟨p, 0, none⟩)) (fun ρ h1 kk w1 (hg : Just (FromB B) _ w1) hb hf => by go_simp) ?_
            refine fl_op1 60 (by rfl) (by decide) (wanted_none (by rfl)) (by rw [hK.out]; rfl) (by rfl) (.tmp 59) (.pointer (some ⟨p, 0, none⟩)) (by rfl) (.slice (some ad) L.length c0) (fun ρ h1 kk w1 (hg : Just (FromB B) _ w1) hb hf => by have c : w1.cell? ⟨p, 0, none⟩ = some (.slice (some ad) L.length c0) := (hg.blk hBq (fun h => hpB h)).cell 0; go_simp) ?_
            refine fl_mv 61 (by rfl) (by decide) (wanted_none (by rfl)) (by rw [hK.out]; rfl) (by rfl) _ (Or.inl (by rfl)) (.int .i64 (k : Int)) (by rfl) ?_
            refine fl_op2 62 (by rfl) (by decide) (wanted_none (by rfl)) (by rw [hK.out]; rfl) (by rfl) (.tmp 60) (.tmp 61) (.slice (some ad) L.length c0) (.int .i64 (k : Int)) (by rfl) (by rfl) (.slice (some ad) k c0) (fun ρ h1 h2 kk w1 (hg : Just (FromB B) _ w1) hb hf => by go_simp) ?_
            refine fl_any2 63 (by rfl) (by decide) (wanted_none (by rfl)) (KF 0 (OwnF B 36 2 k ((L.flatMap itc).take (k * 2)))) (by rw [hK.out]; rfl) (.tmp 56) (.tmp 62) (v56) (.slice (some ad) k c0) (by rfl) (by rfl) (fun ρ h1 h2 kk w1 (hg : Just (FromB B) _ w1) hb hf => by obtain rfl := before_some 0 (by rfl) hb; have hI := hb.1; refine upon_behindAny (φ := KF 0 (OwnF B 36 2 k ((L.flatMap itc).take (k * 2)))) (by rfl) ?_; have q1 := (facts_take hf (by rw [hA'.out]; kernel_rfl)); have hu : EmptyF B 36 2 v56 w1 := q1; exact upon_imp (empty_app itemE hu h1 h2 (hI1 w1 hg) hone1 (by omega) (HB w1 hg) rfl) fun u w2 h => ⟨h.1, early_of h.2⟩) (fun v63 => ?_)
            refine fl_mv 64 (by rfl) (by decide) (wanted_none (by rfl)) (by rw [hK.out]; rfl) (by rfl) _ (Or.inl (by rfl)) (.int .i64 z) (by rfl) ?_
            refine fl_mv 65 (by rfl) (by decide) (wanted_none (by rfl)) (by rw [hK.out]; rfl) (by rfl) _ (Or.inl (by rfl)) (.int .i64 key) (by rfl) ?_
            refine fl_op2 66 (by rfl) (by decide) (wanted_none (by rfl)) (by rw [hK.out]; rfl) (by rfl) (.tmp 64) (.tmp 65) (.int .i64 z) (.int .i64 key) (by rfl) (by rfl) (.agg #[.int .i64 z, .int .i64 key]) (fun ρ h1 h2 kk w1 (hg : Just (FromB B) _ w1) hb hf => by go_simp) ?_
            refine fl_any1 67 (by rfl) (by decide) (wanted_none (by rfl)) (KF 0 (ReadF 2 1 (itc (z, key)))) (by rw [hK.out]; rfl) (.tmp 66) (.agg #[.int .i64 z, .int .i64 key]) (by rfl) (fun ρ h1 kk w1 (hg : Just (FromB B) _ w1) hb hf => by refine upon_behindAny (φ := KF 0 (ReadF 2 1 (itc (z, key)))) (by rfl) ?_; exact upon_imp (read_made rfl h1) fun u w2 h => ⟨h.1, early_of h.2⟩) (fun v67 => ?_)
            refine fl_any2 68 (by rfl) (by decide) (wanted_none (by rfl)) (KF 1 (OwnF B 36 2 (k + 1) ((L.flatMap itc).take (k * 2) ++ itc (z, key)))) (by rw [hK.out]; rfl) (.tmp 63) (.tmp 67) (v63) (v67) (by rfl) (by rfl) (fun ρ h1 h2 kk w1 (hg : Just (FromB B) _ w1) hb hf => by obtain rfl := before_some 0 (by rfl) hb; have hI := hb.1; refine upon_turnAny (φ := KF 1 (OwnF B 36 2 (k + 1) ((L.flatMap itc).take (k * 2) ++ itc (z, key)))) 0 (by rfl) ?_; have q1 := (facts_take hf (by rw [hA'.out]; kernel_rfl)); have q2 := facts_take (facts_pass hf) (by rw [hA'.out]; kernel_rfl); have hr : ReadF 2 1 (itc (z, key)) v67 w1 := q1; have hu : OwnF B 36 2 k ((L.flatMap itc).take (k * 2)) v63 w1 := q2; obtain ⟨A9, c9, hv9, hR9⟩ := hr; rw [hv9] at h2; exact two_app itemE hu h1 h2 hR9 (fun u hu => itc_one [(z, key)] u (by simpa using hu)) (by omega) (HB w1 hg) rfl) (fun v68 => ?_)
            refine fl_mv 69 (by rfl) (by decide) (wanted_none (by rfl)) (by rw [hK.out]; rfl) (by rfl) _ (Or.inl (by rfl)) (.pointer (some ⟨p, 0, none⟩)) (by rfl) ?_
            refine fl_op1 70 (by rfl) (by decide) (wanted_none (by rfl)) (by rw [hK.out]; rfl) (by rfl) (.tmp 69) (.pointer (some ⟨p, 0, none⟩)) (by rfl) (.pointer (some ⟨p, 0, none⟩)) (fun ρ h1 kk w1 (hg : Just (FromB B) _ w1) hb hf => by go_simp) ?_
            refine fl_op1 71 (by rfl) (by decide) (wanted_none (by rfl)) (by rw [hK.out]; rfl) (by rfl) (.tmp 70) (.pointer (some ⟨p, 0, none⟩)) (by rfl) (.pointer (some ⟨p, 0, none⟩)) (fun ρ h1 kk w1 (hg : Just (FromB B) _ w1) hb hf => by go_simp) ?_
            refine fl_op1 72 (by rfl) (by decide) (wanted_none (by rfl)) (by rw [hK.out]; rfl) (by rfl) (.tmp 71) (.pointer (some ⟨p, 0, none⟩)) (by rfl) (.slice (some ad) L.length c0) (fun ρ h1 kk w1 (hg : Just (FromB B) _ w1) hb hf => by have c : w1.cell? ⟨p, 0, none⟩ = some (.slice (some ad) L.length c0) := (hg.blk hBq (fun h => hpB h)).cell 0; go_simp) ?_
            refine fl_mv 73 (by rfl) (by decide) (wanted_none (by rfl)) (by rw [hK.out]; rfl) (by rfl) _ (Or.inl (by rfl)) (.int .i64 (k : Int)) (by rfl) ?_
            refine fl_op2 74 (by rfl) (by decide) (wanted_none (by rfl)) (by rw [hK.out]; rfl) (by rfl) (.tmp 72) (.tmp 73) (.slice (some ad) L.length c0) (.int .i64 (k : Int)) (by rfl) (by rfl) (.slice A2 (L.length - k) (c0 - k)) (fun ρ h1 h2 kk w1 (hg : Just (FromB B) _ w1) hb hf => by have hA := HA2.out; go_simp) ?_
            refine fl_any2 75 (by rfl) (by decide) (wanted_none (by rfl)) (KF 2 (OwnF B 36 2 (k + 1 + (L.length - k)) ((L.flatMap itc).take (k * 2) ++ itc (z, key) ++ (L.flatMap itc).drop (k * 2)))) (by rw [hK.out]; rfl) (.tmp 68) (.tmp 74) (v68) (.slice A2 (L.length - k) (c0 - k)) (by rfl) (by rfl) (fun ρ h1 h2 kk w1 (hg : Just (FromB B) _ w1) hb hf => by obtain rfl := before_some 1 (by rfl) hb; have hI := hb.1; refine upon_turnAny (φ := KF 2 (OwnF B 36 2 (k + 1 + (L.length - k)) ((L.flatMap itc).take (k * 2) ++ itc (z, key) ++ (L.flatMap itc).drop (k * 2)))) 1 (by rfl) ?_; have q1 := (facts_take hf (by rw [hA'.out]; kernel_rfl)); have hu : OwnF B 36 2 (k + 1) ((L.flatMap itc).take (k * 2) ++ itc (z, key)) v68 w1 := q1; exact two_app itemE hu h1 h2 (hI2 w1 hg) hone2 (by omega) (HB w1 hg) rfl) (fun v75 => ?_)
            refine fl_end (fun _ _ w1 (hg : Just (FromB B) _ w1) hend hfacts => hT _ _ ?_)
            clear hops hA' hK hT
            simp only [putsL, Act.put, List.setIfInBounds_toArray, List.set_cons_zero, List.set_cons_succ]
            have hF : OwnF B 36 2 (k + 1 + (L.length - k)) ((L.flatMap itc).take (k * 2) ++ itc (z, key) ++ (L.flatMap itc).drop (k * 2)) v75 w1 := hfacts.1
            clear hend hfacts
            obtain ⟨A4, c4, hv4, hI4, hn4, hm4⟩ := Own.in_ hF
            subst hv4
            have hB1 := hg.blk hBq (fun h => hpB h)
            have f1 := hB1.frozen 0
            have c1 := hB1.cell 0
            refine reg_line 21 24 (by kernel_rfl) (by kernel_rfl) ?_
            simp only [List.take_succ_cons, List.take_zero, List.drop_succ_cons, List.drop_zero]
            go_wp2_with fail
            refine reg_end ?_
            go_wp2_with fail
            go_end0
            rw [← HL.out]
            have hjp := just_at w1 p 0 (.slice A4 (k + 1 + (L.length - k)) c4)
            have hins := HINS.out
            have hkl : k + 1 + (L.length - k) = (ins (z, key) L).length := by
              rw [hins, List.length_append, List.length_cons, List.length_take, List.length_drop]; omega
            have hcs : (ins (z, key) L).flatMap itc = (L.flatMap itc).take (k * 2) ++ itc (z, key) ++ (L.flatMap itc).drop (k * 2) := by
              rw [hins, List.flatMap_append, List.flatMap_cons, flat_take itc 2 itc_len, flat_drop itc 2 itc_len, List.append_assoc]
            have hBw := HBd.out
            have hs1 := hg.size
            refine ⟨rfl, ⟨.inl hVp0, A4, c4, fun b => B ≤ b ∧ b < w1.heap.size, ?_, ?_, by rw [← hkl]; exact hn4, hm4, fun b hb => ⟨.inr ⟨by have := hb.1; omega, by rw [setCell_size]; exact hb.2⟩, fun e => by have := hb.1; have := hV p hVp0; omega⟩⟩, ?_⟩
            · have := hB1.put 0 (.slice A4 (k + 1 + (L.length - k)) c4)
              rw [← hkl]; exact this
            · rw [← hkl, hcs]
              exact In.just hI4 hjp fun b hb h => by have := hb.1; rw [show b = p from h] at this; have := hV p hVp0; omega
            · have hk : ∀ b, b < w.heap.size → ¬ V b → (w1.setCell ⟨p, 0, none⟩ (.slice A4 (k + 1 + (L.length - k)) c4)).heap[b]? = w.heap[b]? := fun b hb hv => by
                rw [hjp.block b (by omega) (fun h => hv (by rw [show b = p from h]; exact hVp0)), hg.block b (by omega) (fun h => by have : B ≤ b := h; omega), hja.block b hb hv]
              exact ⟨hjp.os.trans (hg.os.trans hja.os), hjp.tape.trans (hg.tape.trans hja.tape), hjp.output.trans (hg.output.trans hja.output), by rw [setCell_size]; omega, hk⟩
        · have hz' : (pp == z) = false := beq_eq_false_iff_ne.2 hz
          have HNX : k < L.length → Lt (z, key) (hat L k) := fun _ => by rw [HAH.out]; exact HST.out (by unfold Lt; dsimp only; omega)
          obtain ⟨A2, HA2⟩ : ∃ A2 : Option Addr, Hid (A2 = if c0 = k then some ad else some (ad.add (k * 2))) := ⟨_, rfl⟩
          have hI2 : ∀ w1, Just (FromB B) wa w1 → Reads w1 w1.heap.size 2 A2 (L.length - k) ((L.flatMap itc).drop (k * 2)) := fun w1 hj => by
            have := (hI.just hj hDB).reads.cut (k := k) (by omega) hnc
            rwa [Option.map_some, ← HA2.out] at this
          have hI1 : ∀ w1, Just (FromB B) wa w1 → Reads w1 w1.heap.size 2 (some ad) k ((L.flatMap itc).take (k * 2)) := fun w1 hj => ((hI.just hj hDB).take (by omega)).reads
          have HINS := Lib.hid (ins_at (z, key) L k hkn (fun q hq => lt_asymm (hpr q hq)) HNX)
          clear hpr HNX
          go_wp2_with fail
          refine wp_region_reg rfl ?_
          refine reg_flow (TwoStX B 13 20 [(8, 0)]) (twoStX_ok B 13 20 _) 0 21 78 [(1, .inr (KF 0 (EmptyF B 36 2))), (8, .inr (KF 0 (OwnF B 36 2 k ((L.flatMap itc).take (k * 2))))), (12, .inr (KF 0 (ReadF 2 1 (itc (z, key))))), (13, .inr (KF 1 (OwnF B 36 2 (k + 1) ((L.flatMap itc).take (k * 2) ++ itc (z, key))))), (20, .inr (KF 2 (OwnF B 36 2 (k + 1 + (L.length - k)) ((L.flatMap itc).take (k * 2) ++ itc (z, key) ++ (L.flatMap itc).drop (k * 2)))))] rfl (by kernel_rfl) (by kernel_rfl) (by kernel_rfl) ?_ (Just.of_grow (Grow.refl _).drew) trivial ?_
          · intro x hx φ he
            simp only [List.mem_cons, List.not_mem_nil, or_false] at hx
            rcases hx with rfl | rfl | rfl | rfl | rfl <;> cases he
            all_goals first | exact lasts_quiet (lasting_bytes _) | exact kf_lasts (ownF_lasting _ _ _ _ _) _ | exact kf_lasts (emptyF_lasting _ _ _) _ | exact kf_lasts (readF_lasting _ _ _) _
          intro ops' A' K' T hops hA' hK hT
          refine fl_mv 55 (by rfl) (by decide) (wanted_none (by rfl)) (by rw [hK.out]; rfl) (by rfl) _ (Or.inl (by rfl)) (.pointer (some ⟨p, 0, none⟩)) (by rfl) ?_
          refine fl_any 56 (by rfl) (by decide) (wanted_none (by rfl)) (KF 0 (EmptyF B 36 2)) (by rw [hK.out]; rfl) (fun kk w1 (hg : Just (FromB B) _ w1) hb hf => by refine upon_behindAny (φ := KF 0 (EmptyF B 36 2)) (by rfl) ?_; exact upon_imp (empty_made itemE (HB w1 hg) rfl) fun u w2 h => ⟨h.1, early_of h.2⟩) (fun v56 => ?_)
          refine fl_mv 57 (by rfl) (by decide) (wanted_none (by rfl)) (by rw [hK.out]; rfl) (by rfl) _ (Or.inl (by rfl)) (.pointer (some ⟨p, 0, none⟩)) (by rfl) ?_
          refine fl_op1 58 (by rfl) (by decide) (wanted_none (by rfl)) (by rw [hK.out]; rfl) (by rfl) (.tmp 57) (.pointer (some ⟨p, 0, none⟩)) (by rfl) (.pointer (some ⟨p, 0, none⟩)) (fun ρ h1 kk w1 (hg : Just (FromB B) _ w1) hb hf => by go_simp) ?_
          refine fl_op1 59 (by rfl) (by decide) (wanted_none (by rfl)) (by rw [hK.out]; rfl) (by rfl) (.tmp 58) (.pointer (some ⟨p, 0, none⟩)) (by rfl) (.pointer (some ⟨p, 0, none⟩)) (fun ρ h1 kk w1 (hg : Just (FromB B) _ w1) hb hf => by go_simp) ?_
          refine fl_op1 60 (by rfl) (by decide) (wanted_none (by rfl)) (by rw [hK.out]; rfl) (by rfl) (.tmp 59) (.pointer (some ⟨p, 0, none⟩)) (by rfl) (.slice (some ad) L.length c0) (fun ρ h1 kk w1 (hg : Just (FromB B) _ w1) hb hf => by have c : w1.cell? ⟨p, 0, none⟩ = some (.slice (some ad) L.length c0) := (hg.blk hBq (fun h => hpB h)).cell 0; go_simp) ?_
          refine fl_mv 61 (by rfl) (by decide) (wanted_none (by rfl)) (by rw [hK.out]; rfl) (by rfl) _ (Or.inl (by rfl)) (.int .i64 (k : Int)) (by rfl) ?_
          refine fl_op2 62 (by rfl) (by decide) (wanted_none (by rfl)) (by rw [hK.out]; rfl) (by rfl) (.tmp 60) (.tmp 61) (.slice (some ad) L.length c0) (.int .i64 (k : Int)) (by rfl) (by rfl) (.slice (some ad) k c0) (fun ρ h1 h2 kk w1 (hg : Just (FromB B) _ w1) hb hf => by go_simp) ?_
          refine fl_any2 63 (by rfl) (by decide) (wanted_none (by rfl)) (KF 0 (OwnF B 36 2 k ((L.flatMap itc).take (k * 2)))) (by rw [hK.out]; rfl) (.tmp 56) (.tmp 62) (v56) (.slice (some ad) k c0) (by rfl) (by rfl) (fun ρ h1 h2 kk w1 (hg : Just (FromB B) _ w1) hb hf => by obtain rfl := before_some 0 (by rfl) hb; have hI := hb.1; refine upon_behindAny (φ := KF 0 (OwnF B 36 2 k ((L.flatMap itc).take (k * 2)))) (by rfl) ?_; have q1 := (facts_take hf (by rw [hA'.out]; kernel_rfl)); have hu : EmptyF B 36 2 v56 w1 := q1; exact upon_imp (empty_app itemE hu h1 h2 (hI1 w1 hg) hone1 (by omega) (HB w1 hg) rfl) fun u w2 h => ⟨h.1, early_of h.2⟩) (fun v63 => ?_)
          refine fl_mv 64 (by rfl) (by decide) (wanted_none (by rfl)) (by rw [hK.out]; rfl) (by rfl) _ (Or.inl (by rfl)) (.int .i64 z) (by rfl) ?_
          refine fl_mv 65 (by rfl) (by decide) (wanted_none (by rfl)) (by rw [hK.out]; rfl) (by rfl) _ (Or.inl (by rfl)) (.int .i64 key) (by rfl) ?_
          refine fl_op2 66 (by rfl) (by decide) (wanted_none (by rfl)) (by rw [hK.out]; rfl) (by rfl) (.tmp 64) (.tmp 65) (.int .i64 z) (.int .i64 key) (by rfl) (by rfl) (.agg #[.int .i64 z, .int .i64 key]) (fun ρ h1 h2 kk w1 (hg : Just (FromB B) _ w1) hb hf => by go_simp) ?_
          refine fl_any1 67 (by rfl) (by decide) (wanted_none (by rfl)) (KF 0 (ReadF 2 1 (itc (z, key)))) (by rw [hK.out]; rfl) (.tmp 66) (.agg #[.int .i64 z, .int .i64 key]) (by rfl) (fun ρ h1 kk w1 (hg : Just (FromB B) _ w1) hb hf => by refine upon_behindAny (φ := KF 0 (ReadF 2 1 (itc (z, key)))) (by rfl) ?_; exact upon_imp (read_made rfl h1) fun u w2 h => ⟨h.1, early_of h.2⟩) (fun v67 => ?_)
          refine fl_any2 68 (by rfl) (by decide) (wanted_none (by rfl)) (KF 1 (OwnF B 36 2 (k + 1) ((L.flatMap itc).take (k * 2) ++ itc (z, key)))) (by rw [hK.out]; rfl) (.tmp 63) (.tmp 67) (v63) (v67) (by rfl) (by rfl) (fun ρ h1 h2 kk w1 (hg : Just (FromB B) _ w1) hb hf => by obtain rfl := before_some 0 (by rfl) hb; have hI := hb.1; refine upon_turnAny (φ := KF 1 (OwnF B 36 2 (k + 1) ((L.flatMap itc).take (k * 2) ++ itc (z, key)))) 0 (by rfl) ?_; have q1 := (facts_take hf (by rw [hA'.out]; kernel_rfl)); have q2 := facts_take (facts_pass hf) (by rw [hA'.out]; kernel_rfl); have hr : ReadF 2 1 (itc (z, key)) v67 w1 := q1; have hu : OwnF B 36 2 k ((L.flatMap itc).take (k * 2)) v63 w1 := q2; obtain ⟨A9, c9, hv9, hR9⟩ := hr; rw [hv9] at h2; exact two_app itemE hu h1 h2 hR9 (fun u hu => itc_one [(z, key)] u (by simpa using hu)) (by omega) (HB w1 hg) rfl) (fun v68 => ?_)
          refine fl_mv 69 (by rfl) (by decide) (wanted_none (by rfl)) (by rw [hK.out]; rfl) (by rfl) _ (Or.inl (by rfl)) (.pointer (some ⟨p, 0, none⟩)) (by rfl) ?_
          refine fl_op1 70 (by rfl) (by decide) (wanted_none (by rfl)) (by rw [hK.out]; rfl) (by rfl) (.tmp 69) (.pointer (some ⟨p, 0, none⟩)) (by rfl) (.pointer (some ⟨p, 0, none⟩)) (fun ρ h1 kk w1 (hg : Just (FromB B) _ w1) hb hf => by go_simp) ?_
          refine fl_op1 71 (by rfl) (by decide) (wanted_none (by rfl)) (by rw [hK.out]; rfl) (by rfl) (.tmp 70) (.pointer (some ⟨p, 0, none⟩)) (by rfl) (.pointer (some ⟨p, 0, none⟩)) (fun ρ h1 kk w1 (hg : Just (FromB B) _ w1) hb hf => by go_simp) ?_
          refine fl_op1 72 (by rfl) (by decide) (wanted_none (by rfl)) (by rw [hK.out]; rfl) (by rfl) (.tmp 71) (.pointer (some ⟨p, 0, none⟩)) (by rfl) (.slice (some ad) L.length c0) (fun ρ h1 kk w1 (hg : Just (FromB B) _ w1) hb hf => by have c : w1.cell? ⟨p, 0, none⟩ = some (.slice (some ad) L.length c0) := (hg.blk hBq (fun h => hpB h)).cell 0; go_simp) ?_
          refine fl_mv 73 (by rfl) (by decide) (wanted_none (by rfl)) (by rw [hK.out]; rfl) (by rfl) _ (Or.inl (by rfl)) (.int .i64 (k : Int)) (by rfl) ?_
          refine fl_op2 74 (by rfl) (by decide) (wanted_none (by rfl)) (by rw [hK.out]; rfl) (by rfl) (.tmp 72) (.tmp 73) (.slice (some ad) L.length c0) (.int .i64 (k : Int)) (by rfl) (by rfl) (.slice A2 (L.length - k) (c0 - k)) (fun ρ h1 h2 kk w1 (hg : Just (FromB B) _ w1) hb hf => by have hA := HA2.out; go_simp) ?_
          refine fl_any2 75 (by rfl) (by decide) (wanted_none (by rfl)) (KF 2 (OwnF B 36 2 (k + 1 + (L.length - k)) ((L.flatMap itc).take (k * 2) ++ itc (z, key) ++ (L.flatMap itc).drop (k * 2)))) (by rw [hK.out]; rfl) (.tmp 68) (.tmp 74) (v68) (.slice A2 (L.length - k) (c0 - k)) (by rfl) (by rfl) (fun ρ h1 h2 kk w1 (hg : Just (FromB B) _ w1) hb hf => by obtain rfl := before_some 1 (by rfl) hb; have hI := hb.1; refine upon_turnAny (φ := KF 2 (OwnF B 36 2 (k + 1 + (L.length - k)) ((L.flatMap itc).take (k * 2) ++ itc (z, key) ++ (L.flatMap itc).drop (k * 2)))) 1 (by rfl) ?_; have q1 := (facts_take hf (by rw [hA'.out]; kernel_rfl)); have hu : OwnF B 36 2 (k + 1) ((L.flatMap itc).take (k * 2) ++ itc (z, key)) v68 w1 := q1; exact two_app itemE hu h1 h2 (hI2 w1 hg) hone2 (by omega) (HB w1 hg) rfl) (fun v75 => ?_)
          refine fl_end (fun _ _ w1 (hg : Just (FromB B) _ w1) hend hfacts => hT _ _ ?_)
          clear hops hA' hK hT
          simp only [putsL, Act.put, List.setIfInBounds_toArray, List.set_cons_zero, List.set_cons_succ]
          have hF : OwnF B 36 2 (k + 1 + (L.length - k)) ((L.flatMap itc).take (k * 2) ++ itc (z, key) ++ (L.flatMap itc).drop (k * 2)) v75 w1 := hfacts.1
          clear hend hfacts
          obtain ⟨A4, c4, hv4, hI4, hn4, hm4⟩ := Own.in_ hF
          subst hv4
          have hB1 := hg.blk hBq (fun h => hpB h)
          have f1 := hB1.frozen 0
          have c1 := hB1.cell 0
          refine reg_line 21 24 (by kernel_rfl) (by kernel_rfl) ?_
          simp only [List.take_succ_cons, List.take_zero, List.drop_succ_cons, List.drop_zero]
          go_wp2_with fail
          refine reg_end ?_
          go_wp2_with fail
          go_end0
          rw [← HL.out]
          have hjp := just_at w1 p 0 (.slice A4 (k + 1 + (L.length - k)) c4)
          have hins := HINS.out
          have hkl : k + 1 + (L.length - k) = (ins (z, key) L).length := by
            rw [hins, List.length_append, List.length_cons, List.length_take, List.length_drop]; omega
          have hcs : (ins (z, key) L).flatMap itc = (L.flatMap itc).take (k * 2) ++ itc (z, key) ++ (L.flatMap itc).drop (k * 2) := by
            rw [hins, List.flatMap_append, List.flatMap_cons, flat_take itc 2 itc_len, flat_drop itc 2 itc_len, List.append_assoc]
          have hBw := HBd.out
          have hs1 := hg.size
          refine ⟨rfl, ⟨.inl hVp0, A4, c4, fun b => B ≤ b ∧ b < w1.heap.size, ?_, ?_, by rw [← hkl]; exact hn4, hm4, fun b hb => ⟨.inr ⟨by have := hb.1; omega, by rw [setCell_size]; exact hb.2⟩, fun e => by have := hb.1; have := hV p hVp0; omega⟩⟩, ?_⟩
          · have := hB1.put 0 (.slice A4 (k + 1 + (L.length - k)) c4)
            rw [← hkl]; exact this
          · rw [← hkl, hcs]
            exact In.just hI4 hjp fun b hb h => by have := hb.1; rw [show b = p from h] at this; have := hV p hVp0; omega
          · have hk : ∀ b, b < w.heap.size → ¬ V b → (w1.setCell ⟨p, 0, none⟩ (.slice A4 (k + 1 + (L.length - k)) c4)).heap[b]? = w.heap[b]? := fun b hb hv => by
              rw [hjp.block b (by omega) (fun h => hv (by rw [show b = p from h]; exact hVp0)), hg.block b (by omega) (fun h => by have : B ≤ b := h; omega), hja.block b hb hv]
            exact ⟨hjp.os.trans (hg.os.trans hja.os), hjp.tape.trans (hg.tape.trans hja.tape), hjp.output.trans (hg.output.trans hja.output), by rw [setCell_size]; omega, hk⟩
    · have hk' : decide ((k : Int) < (L.length : Int)) = false := decide_eq_false (by omega)
      have HNX : k < L.length → Lt (z, key) (hat L k) := fun h => by omega
      obtain ⟨A2, HA2⟩ : ∃ A2 : Option Addr, Hid (A2 = if c0 = k then A0 else A0.map (·.add (k * 2))) := ⟨_, rfl⟩
      have hI2 : ∀ w1, Just (FromB B) wa w1 → Reads w1 w1.heap.size 2 A2 (L.length - k) ((L.flatMap itc).drop (k * 2)) := fun w1 hj => by
        have := (hI.just hj hDB).reads.cut (k := k) (by omega) hnc
        rwa [← HA2.out] at this
      have hI1 : ∀ w1, Just (FromB B) wa w1 → Reads w1 w1.heap.size 2 A0 k ((L.flatMap itc).take (k * 2)) := fun w1 hj => ((hI.just hj hDB).take (by omega)).reads
      have HINS := Lib.hid (ins_at (z, key) L k hkn (fun q hq => lt_asymm (hpr q hq)) HNX)
      clear hpr HNX
      go_wp2_with fail
      refine wp_region_reg rfl ?_
      refine reg_flow (TwoStX B 13 20 [(8, 0)]) (twoStX_ok B 13 20 _) 0 21 78 [(1, .inr (KF 0 (EmptyF B 36 2))), (8, .inr (KF 0 (OwnF B 36 2 k ((L.flatMap itc).take (k * 2))))), (12, .inr (KF 0 (ReadF 2 1 (itc (z, key))))), (13, .inr (KF 1 (OwnF B 36 2 (k + 1) ((L.flatMap itc).take (k * 2) ++ itc (z, key))))), (20, .inr (KF 2 (OwnF B 36 2 (k + 1 + (L.length - k)) ((L.flatMap itc).take (k * 2) ++ itc (z, key) ++ (L.flatMap itc).drop (k * 2)))))] rfl (by kernel_rfl) (by kernel_rfl) (by kernel_rfl) ?_ (Just.of_grow (Grow.refl _).drew) trivial ?_
      · intro x hx φ he
        simp only [List.mem_cons, List.not_mem_nil, or_false] at hx
        rcases hx with rfl | rfl | rfl | rfl | rfl <;> cases he
        all_goals first | exact lasts_quiet (lasting_bytes _) | exact kf_lasts (ownF_lasting _ _ _ _ _) _ | exact kf_lasts (emptyF_lasting _ _ _) _ | exact kf_lasts (readF_lasting _ _ _) _
      intro ops' A' K' T hops hA' hK hT
      refine fl_mv 55 (by rfl) (by decide) (wanted_none (by rfl)) (by rw [hK.out]; rfl) (by rfl) _ (Or.inl (by rfl)) (.pointer (some ⟨p, 0, none⟩)) (by rfl) ?_
      refine fl_any 56 (by rfl) (by decide) (wanted_none (by rfl)) (KF 0 (EmptyF B 36 2)) (by rw [hK.out]; rfl) (fun kk w1 (hg : Just (FromB B) _ w1) hb hf => by refine upon_behindAny (φ := KF 0 (EmptyF B 36 2)) (by rfl) ?_; exact upon_imp (empty_made itemE (HB w1 hg) rfl) fun u w2 h => ⟨h.1, early_of h.2⟩) (fun v56 => ?_)
      refine fl_mv 57 (by rfl) (by decide) (wanted_none (by rfl)) (by rw [hK.out]; rfl) (by rfl) _ (Or.inl (by rfl)) (.pointer (some ⟨p, 0, none⟩)) (by rfl) ?_
      refine fl_op1 58 (by rfl) (by decide) (wanted_none (by rfl)) (by rw [hK.out]; rfl) (by rfl) (.tmp 57) (.pointer (some ⟨p, 0, none⟩)) (by rfl) (.pointer (some ⟨p, 0, none⟩)) (fun ρ h1 kk w1 (hg : Just (FromB B) _ w1) hb hf => by go_simp) ?_
      refine fl_op1 59 (by rfl) (by decide) (wanted_none (by rfl)) (by rw [hK.out]; rfl) (by rfl) (.tmp 58) (.pointer (some ⟨p, 0, none⟩)) (by rfl) (.pointer (some ⟨p, 0, none⟩)) (fun ρ h1 kk w1 (hg : Just (FromB B) _ w1) hb hf => by go_simp) ?_
      refine fl_op1 60 (by rfl) (by decide) (wanted_none (by rfl)) (by rw [hK.out]; rfl) (by rfl) (.tmp 59) (.pointer (some ⟨p, 0, none⟩)) (by rfl) (.slice A0 L.length c0) (fun ρ h1 kk w1 (hg : Just (FromB B) _ w1) hb hf => by have c : w1.cell? ⟨p, 0, none⟩ = some (.slice A0 L.length c0) := (hg.blk hBq (fun h => hpB h)).cell 0; go_simp) ?_
      refine fl_mv 61 (by rfl) (by decide) (wanted_none (by rfl)) (by rw [hK.out]; rfl) (by rfl) _ (Or.inl (by rfl)) (.int .i64 (k : Int)) (by rfl) ?_
      refine fl_op2 62 (by rfl) (by decide) (wanted_none (by rfl)) (by rw [hK.out]; rfl) (by rfl) (.tmp 60) (.tmp 61) (.slice A0 L.length c0) (.int .i64 (k : Int)) (by rfl) (by rfl) (.slice A0 k c0) (fun ρ h1 h2 kk w1 (hg : Just (FromB B) _ w1) hb hf => by go_simp) ?_
      refine fl_any2 63 (by rfl) (by decide) (wanted_none (by rfl)) (KF 0 (OwnF B 36 2 k ((L.flatMap itc).take (k * 2)))) (by rw [hK.out]; rfl) (.tmp 56) (.tmp 62) (v56) (.slice A0 k c0) (by rfl) (by rfl) (fun ρ h1 h2 kk w1 (hg : Just (FromB B) _ w1) hb hf => by obtain rfl := before_some 0 (by rfl) hb; have hI := hb.1; refine upon_behindAny (φ := KF 0 (OwnF B 36 2 k ((L.flatMap itc).take (k * 2)))) (by rfl) ?_; have q1 := (facts_take hf (by rw [hA'.out]; kernel_rfl)); have hu : EmptyF B 36 2 v56 w1 := q1; exact upon_imp (empty_app itemE hu h1 h2 (hI1 w1 hg) hone1 (by omega) (HB w1 hg) rfl) fun u w2 h => ⟨h.1, early_of h.2⟩) (fun v63 => ?_)
      refine fl_mv 64 (by rfl) (by decide) (wanted_none (by rfl)) (by rw [hK.out]; rfl) (by rfl) _ (Or.inl (by rfl)) (.int .i64 z) (by rfl) ?_
      refine fl_mv 65 (by rfl) (by decide) (wanted_none (by rfl)) (by rw [hK.out]; rfl) (by rfl) _ (Or.inl (by rfl)) (.int .i64 key) (by rfl) ?_
      refine fl_op2 66 (by rfl) (by decide) (wanted_none (by rfl)) (by rw [hK.out]; rfl) (by rfl) (.tmp 64) (.tmp 65) (.int .i64 z) (.int .i64 key) (by rfl) (by rfl) (.agg #[.int .i64 z, .int .i64 key]) (fun ρ h1 h2 kk w1 (hg : Just (FromB B) _ w1) hb hf => by go_simp) ?_
      refine fl_any1 67 (by rfl) (by decide) (wanted_none (by rfl)) (KF 0 (ReadF 2 1 (itc (z, key)))) (by rw [hK.out]; rfl) (.tmp 66) (.agg #[.int .i64 z, .int .i64 key]) (by rfl) (fun ρ h1 kk w1 (hg : Just (FromB B) _ w1) hb hf => by refine upon_behindAny (φ := KF 0 (ReadF 2 1 (itc (z, key)))) (by rfl) ?_; exact upon_imp (read_made rfl h1) fun u w2 h => ⟨h.1, early_of h.2⟩) (fun v67 => ?_)
      refine fl_any2 68 (by rfl) (by decide) (wanted_none (by rfl)) (KF 1 (OwnF B 36 2 (k + 1) ((L.flatMap itc).take (k * 2) ++ itc (z, key)))) (by rw [hK.out]; rfl) (.tmp 63) (.tmp 67) (v63) (v67) (by rfl) (by rfl) (fun ρ h1 h2 kk w1 (hg : Just (FromB B) _ w1) hb hf => by obtain rfl := before_some 0 (by rfl) hb; have hI := hb.1; refine upon_turnAny (φ := KF 1 (OwnF B 36 2 (k + 1) ((L.flatMap itc).take (k * 2) ++ itc (z, key)))) 0 (by rfl) ?_; have q1 := (facts_take hf (by rw [hA'.out]; kernel_rfl)); have q2 := facts_take (facts_pass hf) (by rw [hA'.out]; kernel_rfl); have hr : ReadF 2 1 (itc (z, key)) v67 w1 := q1; have hu : OwnF B 36 2 k ((L.flatMap itc).take (k * 2)) v63 w1 := q2; obtain ⟨A9, c9, hv9, hR9⟩ := hr; rw [hv9] at h2; exact two_app itemE hu h1 h2 hR9 (fun u hu => itc_one [(z, key)] u (by simpa using hu)) (by omega) (HB w1 hg) rfl) (fun v68 => ?_)
      refine fl_mv 69 (by rfl) (by decide) (wanted_none (by rfl)) (by rw [hK.out]; rfl) (by rfl) _ (Or.inl (by rfl)) (.pointer (some ⟨p, 0, none⟩)) (by rfl) ?_
      refine fl_op1 70 (by rfl) (by decide) (wanted_none (by rfl)) (by rw [hK.out]; rfl) (by rfl) (.tmp 69) (.pointer (some ⟨p, 0, none⟩)) (by rfl) (.pointer (some ⟨p, 0, none⟩)) (fun ρ h1 kk w1 (hg : Just (FromB B) _ w1) hb hf => by go_simp) ?_
      refine fl_op1 71 (by rfl) (by decide) (wanted_none (by rfl)) (by rw [hK.out]; rfl) (by rfl) (.tmp 70) (.pointer (some ⟨p, 0, none⟩)) (by rfl) (.pointer (some ⟨p, 0, none⟩)) (fun ρ h1 kk w1 (hg : Just (FromB B) _ w1) hb hf => by go_simp) ?_
      refine fl_op1 72 (by rfl) (by decide) (wanted_none (by rfl)) (by rw [hK.out]; rfl) (by rfl) (.tmp 71) (.pointer (some ⟨p, 0, none⟩)) (by rfl) (.slice A0 L.length c0) (fun ρ h1 kk w1 (hg : Just (FromB B) _ w1) hb hf => by have c : w1.cell? ⟨p, 0, none⟩ = some (.slice A0 L.length c0) := (hg.blk hBq (fun h => hpB h)).cell 0; go_simp) ?_
      refine fl_mv 73 (by rfl) (by decide) (wanted_none (by rfl)) (by rw [hK.out]; rfl) (by rfl) _ (Or.inl (by rfl)) (.int .i64 (k : Int)) (by rfl) ?_
      refine fl_op2 74 (by rfl) (by decide) (wanted_none (by rfl)) (by rw [hK.out]; rfl) (by rfl) (.tmp 72) (.tmp 73) (.slice A0 L.length c0) (.int .i64 (k : Int)) (by rfl) (by rfl) (.slice A2 (L.length - k) (c0 - k)) (fun ρ h1 h2 kk w1 (hg : Just (FromB B) _ w1) hb hf => by have hA := HA2.out; go_simp) ?_
      refine fl_any2 75 (by rfl) (by decide) (wanted_none (by rfl)) (KF 2 (OwnF B 36 2 (k + 1 + (L.length - k)) ((L.flatMap itc).take (k * 2) ++ itc (z, key) ++ (L.flatMap itc).drop (k * 2)))) (by rw [hK.out]; rfl) (.tmp 68) (.tmp 74) (v68) (.slice A2 (L.length - k) (c0 - k)) (by rfl) (by rfl) (fun ρ h1 h2 kk w1 (hg : Just (FromB B) _ w1) hb hf => by obtain rfl := before_some 1 (by rfl) hb; have hI := hb.1; refine upon_turnAny (φ := KF 2 (OwnF B 36 2 (k + 1 + (L.length - k)) ((L.flatMap itc).take (k * 2) ++ itc (z, key) ++ (L.flatMap itc).drop (k * 2)))) 1 (by rfl) ?_; have q1 := (facts_take hf (by rw [hA'.out]; kernel_rfl)); have hu : OwnF B 36 2 (k + 1) ((L.flatMap itc).take (k * 2) ++ itc (z, key)) v68 w1 := q1; exact two_app itemE hu h1 h2 (hI2 w1 hg) hone2 (by omega) (HB w1 hg) rfl) (fun v75 => ?_)
      refine fl_end (fun _ _ w1 (hg : Just (FromB B) _ w1) hend hfacts => hT _ _ ?_)
      clear hops hA' hK hT
      simp only [putsL, Act.put, List.setIfInBounds_toArray, List.set_cons_zero, List.set_cons_succ]
      have hF : OwnF B 36 2 (k + 1 + (L.length - k)) ((L.flatMap itc).take (k * 2) ++ itc (z, key) ++ (L.flatMap itc).drop (k * 2)) v75 w1 := hfacts.1
      clear hend hfacts
      obtain ⟨A4, c4, hv4, hI4, hn4, hm4⟩ := Own.in_ hF
      subst hv4
      have hB1 := hg.blk hBq (fun h => hpB h)
      have f1 := hB1.frozen 0
      have c1 := hB1.cell 0
      refine reg_line 21 24 (by kernel_rfl) (by kernel_rfl) ?_
      simp only [List.take_succ_cons, List.take_zero, List.drop_succ_cons, List.drop_zero]
      go_wp2_with fail
      refine reg_end ?_
      go_wp2_with fail
      go_end0
      rw [← HL.out]
      have hjp := just_at w1 p 0 (.slice A4 (k + 1 + (L.length - k)) c4)
      have hins := HINS.out
      have hkl : k + 1 + (L.length - k) = (ins (z, key) L).length := by
        rw [hins, List.length_append, List.length_cons, List.length_take, List.length_drop]; omega
      have hcs : (ins (z, key) L).flatMap itc = (L.flatMap itc).take (k * 2) ++ itc (z, key) ++ (L.flatMap itc).drop (k * 2) := by
        rw [hins, List.flatMap_append, List.flatMap_cons, flat_take itc 2 itc_len, flat_drop itc 2 itc_len, List.append_assoc]
      have hBw := HBd.out
      have hs1 := hg.size
      refine ⟨rfl, ⟨.inl hVp0, A4, c4, fun b => B ≤ b ∧ b < w1.heap.size, ?_, ?_, by rw [← hkl]; exact hn4, hm4, fun b hb => ⟨.inr ⟨by have := hb.1; omega, by rw [setCell_size]; exact hb.2⟩, fun e => by have := hb.1; have := hV p hVp0; omega⟩⟩, ?_⟩
      · have := hB1.put 0 (.slice A4 (k + 1 + (L.length - k)) c4)
        rw [← hkl]; exact this
      · rw [← hkl, hcs]
        exact In.just hI4 hjp fun b hb h => by have := hb.1; rw [show b = p from h] at this; have := hV p hVp0; omega
      · have hk : ∀ b, b < w.heap.size → ¬ V b → (w1.setCell ⟨p, 0, none⟩ (.slice A4 (k + 1 + (L.length - k)) c4)).heap[b]? = w.heap[b]? := fun b hb hv => by
          rw [hjp.block b (by omega) (fun h => hv (by rw [show b = p from h]; exact hVp0)), hg.block b (by omega) (fun h => by have : B ≤ b := h; omega), hja.block b hb hv]
        exact ⟨hjp.os.trans (hg.os.trans hja.os), hjp.tape.trans (hg.tape.trans hja.tape), hjp.output.trans (hg.output.trans hja.output), by rw [setCell_size]; omega, hk⟩
end Go.Proofs.Ytjjafpgpnmdjlaa
