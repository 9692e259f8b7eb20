/- The document's own timers: what they are; stop. -/
import Derived.Test.YtjjafpgpnmdjlaaWithin
namespace Go.Proofs.Ytjjafpgpnmdjlaa
open Go.RowKit Go.Hop
/-- a row by time and key -/
def PlainAt (p : Nat) (S : List It) : Thing := fun w V =>
  V p ∧ ∃ (A : Option Addr) (c : Nat) (D : Nat → Prop), Blk w p 45 #[.slice A S.length c] ∧ In w D 2 A S.length (S.flatMap itc) ∧ S.length ≤ c ∧ c ≤ maxLen ∧ (∀ b, D b → V b ∧ b ≠ p)
theorem PlainAt.framed (p : Nat) (S : List It) : Framed (PlainAt p S) := fun w w' V hh hk => by
  obtain ⟨h1, A, c, D, h2, h3, h4, h5, h6⟩ := hh
  exact ⟨h1, A, c, D, (hk p h1).trans h2, h3.keep fun b hb _ => hk b (h6 b hb).1, h4, h5, h6⟩
theorem plain_wide (p : Nat) (S : List It) : Wide (PlainAt p S) := fun w V V' hh hV => by
  obtain ⟨h1, A, c, D, h2, h3, h4, h5, h6⟩ := hh
  exact ⟨hV p h1, A, c, D, h2, h3, h4, h5, fun b hb => ⟨hV b (h6 b hb).1, (h6 b hb).2⟩⟩
theorem itc_rec {w : World} {D : Nat → Prop} {A : Option Addr} {S : List It} (h : In w D 2 A S.length (S.flatMap itc)) {k : Nat} (hk : k < S.length) :
    ∃ ad, A = some ad ∧ D ad.block ∧ ad.block < w.heap.size ∧ w.cell? (ad.add (k * 2)) = some (.int .i64 (hat S k).1) ∧ w.cell? ⟨(ad.add (k * 2)).block, (ad.add (k * 2)).off + 1, none⟩ = some (.int .i64 (hat S k).2) := by
  obtain ⟨ad, hq, e, hv, hb, e0, e1⟩ := h.rec_ (by omega) itc_len hk
  rw [hat_get hk]
  exact ⟨ad, e, hv, hb, e0 _ rfl, e1 0 _ rfl⟩
set_option maxRecDepth 20000 in
set_option maxHeartbeats 800000 in
theorem pstop_any (w : World) (p : Nat) (S : List It) (key : Int) (hK : Keys S) (hsm : S.length ≤ 1048576) :
    Turns Try.prog 15 #[.pointer (some ⟨p, 0, none⟩), .int .i64 key] (fun e => e = .returned (.bool (hasKey key S))) (PlainAt p S) (PlainAt p (noKey key S)) w := by
  intro V hQ hV
  obtain ⟨hVp, A0, c0, D, hB, hI, hnc, hcm, hD⟩ := id hQ
  have cq : w.cell? ⟨p, 0, none⟩ = some (.slice A0 S.length c0) := hB.cell 0
  have hend : (∀ q, q < S.length → (hat S q).2 ≠ key) → Ending.returned (.bool false) = .returned (.bool (hasKey key S)) ∧ PlainAt p (noKey key S) w (Ext V w w) ∧ Just V w w := fun hno => by
    have h1 : ∀ a ∈ S, a.2 ≠ key := fun a ha => by
      obtain ⟨i, hi, rfl⟩ := List.mem_iff_getElem.1 ha
      have := hno i hi
      rwa [hat_get hi] at this
    have h2 : hasKey key S = false := by
      cases hc : hasKey key S with
      | false => rfl
      | true =>
        obtain ⟨a, ha, he⟩ := hasKey_iff.1 hc
        exact (h1 a ha he).elim
    rw [h2, noKey_none h1]
    exact ⟨rfl, plain_wide _ _ _ _ _ hQ fun _ => .inl, Just.of_grow (Grow.refl w)⟩
  unfold maxLen at hcm
  go_enter Try.func15, Try.ntmps15
  go_wp2_with fail
  go_loopw [11] (fun i wr => ∃ k : Nat, k ≤ S.length ∧ i = .int .i64 (k : Int) ∧ (∀ q, q < k → (hat S q).2 ≠ key) ∧ w = wr) (fun i _ => S.length - (intOf i).toNat)
  case atStart => exact ⟨0, by omega, rfl, fun q hq => by omega, rfl⟩
  case round =>
    obtain ⟨k, hkn, rfl, hno, rfl⟩ := hrel
    by_cases hk : k < S.length
    · have hk' : decide ((k : Int) < (S.length : Int)) = true := decide_eq_true (by omega)
      obtain ⟨ad, rfl, _, hadB, e0, e1⟩ := itc_rec hI hk
      by_cases he : (hat S k).2 = key
      · have he' : ((hat S k).2 == key) = true := beq_iff_eq.2 he
        have HE := Lib.hid he
        have HNO := Lib.hid hno
        have hHAS : hasKey key S = true := hasKey_iff.2 ⟨hat S k, by rw [hat_get hk]; exact List.getElem_mem hk, he⟩
        obtain ⟨B, HBd⟩ : ∃ B : Nat, Hid (B = w.heap.size) := ⟨_, rfl⟩
        have HB : ∀ w1, Just (FromB B) w w1 → B ≤ w1.heap.size := fun w1 h => HBd.out ▸ h.size
        have hpB : ¬ FromB B p := fun h => by have h2 : B ≤ p := h; have := HBd.out; have := hV p hVp; omega
        have hDB : ∀ b, D b → ¬ FromB B b := fun b hb h => by have := hV b (hD b hb).1; have h2 : B ≤ b := h; have := HBd.out; omega
        have hBq := hB
        obtain ⟨A2, HA2⟩ : ∃ A2 : Option Addr, Hid (A2 = if c0 = k + 1 then some ad else some (ad.add ((k + 1) * 2))) := ⟨_, rfl⟩
        have hI1 : ∀ w1, Just (FromB B) w w1 → Reads w1 w1.heap.size 2 (some ad) k ((S.flatMap itc).take (k * 2)) := fun w1 hj => ((hI.just hj hDB).take (by omega)).reads
        have hI2 : ∀ w1, Just (FromB B) w w1 → Reads w1 w1.heap.size 2 A2 (S.length - (k + 1)) ((S.flatMap itc).drop ((k + 1) * 2)) := fun w1 hj => by
          have := (hI.just hj hDB).reads.cut (k := k + 1) (by omega) hnc
          rwa [Option.map_some, ← HA2.out] at this
        have hone1 : ∀ u ∈ (S.flatMap itc).take (k * 2), u.oneCell' = true := fun u hu => itc_one S u (List.mem_of_mem_take hu)
        have hone2 : ∀ u ∈ (S.flatMap itc).drop ((k + 1) * 2), u.oneCell' = true := fun u hu => itc_one S u (List.mem_of_mem_drop hu)
        have hck : ¬ c0 < k := by omega
        have hnk : ¬ S.length < k + 1 := by omega
        have hnk2 : ¬ (S.length : Int) < (k : Int) + 1 := by omega
        have hnk3 : ¬ (k : Int) + 1 < 0 := by omega
        have hkw : IntKind.i64.wrap ((k : Int) + 1) = (k : Int) + 1 := by rw [IntKind.wrap_i64]; omega
        clear he hno
        go_wp2_with fail
        clear e0 e1
        refine wp_region_reg rfl ?_
        refine reg_flow (TwoSt B 8 16) (twoSt_ok B 8 16) 0 17 44 [(1, .inr (KF 0 (OwnF B 36 2 0 []))), (8, .inr (KF 1 (OwnF B 36 2 k ((S.flatMap itc).take (k * 2))))), (16, .inr (KF 2 (OwnF B 36 2 (k + (S.length - (k + 1))) ((S.flatMap itc).take (k * 2) ++ (S.flatMap itc).drop ((k + 1) * 2)))))] rfl (by kernel_rfl) (by kernel_rfl) (by kernel_rfl) ?_ (Just.of_grow (Grow.refl _).drew) trivial ?_
        · intro x hx φ he
          simp only [List.mem_cons, List.not_mem_nil, or_false] at hx
          rcases hx with rfl | rfl | rfl <;> cases he
          all_goals first | exact lasts_quiet (lasting_bytes _) | exact kf_lasts (ownF_lasting _ _ _ _ _) _
        intro ops' A' K' T hops hA' hK hT
        refine fl_mv 24 (by rfl) (by decide) (wanted_none (by rfl)) (by rw [hK.out]; rfl) (by rfl) _ (Or.inl (by rfl)) (.pointer (some ⟨p, 0, none⟩)) (by rfl) ?_
        refine fl_any 25 (by rfl) (by decide) (wanted_none (by rfl)) (KF 0 (OwnF B 36 2 0 [])) (by rw [hK.out]; rfl) (fun kk w1 (hg : Just (FromB B) _ w1) hb hf => by refine upon_behindAny (φ := KF 0 (OwnF B 36 2 0 [])) (by rfl) ?_; exact upon_imp (two_made itemE (HB w1 hg) rfl) fun u w2 h => ⟨h.1, early_of h.2⟩) (fun v25 => ?_)
        refine fl_mv 26 (by rfl) (by decide) (wanted_none (by rfl)) (by rw [hK.out]; rfl) (by rfl) _ (Or.inl (by rfl)) (.pointer (some ⟨p, 0, none⟩)) (by rfl) ?_
        refine fl_op1 27 (by rfl) (by decide) (wanted_none (by rfl)) (by rw [hK.out]; rfl) (by rfl) (.tmp 26) (.pointer (some ⟨p, 0, none⟩)) (by rfl) (.pointer (some ⟨p, 0, none⟩)) (fun ρ h1 kk w1 (hg : Just (FromB B) _ w1) hb hf => by go_simp) ?_
        refine fl_op1 28 (by rfl) (by decide) (wanted_none (by rfl)) (by rw [hK.out]; rfl) (by rfl) (.tmp 27) (.pointer (some ⟨p, 0, none⟩)) (by rfl) (.pointer (some ⟨p, 0, none⟩)) (fun ρ h1 kk w1 (hg : Just (FromB B) _ w1) hb hf => by go_simp) ?_
        refine fl_op1 29 (by rfl) (by decide) (wanted_none (by rfl)) (by rw [hK.out]; rfl) (by rfl) (.tmp 28) (.pointer (some ⟨p, 0, none⟩)) (by rfl) (.slice (some ad) S.length c0) (fun ρ h1 kk w1 (hg : Just (FromB B) _ w1) hb hf => by have c : w1.cell? ⟨p, 0, none⟩ = some (.slice (some ad) S.length c0) := (hg.blk hBq (fun h => hpB h)).cell 0; go_simp) ?_
        refine fl_mv 30 (by rfl) (by decide) (wanted_none (by rfl)) (by rw [hK.out]; rfl) (by rfl) _ (Or.inl (by rfl)) (.int .i64 (k : Int)) (by rfl) ?_
        refine fl_op2 31 (by rfl) (by decide) (wanted_none (by rfl)) (by rw [hK.out]; rfl) (by rfl) (.tmp 29) (.tmp 30) (.slice (some ad) S.length c0) (.int .i64 (k : Int)) (by rfl) (by rfl) (.slice (some ad) k c0) (fun ρ h1 h2 kk w1 (hg : Just (FromB B) _ w1) hb hf => by go_simp) ?_
        refine fl_any2 32 (by rfl) (by decide) (wanted_none (by rfl)) (KF 1 (OwnF B 36 2 k ((S.flatMap itc).take (k * 2)))) (by rw [hK.out]; rfl) (.tmp 25) (.tmp 31) (v25) (.slice (some ad) k c0) (by rfl) (by rfl) (fun ρ h1 h2 kk w1 (hg : Just (FromB B) _ w1) hb hf => by obtain rfl := before_some 0 (by rfl) hb; have hI := hb.1; refine upon_turnAny (φ := KF 1 (OwnF B 36 2 k ((S.flatMap itc).take (k * 2)))) 0 (by rfl) ?_; have q1 := (facts_take hf (by rw [hA'.out]; kernel_rfl)); have hu : OwnF B 36 2 0 [] v25 w1 := q1; exact upon_imp (two_app itemE hu h1 h2 (hI1 w1 hg) hone1 (by omega) (HB w1 hg) rfl) fun u w2 h => ⟨h.1, trivial, by have h3 := h.2.2; simp only [Nat.zero_add, List.nil_append] at h3; exact h3⟩) (fun v32 => ?_)
        refine fl_mv 33 (by rfl) (by decide) (wanted_none (by rfl)) (by rw [hK.out]; rfl) (by rfl) _ (Or.inl (by rfl)) (.pointer (some ⟨p, 0, none⟩)) (by rfl) ?_
        refine fl_op1 34 (by rfl) (by decide) (wanted_none (by rfl)) (by rw [hK.out]; rfl) (by rfl) (.tmp 33) (.pointer (some ⟨p, 0, none⟩)) (by rfl) (.pointer (some ⟨p, 0, none⟩)) (fun ρ h1 kk w1 (hg : Just (FromB B) _ w1) hb hf => by go_simp) ?_
        refine fl_op1 35 (by rfl) (by decide) (wanted_none (by rfl)) (by rw [hK.out]; rfl) (by rfl) (.tmp 34) (.pointer (some ⟨p, 0, none⟩)) (by rfl) (.pointer (some ⟨p, 0, none⟩)) (fun ρ h1 kk w1 (hg : Just (FromB B) _ w1) hb hf => by go_simp) ?_
        refine fl_op1 36 (by rfl) (by decide) (wanted_none (by rfl)) (by rw [hK.out]; rfl) (by rfl) (.tmp 35) (.pointer (some ⟨p, 0, none⟩)) (by rfl) (.slice (some ad) S.length c0) (fun ρ h1 kk w1 (hg : Just (FromB B) _ w1) hb hf => by have c : w1.cell? ⟨p, 0, none⟩ = some (.slice (some ad) S.length c0) := (hg.blk hBq (fun h => hpB h)).cell 0; go_simp) ?_
        refine fl_mv 37 (by rfl) (by decide) (wanted_none (by rfl)) (by rw [hK.out]; rfl) (by rfl) _ (Or.inl (by rfl)) (.int .i64 (k : Int)) (by rfl) ?_
        refine fl_op2 38 (by rfl) (by decide) (wanted_none (by rfl)) (by rw [hK.out]; rfl) (by rfl) (.tmp 37) (.const (.int .i64 1)) (.int .i64 (k : Int)) (.int .i64 1) (by rfl) (by rfl) (.int .i64 ((k : Int) + 1)) (fun ρ h1 h2 kk w1 (hg : Just (FromB B) _ w1) hb hf => by go_simp) ?_
        refine fl_op2 39 (by rfl) (by decide) (wanted_none (by rfl)) (by rw [hK.out]; rfl) (by rfl) (.tmp 36) (.tmp 38) (.slice (some ad) S.length c0) (.int .i64 ((k : Int) + 1)) (by rfl) (by rfl) (.slice A2 (S.length - (k + 1)) (c0 - (k + 1))) (fun ρ h1 h2 kk w1 (hg : Just (FromB B) _ w1) hb hf => by have hA := HA2.out; go_simp) ?_
        refine fl_any2 40 (by rfl) (by decide) (wanted_none (by rfl)) (KF 2 (OwnF B 36 2 (k + (S.length - (k + 1))) ((S.flatMap itc).take (k * 2) ++ (S.flatMap itc).drop ((k + 1) * 2)))) (by rw [hK.out]; rfl) (.tmp 32) (.tmp 39) (v32) (.slice A2 (S.length - (k + 1)) (c0 - (k + 1))) (by rfl) (by rfl) (fun ρ h1 h2 kk w1 (hg : Just (FromB B) _ w1) hb hf => by obtain rfl := before_some 1 (by rfl) hb; have hI := hb.1; refine upon_turnAny (φ := KF 2 (OwnF B 36 2 (k + (S.length - (k + 1))) ((S.flatMap itc).take (k * 2) ++ (S.flatMap itc).drop ((k + 1) * 2)))) 1 (by rfl) ?_; have q1 := (facts_take hf (by rw [hA'.out]; kernel_rfl)); have hu : OwnF B 36 2 k ((S.flatMap itc).take (k * 2)) v32 w1 := q1; exact two_app itemE hu h1 h2 (hI2 w1 hg) hone2 (by omega) (HB w1 hg) rfl) (fun v40 => ?_)
        refine fl_end (fun _ _ w1 (hg : Just (FromB B) _ w1) hend hfacts => hT _ _ ?_)
        clear hops hA' hK hT
        simp only [putsL, Act.put, List.setIfInBounds_toArray, List.set_cons_zero, List.set_cons_succ]
        have hF : OwnF B 36 2 (k + (S.length - (k + 1))) ((S.flatMap itc).take (k * 2) ++ (S.flatMap itc).drop ((k + 1) * 2)) v40 w1 := hfacts.1
        clear hend hfacts
        obtain ⟨A4, c4, hv4, hI4, hn4, hm4⟩ := Own.in_ hF
        subst hv4
        have hB1 := hg.blk hBq (fun h => hpB h)
        have f1 := hB1.frozen 0
        have c1 := hB1.cell 0
        refine reg_line 17 20 (by kernel_rfl) (by kernel_rfl) ?_
        simp only [List.take_succ_cons, List.take_zero, List.drop_succ_cons, List.drop_zero]
        go_wp2_with fail
        refine reg_end ?_
        go_wp2_with fail
        go_ret
        have hjp := just_at w1 p 0 (.slice A4 (k + (S.length - (k + 1))) c4)
        have hkl : k + (S.length - (k + 1)) = (noKey key S).length := by
          rw [← HE.out, noKey_at hK hk, List.length_append, List.length_take, List.length_drop]; omega
        have hcs : (noKey key S).flatMap itc = (S.flatMap itc).take (k * 2) ++ (S.flatMap itc).drop ((k + 1) * 2) := by
          rw [← HE.out, noKey_at hK hk, List.flatMap_append, flat_take itc 2 itc_len, flat_drop itc 2 itc_len]
        have hBw := HBd.out
        refine ⟨by show Ending.returned (.bool true) = _; rw [hHAS], ⟨.inl hVp, A4, c4, fun b => B ≤ b ∧ b < w1.heap.size, ?_, ?_, by rw [← hkl]; exact hn4, hm4, fun b hb => ⟨.inr ⟨by have := hb.1; omega, by rw [setCell_size]; exact hb.2⟩, fun e => by have := hb.1; have := hV p hVp; omega⟩⟩, ?_⟩
        · have := hB1.put 0 (.slice A4 (k + (S.length - (k + 1))) c4)
          rw [← hkl]; exact this
        · rw [← hkl, hcs]
          exact In.just hI4 hjp fun b hb h => by have := hb.1; rw [show b = p from h] at this; have := hV p hVp; omega
        · have hk2 : ∀ b, b < w.heap.size → ¬ V b → (w1.setCell ⟨p, 0, none⟩ (.slice A4 (k + (S.length - (k + 1))) c4)).heap[b]? = w.heap[b]? := fun b hb hv => by
            have hs1 := hg.size
            rw [hjp.block b (by omega) (fun h => hv (by rw [show b = p from h]; exact hVp)), hg.block b hb (fun h => by have : B ≤ b := h; omega)]
          exact ⟨hjp.os.trans hg.os, hjp.tape.trans hg.tape, hjp.output.trans hg.output, by rw [setCell_size]; exact hg.size, hk2⟩
      · have he' : ((hat S k).2 == key) = false := beq_eq_false_iff_ne.2 he
        go_wp2_with fail
        go_roundw
        case rel => exact ⟨k + 1, by omega, by go_num, fun q hq => by
          by_cases hqk : q = k
          · rw [hqk]; exact he
          · exact hno q (by omega), by trivial⟩
        case measure => simp [intOf]; omega
    · obtain rfl : S.length = k := by omega
      have hk' : decide ((S.length : Int) < (S.length : Int)) = false := decide_eq_false (by omega)
      go_wp2_with fail
      go_ret
      exact hend hno
end Go.Proofs.Ytjjafpgpnmdjlaa
