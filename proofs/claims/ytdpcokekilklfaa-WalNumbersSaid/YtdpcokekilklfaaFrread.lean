/- What the answer's Read tells. -/
import Derived.Test.YtdpcokekilklfaaFread
namespace Go.Proofs.Ytdpcokekilklfaa
open Go.RowKit Go.Hop
theorem rFrame_is {w w1 : World} {A : Option Addr} {n c : Nat} {l : List UInt8} (hb : Bytes w w.heap.size A n l) (hg : Grow w w1) (hn : n ≤ 1099511627776) :
    Calls Try.prog 18 #[.slice A n c] w1 fun e w' => ∃ v, e = .returned v ∧ Grow w1 w' ∧ IsBytes (frame l) v w' :=
  (rFrame_any w1 A n c l (Reads.more (Reads.below hb hg) hg.size) hn).mono fun _ _ ⟨v, he, hO, hg⟩ => ⟨v, he, hg, Own.isBytes hO⟩
set_option maxRecDepth 100000 in
set_option maxHeartbeats 1000000 in
theorem rRead_any (w : World) (A : Option Addr) (n c : Nat) (l : List UInt8) (hb : Bytes w w.heap.size A n l) (hnc : n ≤ c) (hcm : c ≤ maxLen) :
    Calls Try.prog 44 #[.slice A n c] w fun e w' => ∃ (x : List UInt8) (k : Nat) (ok : Bool) (v : Value), ReadIs l x k ok ∧ e = .returned (.tuple #[v, .int .i64 (k : Int), .bool ok]) ∧ Own w' (New w w') 5 1 v x.length (u8s x) ∧ Grow w w' := by
  have hlen := hb.len
  have k18 : ∀ (vs : Array Value) (w : World), (callFunc 18 vs).run Try.prog w = .ok (.enter 18 vs) w := fun vs w => by go_simp
  go_enter Try.func44, Try.ntmps44
  go_wp2_with fail
  go_at_call 50
  refine (rGet_any w _ A n c l hb (Nat.le_refl _) hnc hcm).mono ?_
  rintro e w0 ⟨m, k, hG, rfl, hg0⟩
  have hb0 : Bytes w0 w0.heap.size A n l := Reads.more (Reads.below hb hg0) hg0.size
  have hs0 := hg0.size
  unfold maxLen at hcm
  rcases hG with ⟨hm, hE, hk⟩ | ⟨hno, rfl, rfl⟩
  · have hk10 := enc_ten hm
    have hk1 := enc_pos m
    have hkl := hE.length_le
    have HK := Lib.hid hk
    have hk0 : ((k : Int) == 0) = false := beq_eq_false_iff_ne.2 (by omega)
    have hk' : 1 ≤ k ∧ k ≤ 10 ∧ k ≤ n := by omega
    clear hk
    by_cases hm6 : 65536 < m
    · have hm6' : decide ((65536 : Int) < (m : Int)) = true := decide_eq_true (by omega)
      go_wp2_with fail
      refine bodyPost_ret (v := .tuple #[.slice none 0 0, .int .i64 0, .bool false]) (by simp [results, Try.results44, go_sem]) rfl ⟨[], 0, false, _, ReadIs.none (none_long' hE hm6), rfl, Own.nil, hg0⟩
    · have hm6' : decide ((65536 : Int) < (m : Int)) = false := decide_eq_false (by omega)
      have hwm : IntKind.i64.wrap (m : Int) = (m : Int) := by rw [IntKind.wrap_i64]; omega
      have hwn : IntKind.u64.wrap (n : Int) = (n : Int) := by rw [IntKind.wrap_u64]; omega
      have hwk : IntKind.u64.wrap (k : Int) = (k : Int) := by rw [IntKind.wrap_u64]; omega
      by_cases hsh : n < k + 4 + m
      · have hsh' : decide ((n : Int) < (k : Int) + 4 + (m : Int)) = true := decide_eq_true (by omega)
        go_wp2_with fail
        refine bodyPost_ret (v := .tuple #[.slice none 0 0, .int .i64 0, .bool false]) (by simp [results, Try.results44, go_sem]) rfl ⟨[], 0, false, _, ReadIs.none (none_short hE (by rw [hlen, ← HK.out]; exact hsh)), rfl, Own.nil, hg0⟩
      · have hsh' : decide ((n : Int) < (k : Int) + 4 + (m : Int)) = false := decide_eq_false (by omega)
        have hw4 : IntKind.i64.wrap ((k : Int) + 4) = (k : Int) + 4 := by rw [IntKind.wrap_i64]; omega
        have hq4 : ((k : Int) + 4).toNat = k + 4 := by omega
        have hqm : ((k : Int) + 4 + (m : Int)).toNat = k + 4 + m := by omega
        have hi1 : 0 ≤ (k : Int) + 4 := by omega
        have hi3 : 0 ≤ (k : Int) + 4 + (m : Int) := by omega
        have hi4 : (k : Int) + 4 ≤ max ((k : Int) + 4 + (m : Int)) 0 := by omega
        have hxl : ((l.drop (k + 4)).take m).length = m := by rw [List.length_take, List.length_drop]; omega
        have hR := (Reads.cut hb0 (k := k + 4) (cap := c) (by omega) hnc).take (k := m) (by omega)
        rw [Nat.mul_one] at hR
        have hX' : Bytes w0 w0.heap.size (if c = k + 4 then A else A.map (·.add (k + 4))) m ((l.drop (k + 4)).take m) := by
          unfold Bytes; rw [u8s_take, u8s_drop, Nat.mul_one (k + 4)]; exact hR
        have hTk : Bytes w0 w0.heap.size A (k + 4 + m) (l.take (k + 4 + m)) := by
          have := Reads.take hb0 (k := k + 4 + m) (by omega)
          unfold Bytes; rw [u8s_take]; exact this
        by_cases hck : c = k + 4
        · rw [if_pos hck] at hX'
          subst hck
          have hX := hX'
          have hi2 : (k : Int) + 4 + (m : Int) ≤ (k : Int) + 4 := by omega
          by_cases hs : frame ((l.drop (k + 4)).take m) = l.take (k + 4 + m)
          · have HE := Lib.hid hs
            have hy := read_yes hE HK.out (by omega) (by omega) ((frame_take hE HK.out (by omega)).1 hs)
            go_wp2_with fail
            refine wp_region_flow 12 55 [(5, .inr (fun _ => IsBytes (frame ((l.drop (k + 4)).take m))))] rfl rfl (by kernel_rfl) (by kernel_rfl) (by kernel_rfl) ?_ ?_
            · intro x hx φ he
              simp only [List.mem_cons, List.not_mem_nil, or_false] at hx
              rcases hx with rfl <;> cases he
              all_goals first | exact lasts_quiet (lasting_bytes _) | fail
            intro ops' A' K' T hops hA' hK hT
            refine fl_mv 35 (by rfl) (by decide) (wanted_none (by rfl)) (by rw [hK.out]; rfl) (by rfl) _ (Or.inl (by rfl)) (.slice A n (k + 4)) (by rfl) ?_
            refine fl_mv 36 (by rfl) (by decide) (wanted_none (by rfl)) (by rw [hK.out]; rfl) (by rfl) _ (Or.inl (by rfl)) (.int .i64 (k : Int)) (by rfl) ?_
            refine fl_op2 37 (by rfl) (by decide) (wanted_none (by rfl)) (by rw [hK.out]; rfl) (by rfl) (.tmp 36) (.const (.int .i64 4)) (.int .i64 (k : Int)) (.int .i64 4) (by rfl) (by rfl) (.int .i64 ((k : Int) + 4)) (fun ρ h1 h2 kk w1 (hg : Grow _ w1) hb hf => by go_simp) ?_
            refine fl_mv 38 (by rfl) (by decide) (wanted_none (by rfl)) (by rw [hK.out]; rfl) (by rfl) _ (Or.inl (by rfl)) (.int .i64 ((k : Int) + 4 + (m : Int))) (by rfl) ?_
            refine fl_op3 39 (by rfl) (by decide) (wanted_none (by rfl)) (by rw [hK.out]; rfl) (by rfl) (.tmp 35) (.tmp 37) (.tmp 38) (.slice A n (k + 4)) (.int .i64 ((k : Int) + 4)) (.int .i64 ((k : Int) + 4 + (m : Int))) (by rfl) (by rfl) (by rfl) (.slice A m 0) (fun ρ h1 h2 h3 kk w1 (hg : Grow _ w1) hb hf => by go_simp; intro hlt; omega) ?_
            refine fl_callAny 40 (by rfl) (by decide) (wanted_none (by rfl)) (fun _ => IsBytes (frame ((l.drop (k + 4)).take m))) (by rw [hK.out]; rfl) 18 _ _ (by rfl) [.slice A m 0] (by rfl) k18 (fun kk w1 (hg : Grow _ w1) hb hf => calls_behindAny (φ := fun _ => IsBytes (frame ((l.drop (k + 4)).take m))) (by rfl) (by exact rFrame_is hX hg (by omega))) (fun v40 => ?_)
            refine fl_op1 41 (by rfl) (by decide) (wanted_none (by rfl)) (by rw [hK.out]; rfl) (by rfl) (.tmp 40) (v40) (by rfl) (.string ⟨(frame ((l.drop (k + 4)).take m)).toArray⟩) (fun ρ h1 kk w1 (hg : Grow _ w1) hb hf => by have cv := conv_is w1 (facts_take hf (by rw [hA'.out]; kernel_rfl)); go_simp) ?_
            refine fl_mv 42 (by rfl) (by decide) (wanted_none (by rfl)) (by rw [hK.out]; rfl) (by rfl) _ (Or.inl (by rfl)) (.slice A n (k + 4)) (by rfl) ?_
            refine fl_mv 43 (by rfl) (by decide) (wanted_none (by rfl)) (by rw [hK.out]; rfl) (by rfl) _ (Or.inl (by rfl)) (.int .i64 ((k : Int) + 4 + (m : Int))) (by rfl) ?_
            refine fl_op2 44 (by rfl) (by decide) (wanted_none (by rfl)) (by rw [hK.out]; rfl) (by rfl) (.tmp 42) (.tmp 43) (.slice A n (k + 4)) (.int .i64 ((k : Int) + 4 + (m : Int))) (by rfl) (by rfl) (.slice A (k + 4 + m) (k + 4)) (fun ρ h1 h2 kk w1 (hg : Grow _ w1) hb hf => by go_simp) ?_
            refine fl_op1 45 (by rfl) (by decide) (wanted_none (by rfl)) (by rw [hK.out]; rfl) (by rfl) (.tmp 44) (.slice A (k + 4 + m) (k + 4)) (by rfl) (.string ⟨(l.take (k + 4 + m)).toArray⟩) (fun ρ h1 kk w1 (hg : Grow _ w1) hb hf => by have cv := conv_bytes w1 (c := (k + 4)) (hTk.below hg); go_simp) ?_
            refine fl_op2 46 (by rfl) (by decide) (wanted_none (by rfl)) (by rw [hK.out]; rfl) (by rfl) (.tmp 41) (.tmp 45) (.string ⟨(frame ((l.drop (k + 4)).take m)).toArray⟩) (.string ⟨(l.take (k + 4 + m)).toArray⟩) (by rfl) (by rfl) (.bool false) (fun ρ h1 h2 kk w1 (hg : Grow _ w1) hb hf => by have hne2 := HE.out; go_simp) ?_
            refine fl_end (fun _ _ w1 (hg : Grow _ w1) _ hfacts => hT _ _ ?_)
            clear hops hA' hK hT
            simp only [putsL, Act.put, List.setIfInBounds_toArray, List.set_cons_zero, List.set_cons_succ, List.drop_succ_cons, List.drop_zero]
            have hXw := Reads.below hX hg
            go_wp2_with (at_builtin; refine stay ?_)
            refine stay_out ?_
            refine wpList_own (V := fun b => b = w1.heap.size) u8E _ rfl (.tmp 47) (.tmp 52) rfl (.slice (some ⟨w1.heap.size, 0, none⟩) 0 0) 0 [] rfl (made_own w1) w0.heap.size A m 0 (u8s ((l.drop (k + 4)).take m)) rfl (Reads.alloc hXw hg.size _) u8s_one (by omega) ?_
            intro v3 w3 hO3 hj3
            simp only [Nat.zero_add, List.nil_append] at hO3
            obtain ⟨hO3, hg3⟩ := own_new hO3 hj3
            go_wp2_with fail
            refine bodyPost_ret (v := .tuple #[v3, .int .i64 ((k : Int) + 4 + (m : Int)), .bool true]) (by simp [results, Try.results44, go_sem]) rfl ⟨_, k + 4 + m, true, _, hy, by push_cast; rfl, by rw [hxl]; exact hO3.mono fun b hb => ⟨by have := hb.1; have := hg.size; omega, hb.2⟩, (hg0.trans hg).trans hg3⟩
          · have HE := Lib.hid (bytes_ne hs)
            have hno := read_no hE HK.out (by omega) (fun h => hs ((frame_take hE HK.out (by omega)).2 h))
            go_wp2_with fail
            refine wp_region_flow 12 55 [(5, .inr (fun _ => IsBytes (frame ((l.drop (k + 4)).take m))))] rfl rfl (by kernel_rfl) (by kernel_rfl) (by kernel_rfl) ?_ ?_
            · intro x hx φ he
              simp only [List.mem_cons, List.not_mem_nil, or_false] at hx
              rcases hx with rfl <;> cases he
              all_goals first | exact lasts_quiet (lasting_bytes _) | fail
            intro ops' A' K' T hops hA' hK hT
            refine fl_mv 35 (by rfl) (by decide) (wanted_none (by rfl)) (by rw [hK.out]; rfl) (by rfl) _ (Or.inl (by rfl)) (.slice A n (k + 4)) (by rfl) ?_
            refine fl_mv 36 (by rfl) (by decide) (wanted_none (by rfl)) (by rw [hK.out]; rfl) (by rfl) _ (Or.inl (by rfl)) (.int .i64 (k : Int)) (by rfl) ?_
            refine fl_op2 37 (by rfl) (by decide) (wanted_none (by rfl)) (by rw [hK.out]; rfl) (by rfl) (.tmp 36) (.const (.int .i64 4)) (.int .i64 (k : Int)) (.int .i64 4) (by rfl) (by rfl) (.int .i64 ((k : Int) + 4)) (fun ρ h1 h2 kk w1 (hg : Grow _ w1) hb hf => by go_simp) ?_
            refine fl_mv 38 (by rfl) (by decide) (wanted_none (by rfl)) (by rw [hK.out]; rfl) (by rfl) _ (Or.inl (by rfl)) (.int .i64 ((k : Int) + 4 + (m : Int))) (by rfl) ?_
            refine fl_op3 39 (by rfl) (by decide) (wanted_none (by rfl)) (by rw [hK.out]; rfl) (by rfl) (.tmp 35) (.tmp 37) (.tmp 38) (.slice A n (k + 4)) (.int .i64 ((k : Int) + 4)) (.int .i64 ((k : Int) + 4 + (m : Int))) (by rfl) (by rfl) (by rfl) (.slice A m 0) (fun ρ h1 h2 h3 kk w1 (hg : Grow _ w1) hb hf => by go_simp; intro hlt; omega) ?_
            refine fl_callAny 40 (by rfl) (by decide) (wanted_none (by rfl)) (fun _ => IsBytes (frame ((l.drop (k + 4)).take m))) (by rw [hK.out]; rfl) 18 _ _ (by rfl) [.slice A m 0] (by rfl) k18 (fun kk w1 (hg : Grow _ w1) hb hf => calls_behindAny (φ := fun _ => IsBytes (frame ((l.drop (k + 4)).take m))) (by rfl) (by exact rFrame_is hX hg (by omega))) (fun v40 => ?_)
            refine fl_op1 41 (by rfl) (by decide) (wanted_none (by rfl)) (by rw [hK.out]; rfl) (by rfl) (.tmp 40) (v40) (by rfl) (.string ⟨(frame ((l.drop (k + 4)).take m)).toArray⟩) (fun ρ h1 kk w1 (hg : Grow _ w1) hb hf => by have cv := conv_is w1 (facts_take hf (by rw [hA'.out]; kernel_rfl)); go_simp) ?_
            refine fl_mv 42 (by rfl) (by decide) (wanted_none (by rfl)) (by rw [hK.out]; rfl) (by rfl) _ (Or.inl (by rfl)) (.slice A n (k + 4)) (by rfl) ?_
            refine fl_mv 43 (by rfl) (by decide) (wanted_none (by rfl)) (by rw [hK.out]; rfl) (by rfl) _ (Or.inl (by rfl)) (.int .i64 ((k : Int) + 4 + (m : Int))) (by rfl) ?_
            refine fl_op2 44 (by rfl) (by decide) (wanted_none (by rfl)) (by rw [hK.out]; rfl) (by rfl) (.tmp 42) (.tmp 43) (.slice A n (k + 4)) (.int .i64 ((k : Int) + 4 + (m : Int))) (by rfl) (by rfl) (.slice A (k + 4 + m) (k + 4)) (fun ρ h1 h2 kk w1 (hg : Grow _ w1) hb hf => by go_simp) ?_
            refine fl_op1 45 (by rfl) (by decide) (wanted_none (by rfl)) (by rw [hK.out]; rfl) (by rfl) (.tmp 44) (.slice A (k + 4 + m) (k + 4)) (by rfl) (.string ⟨(l.take (k + 4 + m)).toArray⟩) (fun ρ h1 kk w1 (hg : Grow _ w1) hb hf => by have cv := conv_bytes w1 (c := (k + 4)) (hTk.below hg); go_simp) ?_
            refine fl_op2 46 (by rfl) (by decide) (wanted_none (by rfl)) (by rw [hK.out]; rfl) (by rfl) (.tmp 41) (.tmp 45) (.string ⟨(frame ((l.drop (k + 4)).take m)).toArray⟩) (.string ⟨(l.take (k + 4 + m)).toArray⟩) (by rfl) (by rfl) (.bool true) (fun ρ h1 h2 kk w1 (hg : Grow _ w1) hb hf => by have hne2 := HE.out; go_simp) ?_
            refine fl_end (fun _ _ w1 (hg : Grow _ w1) _ hfacts => hT _ _ ?_)
            clear hops hA' hK hT
            simp only [putsL, Act.put, List.setIfInBounds_toArray, List.set_cons_zero, List.set_cons_succ, List.drop_succ_cons, List.drop_zero]
            go_wp2_with fail
            refine bodyPost_ret (v := .tuple #[.slice none 0 0, .int .i64 0, .bool false]) (by simp [results, Try.results44, go_sem]) rfl ⟨[], 0, Or.inl ⟨ReadIs.none hno, _, rfl, Own.nil, hg0.trans hg⟩⟩
        · rw [if_neg hck] at hX'
          have hi2 : (k : Int) + 4 + (m : Int) ≤ (c : Int) := by omega
          have hX : Bytes w0 w0.heap.size (A.map fun x => ⟨x.block, x.off + (k + 3 + 1), none⟩) m ((l.drop (k + 4)).take m) := by
            rwa [show (fun a : Addr => a.add (k + 4)) = fun x => (⟨x.block, x.off + (k + 3 + 1), none⟩ : Addr) from funext fun x => add_ne x (k + 4) (by omega)] at hX'
          by_cases hs : frame ((l.drop (k + 4)).take m) = l.take (k + 4 + m)
          · have HE := Lib.hid hs
            have hy := read_yes hE HK.out (by omega) (by omega) ((frame_take hE HK.out (by omega)).1 hs)
            go_wp2_with fail
            refine wp_region_flow 12 55 [(5, .inr (fun _ => IsBytes (frame ((l.drop (k + 4)).take m))))] rfl rfl (by kernel_rfl) (by kernel_rfl) (by kernel_rfl) ?_ ?_
            · intro x hx φ he
              simp only [List.mem_cons, List.not_mem_nil, or_false] at hx
              rcases hx with rfl <;> cases he
              all_goals first | exact lasts_quiet (lasting_bytes _) | fail
            intro ops' A' K' T hops hA' hK hT
            refine fl_mv 35 (by rfl) (by decide) (wanted_none (by rfl)) (by rw [hK.out]; rfl) (by rfl) _ (Or.inl (by rfl)) (.slice A n c) (by rfl) ?_
            refine fl_mv 36 (by rfl) (by decide) (wanted_none (by rfl)) (by rw [hK.out]; rfl) (by rfl) _ (Or.inl (by rfl)) (.int .i64 (k : Int)) (by rfl) ?_
            refine fl_op2 37 (by rfl) (by decide) (wanted_none (by rfl)) (by rw [hK.out]; rfl) (by rfl) (.tmp 36) (.const (.int .i64 4)) (.int .i64 (k : Int)) (.int .i64 4) (by rfl) (by rfl) (.int .i64 ((k : Int) + 4)) (fun ρ h1 h2 kk w1 (hg : Grow _ w1) hb hf => by go_simp) ?_
            refine fl_mv 38 (by rfl) (by decide) (wanted_none (by rfl)) (by rw [hK.out]; rfl) (by rfl) _ (Or.inl (by rfl)) (.int .i64 ((k : Int) + 4 + (m : Int))) (by rfl) ?_
            refine fl_op3 39 (by rfl) (by decide) (wanted_none (by rfl)) (by rw [hK.out]; rfl) (by rfl) (.tmp 35) (.tmp 37) (.tmp 38) (.slice A n c) (.int .i64 ((k : Int) + 4)) (.int .i64 ((k : Int) + 4 + (m : Int))) (by rfl) (by rfl) (by rfl) (.slice (A.map fun x => ⟨x.block, x.off + (k + 3 + 1), none⟩) m (c - (k + 4))) (fun ρ h1 h2 h3 kk w1 (hg : Grow _ w1) hb hf => by go_simp; intro hlt; omega) ?_
            refine fl_callAny 40 (by rfl) (by decide) (wanted_none (by rfl)) (fun _ => IsBytes (frame ((l.drop (k + 4)).take m))) (by rw [hK.out]; rfl) 18 _ _ (by rfl) [.slice (A.map fun x => ⟨x.block, x.off + (k + 3 + 1), none⟩) m (c - (k + 4))] (by rfl) k18 (fun kk w1 (hg : Grow _ w1) hb hf => calls_behindAny (φ := fun _ => IsBytes (frame ((l.drop (k + 4)).take m))) (by rfl) (by exact rFrame_is hX hg (by omega))) (fun v40 => ?_)
            refine fl_op1 41 (by rfl) (by decide) (wanted_none (by rfl)) (by rw [hK.out]; rfl) (by rfl) (.tmp 40) (v40) (by rfl) (.string ⟨(frame ((l.drop (k + 4)).take m)).toArray⟩) (fun ρ h1 kk w1 (hg : Grow _ w1) hb hf => by have cv := conv_is w1 (facts_take hf (by rw [hA'.out]; kernel_rfl)); go_simp) ?_
            refine fl_mv 42 (by rfl) (by decide) (wanted_none (by rfl)) (by rw [hK.out]; rfl) (by rfl) _ (Or.inl (by rfl)) (.slice A n c) (by rfl) ?_
            refine fl_mv 43 (by rfl) (by decide) (wanted_none (by rfl)) (by rw [hK.out]; rfl) (by rfl) _ (Or.inl (by rfl)) (.int .i64 ((k : Int) + 4 + (m : Int))) (by rfl) ?_
            refine fl_op2 44 (by rfl) (by decide) (wanted_none (by rfl)) (by rw [hK.out]; rfl) (by rfl) (.tmp 42) (.tmp 43) (.slice A n c) (.int .i64 ((k : Int) + 4 + (m : Int))) (by rfl) (by rfl) (.slice A (k + 4 + m) c) (fun ρ h1 h2 kk w1 (hg : Grow _ w1) hb hf => by go_simp) ?_
            refine fl_op1 45 (by rfl) (by decide) (wanted_none (by rfl)) (by rw [hK.out]; rfl) (by rfl) (.tmp 44) (.slice A (k + 4 + m) c) (by rfl) (.string ⟨(l.take (k + 4 + m)).toArray⟩) (fun ρ h1 kk w1 (hg : Grow _ w1) hb hf => by have cv := conv_bytes w1 (c := c) (hTk.below hg); go_simp) ?_
            refine fl_op2 46 (by rfl) (by decide) (wanted_none (by rfl)) (by rw [hK.out]; rfl) (by rfl) (.tmp 41) (.tmp 45) (.string ⟨(frame ((l.drop (k + 4)).take m)).toArray⟩) (.string ⟨(l.take (k + 4 + m)).toArray⟩) (by rfl) (by rfl) (.bool false) (fun ρ h1 h2 kk w1 (hg : Grow _ w1) hb hf => by have hne2 := HE.out; go_simp) ?_
            refine fl_end (fun _ _ w1 (hg : Grow _ w1) _ hfacts => hT _ _ ?_)
            clear hops hA' hK hT
            simp only [putsL, Act.put, List.setIfInBounds_toArray, List.set_cons_zero, List.set_cons_succ, List.drop_succ_cons, List.drop_zero]
            have hXw := Reads.below hX hg
            go_wp2_with (at_builtin; refine stay ?_)
            refine stay_out ?_
            refine wpList_own (V := fun b => b = w1.heap.size) u8E _ rfl (.tmp 47) (.tmp 52) rfl (.slice (some ⟨w1.heap.size, 0, none⟩) 0 0) 0 [] rfl (made_own w1) w0.heap.size (A.map fun x => ⟨x.block, x.off + (k + 3 + 1), none⟩) m (c - (k + 4)) (u8s ((l.drop (k + 4)).take m)) rfl (Reads.alloc hXw hg.size _) u8s_one (by omega) ?_
            intro v3 w3 hO3 hj3
            simp only [Nat.zero_add, List.nil_append] at hO3
            obtain ⟨hO3, hg3⟩ := own_new hO3 hj3
            go_wp2_with fail
            refine bodyPost_ret (v := .tuple #[v3, .int .i64 ((k : Int) + 4 + (m : Int)), .bool true]) (by simp [results, Try.results44, go_sem]) rfl ⟨_, k + 4 + m, true, _, hy, by push_cast; rfl, by rw [hxl]; exact hO3.mono fun b hb => ⟨by have := hb.1; have := hg.size; omega, hb.2⟩, (hg0.trans hg).trans hg3⟩
          · have HE := Lib.hid (bytes_ne hs)
            have hno := read_no hE HK.out (by omega) (fun h => hs ((frame_take hE HK.out (by omega)).2 h))
            go_wp2_with fail
            refine wp_region_flow 12 55 [(5, .inr (fun _ => IsBytes (frame ((l.drop (k + 4)).take m))))] rfl rfl (by kernel_rfl) (by kernel_rfl) (by kernel_rfl) ?_ ?_
            · intro x hx φ he
              simp only [List.mem_cons, List.not_mem_nil, or_false] at hx
              rcases hx with rfl <;> cases he
              all_goals first | exact lasts_quiet (lasting_bytes _) | fail
            intro ops' A' K' T hops hA' hK hT
            refine fl_mv 35 (by rfl) (by decide) (wanted_none (by rfl)) (by rw [hK.out]; rfl) (by rfl) _ (Or.inl (by rfl)) (.slice A n c) (by rfl) ?_
            refine fl_mv 36 (by rfl) (by decide) (wanted_none (by rfl)) (by rw [hK.out]; rfl) (by rfl) _ (Or.inl (by rfl)) (.int .i64 (k : Int)) (by rfl) ?_
            refine fl_op2 37 (by rfl) (by decide) (wanted_none (by rfl)) (by rw [hK.out]; rfl) (by rfl) (.tmp 36) (.const (.int .i64 4)) (.int .i64 (k : Int)) (.int .i64 4) (by rfl) (by rfl) (.int .i64 ((k : Int) + 4)) (fun ρ h1 h2 kk w1 (hg : Grow _ w1) hb hf => by go_simp) ?_
            refine fl_mv 38 (by rfl) (by decide) (wanted_none (by rfl)) (by rw [hK.out]; rfl) (by rfl) _ (Or.inl (by rfl)) (.int .i64 ((k : Int) + 4 + (m : Int))) (by rfl) ?_
            refine fl_op3 39 (by rfl) (by decide) (wanted_none (by rfl)) (by rw [hK.out]; rfl) (by rfl) (.tmp 35) (.tmp 37) (.tmp 38) (.slice A n c) (.int .i64 ((k : Int) + 4)) (.int .i64 ((k : Int) + 4 + (m : Int))) (by rfl) (by rfl) (by rfl) (.slice (A.map fun x => ⟨x.block, x.off + (k + 3 + 1), none⟩) m (c - (k + 4))) (fun ρ h1 h2 h3 kk w1 (hg : Grow _ w1) hb hf => by go_simp; intro hlt; omega) ?_
            refine fl_callAny 40 (by rfl) (by decide) (wanted_none (by rfl)) (fun _ => IsBytes (frame ((l.drop (k + 4)).take m))) (by rw [hK.out]; rfl) 18 _ _ (by rfl) [.slice (A.map fun x => ⟨x.block, x.off + (k + 3 + 1), none⟩) m (c - (k + 4))] (by rfl) k18 (fun kk w1 (hg : Grow _ w1) hb hf => calls_behindAny (φ := fun _ => IsBytes (frame ((l.drop (k + 4)).take m))) (by rfl) (by exact rFrame_is hX hg (by omega))) (fun v40 => ?_)
            refine fl_op1 41 (by rfl) (by decide) (wanted_none (by rfl)) (by rw [hK.out]; rfl) (by rfl) (.tmp 40) (v40) (by rfl) (.string ⟨(frame ((l.drop (k + 4)).take m)).toArray⟩) (fun ρ h1 kk w1 (hg : Grow _ w1) hb hf => by have cv := conv_is w1 (facts_take hf (by rw [hA'.out]; kernel_rfl)); go_simp) ?_
            refine fl_mv 42 (by rfl) (by decide) (wanted_none (by rfl)) (by rw [hK.out]; rfl) (by rfl) _ (Or.inl (by rfl)) (.slice A n c) (by rfl) ?_
            refine fl_mv 43 (by rfl) (by decide) (wanted_none (by rfl)) (by rw [hK.out]; rfl) (by rfl) _ (Or.inl (by rfl)) (.int .i64 ((k : Int) + 4 + (m : Int))) (by rfl) ?_
            refine fl_op2 44 (by rfl) (by decide) (wanted_none (by rfl)) (by rw [hK.out]; rfl) (by rfl) (.tmp 42) (.tmp 43) (.slice A n c) (.int .i64 ((k : Int) + 4 + (m : Int))) (by rfl) (by rfl) (.slice A (k + 4 + m) c) (fun ρ h1 h2 kk w1 (hg : Grow _ w1) hb hf => by go_simp) ?_
            refine fl_op1 45 (by rfl) (by decide) (wanted_none (by rfl)) (by rw [hK.out]; rfl) (by rfl) (.tmp 44) (.slice A (k + 4 + m) c) (by rfl) (.string ⟨(l.take (k + 4 + m)).toArray⟩) (fun ρ h1 kk w1 (hg : Grow _ w1) hb hf => by have cv := conv_bytes w1 (c := c) (hTk.below hg); go_simp) ?_
            refine fl_op2 46 (by rfl) (by decide) (wanted_none (by rfl)) (by rw [hK.out]; rfl) (by rfl) (.tmp 41) (.tmp 45) (.string ⟨(frame ((l.drop (k + 4)).take m)).toArray⟩) (.string ⟨(l.take (k + 4 + m)).toArray⟩) (by rfl) (by rfl) (.bool true) (fun ρ h1 h2 kk w1 (hg : Grow _ w1) hb hf => by have hne2 := HE.out; go_simp) ?_
            refine fl_end (fun _ _ w1 (hg : Grow _ w1) _ hfacts => hT _ _ ?_)
            clear hops hA' hK hT
            simp only [putsL, Act.put, List.setIfInBounds_toArray, List.set_cons_zero, List.set_cons_succ, List.drop_succ_cons, List.drop_zero]
            go_wp2_with fail
            refine bodyPost_ret (v := .tuple #[.slice none 0 0, .int .i64 0, .bool false]) (by simp [results, Try.results44, go_sem]) rfl ⟨[], 0, Or.inl ⟨ReadIs.none hno, _, rfl, Own.nil, hg0.trans hg⟩⟩
  · go_wp2_with fail
    refine bodyPost_ret (v := .tuple #[.slice none 0 0, .int .i64 0, .bool false]) (by simp [results, Try.results44, go_sem]) rfl ⟨[], 0, false, _, ReadIs.none (none_get hno), rfl, Own.nil, hg0⟩
end Go.Proofs.Ytdpcokekilklfaa
