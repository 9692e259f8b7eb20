/- The answer's Get: what it tells. -/
import Derived.Test.YtdpcokekilklfaaVref
namespace Go.Proofs.Ytdpcokekilklfaa
open Go.RowKit Go.Hop
theorem and127 : ∀ x : Nat, x < 256 → bits .and .u8 (x : Int) 127 = ((x % 128 : Nat) : Int) := by decide +kernel
theorem rPut_is (w : World) (m : Nat) (hm : m < 18446744073709551616) : Calls Try.prog 29 #[.slice none 0 0, .int .u64 (m : Int)] w fun e w' => ∃ v, e = .returned v ∧ Grow w w' ∧ IsBytes (enc m) v w' :=
  (rPut_any w none 0 0 [] Reads.nil (Nat.zero_le _) m hm).mono fun _ _ ⟨v, he, hO, hg⟩ => ⟨v, he, hg, Own.isBytes hO⟩
theorem shl_ref (p i : Nat) : IntKind.u64.wrap ((p : Int) * 2 ^ (7 * i)) = ((p * 128 ^ i % 18446744073709551616 : Nat) : Int) := by
  rw [Nat.mul_comm 7 i, pow7, ← Int.natCast_mul, wrap_u64]; omega
theorem bytes_ne {a b : List UInt8} (h : a ≠ b) : (⟨a.toArray⟩ : ByteArray) ≠ ⟨b.toArray⟩ := fun e => h (by
  have := congrArg (fun x : ByteArray => x.data.toList) e
  simpa using this)
/-- what the sum becomes -/
theorem or_step (l : List UInt8) (i p x : Nat) (hi : i < l.length) (hx : x = l[i].toNat) (hp : p = x % 128) (h9 : i ≤ 9) (h : p * 128 ^ i < 18446744073709551616) : (val (l.take i) ||| (p * 128 ^ i % 18446744073709551616)) = val (l.take (i + 1)) := by
  have h1 := or_in (val (l.take i)) p i (val_take_lt l i) h h9 (by omega)
  have h2 := or_lt (val (l.take i)) p i (val_take_lt l i) h h9
  rw [or_nat _ _ (by omega) h] at h1
  rw [val_take_succ l i hi, ← hx, ← hp, Nat.mod_eq_of_lt h]
  exact Int.ofNat.inj h1
set_option maxRecDepth 100000 in
set_option maxHeartbeats 1000000 in
theorem rGet_any (w : World) (B : Nat) (A : Option Addr) (n c : Nat) (l : List UInt8) (hb : Bytes w B A n l) (hBw : B ≤ w.heap.size) (hnc : n ≤ c) (hnm : c ≤ maxLen) :
    Calls Try.prog 50 #[.slice A n c] w fun e w' => ∃ v k : Nat, GetIs l v k ∧ e = .returned (.tuple #[.int .u64 (v : Int), .int .i64 (k : Int)]) ∧ Grow w w' := by
  have hlen := hb.len
  unfold maxLen at hnm
  have k29 : ∀ (vs : Array Value) (w : World), (callFunc 29 vs).run Try.prog w = .ok (.enter 29 vs) w := fun vs w => by go_simp
  go_enter Try.func50, Try.ntmps50
  go_wp2_with fail
  go_loopw [4, 5] (fun av iv wr => ∃ i a : Nat, i ≤ n ∧ i ≤ 10 ∧ iv = .int .i64 i ∧ av = .int .u64 (a : Int) ∧ a < 18446744073709551616 ∧ (i ≤ 9 → a = val (l.take i)) ∧ Hi l i ∧ wr = w) (fun _ iv _ => n - (intOf iv).toNat)
  case atStart => exact ⟨0, 0, by omega, by omega, rfl, rfl, by omega, fun _ => rfl, fun j hj h => by omega, rfl⟩
  case round =>
    obtain ⟨i, a, hin, hi10, rfl, rfl, ha, hav, hhi, rfl⟩ := hrel
    have HHI := Lib.hid hhi
    have HAV := Lib.hid hav
    clear hhi hav
    by_cases hi : i < n
    · by_cases h10 : i < 10
      · obtain ⟨ad, hil, rfl, hcell⟩ := hb.at_ hi
        have hc := l[i].toNat_lt
        obtain ⟨x, HX⟩ : ∃ x : Nat, Hid (x = l[i].toNat) := ⟨l[i].toNat, rfl⟩
        rw [← HX.out] at hcell hc
        have ean := and127 x (by omega)
        obtain ⟨p, HPX⟩ : ∃ p : Nat, Hid (p = x % 128) := ⟨_, rfl⟩
        have hp : p < 128 := by have := HPX.out; omega
        rw [← HPX.out] at ean
        have ew := shl_ref p i
        obtain ⟨q, HQ⟩ : ∃ q : Nat, Hid (q = p * 128 ^ i % 18446744073709551616) := ⟨_, rfl⟩
        have hq : q < 18446744073709551616 := by have := HQ.out; omega
        rw [← HQ.out] at ew
        have eo := or_nat a q ha hq
        have hbl := Nat.or_lt_two_pow (n := 64) ha hq
        obtain ⟨b, HB⟩ : ∃ b : Nat, Hid (b = a ||| q) := ⟨_, rfl⟩
        rw [← HB.out] at eo hbl
        have hstep : p * 128 ^ i < 18446744073709551616 → b = val (l.take (i + 1)) := fun h => by
          rw [HB.out, HAV.out (by omega), HQ.out]
          exact or_step l i p x hil HX.out HPX.out (by omega) h
        have HS := Lib.hid hstep
        clear hstep
        by_cases hx : 128 ≤ x
        · go_wp2_with fail
          go_roundw
          case rel => exact ⟨i + 1, b, by omega, by omega, by go_num, rfl, hbl, fun h9 => HS.out (by
            have h8 : 128 ^ i ≤ 128 ^ 8 := Nat.pow_le_pow_right (by omega) (by omega)
            have h2 : p * 128 ^ i ≤ 127 * 128 ^ 8 := Nat.mul_le_mul (by omega) h8
            omega), hi_succ hil HHI.out (by rw [← HX.out]; exact hx), trivial⟩
          case measure => simp [intOf]; omega
        · have hti : Bytes wr B (some ad) (i + 1) (l.take (i + 1)) := by
            have := Reads.take hb (k := i + 1) (by omega)
            unfold Bytes
            rw [u8s_take]; exact this
          have hck : ¬ (c : Int) < (i : Int) + 1 := by omega
          have hw1 : IntKind.i64.wrap ((i : Int) + 1) = (i : Int) + 1 := by rw [IntKind.wrap_i64]; omega
          have h0i : (0 : Int) ≤ (i : Int) + 1 := by omega
          go_wp2_with fail
          by_cases heq : enc b = l.take (i + 1)
          · have HE := Lib.hid heq
            rw [← heq] at hti
            clear heq
            refine wp_region_flow 9 45 [(1, .inr (fun _ => IsBytes (enc b)))] rfl rfl (by kernel_rfl) (by kernel_rfl) (by kernel_rfl) ?_ ?_
            · intro x hx φ he
              simp only [List.mem_cons, List.not_mem_nil, or_false] at hx
              rcases hx with rfl <;> cases he
              all_goals first | exact lasts_quiet (lasting_bytes _) | fail
            intro ops' A' K' T hops hA' hK hT
            refine fl_mv 33 (by rfl) (by decide) (wanted_none (by rfl)) (by rw [hK.out]; rfl) (by rfl) _ (Or.inl (by rfl)) (.int .u64 (b : Int)) (by rfl) ?_
            refine fl_callAny 34 (by rfl) (by decide) (wanted_none (by rfl)) (fun _ => IsBytes (enc b)) (by rw [hK.out]; rfl) 29 _ _ (by rfl) [.slice none 0 0, .int .u64 (b : Int)] (by rfl) k29 (fun kk w1 (hg : Grow _ w1) hb hf => calls_behindAny (φ := fun _ => IsBytes (enc b)) (by rfl) (by exact rPut_is w1 b hbl)) (fun v34 => ?_)
            refine fl_op1 35 (by rfl) (by decide) (wanted_none (by rfl)) (by rw [hK.out]; rfl) (by rfl) (.tmp 34) (v34) (by rfl) (.string ⟨(enc b).toArray⟩) (fun ρ h1 kk w1 (hg : Grow _ w1) hb hf => by have cv := conv_is w1 (facts_take hf (by rw [hA'.out]; kernel_rfl)); go_simp) ?_
            refine fl_mv 36 (by rfl) (by decide) (wanted_none (by rfl)) (by rw [hK.out]; rfl) (by rfl) _ (Or.inl (by rfl)) (.slice (some ad) n c) (by rfl) ?_
            refine fl_mv 37 (by rfl) (by decide) (wanted_none (by rfl)) (by rw [hK.out]; rfl) (by rfl) _ (Or.inl (by rfl)) (.int .i64 (i : Int)) (by rfl) ?_
            refine fl_op2 38 (by rfl) (by decide) (wanted_none (by rfl)) (by rw [hK.out]; rfl) (by rfl) (.tmp 37) (.const (.int .i64 1)) (.int .i64 (i : Int)) (.int .i64 1) (by rfl) (by rfl) (.int .i64 ((i : Int) + 1)) (fun ρ h1 h2 kk w1 (hg : Grow _ w1) hb hf => by go_simp) ?_
            refine fl_op2 39 (by rfl) (by decide) (wanted_none (by rfl)) (by rw [hK.out]; rfl) (by rfl) (.tmp 36) (.tmp 38) (.slice (some ad) n c) (.int .i64 ((i : Int) + 1)) (by rfl) (by rfl) (.slice (some ad) (i + 1) c) (fun ρ h1 h2 kk w1 (hg : Grow _ w1) hb hf => by go_simp) ?_
            refine fl_op1 40 (by rfl) (by decide) (wanted_none (by rfl)) (by rw [hK.out]; rfl) (by rfl) (.tmp 39) (.slice (some ad) (i + 1) c) (by rfl) (.string ⟨(enc b).toArray⟩) (fun ρ h1 kk w1 (hg : Grow _ w1) hb hf => by have cv := conv_bytes w1 (c := c) (hti.below (Below.mono hg hBw)); go_simp) ?_
            refine fl_op2 41 (by rfl) (by decide) (wanted_none (by rfl)) (by rw [hK.out]; rfl) (by rfl) (.tmp 35) (.tmp 40) (.string ⟨(enc b).toArray⟩) (.string ⟨(enc b).toArray⟩) (by rfl) (by rfl) (.bool false) (fun ρ h1 h2 kk w1 (hg : Grow _ w1) hb hf => by go_simp) ?_
            refine fl_end (fun _ _ w1 (hg : Grow _ w1) _ hfacts => hT _ _ ?_)
            clear hops hA' hK hT
            simp only [putsL, Act.put, List.setIfInBounds_toArray, List.set_cons_zero, List.set_cons_succ, List.drop_succ_cons, List.drop_zero]

            go_wp2_with fail
            go_ret2
            refine ⟨b, i + 1, .inl ⟨hbl, by rw [HE.out]; exact List.take_prefix _ _, by rw [HE.out, List.length_take]; omega⟩, by push_cast; rfl, hg⟩
          · have hne := bytes_ne heq
            have HE := Lib.hid heq
            clear heq
            refine wp_region_flow 9 45 [(1, .inr (fun _ => IsBytes (enc b)))] rfl rfl (by kernel_rfl) (by kernel_rfl) (by kernel_rfl) ?_ ?_
            · intro x hx φ he
              simp only [List.mem_cons, List.not_mem_nil, or_false] at hx
              rcases hx with rfl <;> cases he
              all_goals first | exact lasts_quiet (lasting_bytes _) | fail
            intro ops' A' K' T hops hA' hK hT
            refine fl_mv 33 (by rfl) (by decide) (wanted_none (by rfl)) (by rw [hK.out]; rfl) (by rfl) _ (Or.inl (by rfl)) (.int .u64 (b : Int)) (by rfl) ?_
            refine fl_callAny 34 (by rfl) (by decide) (wanted_none (by rfl)) (fun _ => IsBytes (enc b)) (by rw [hK.out]; rfl) 29 _ _ (by rfl) [.slice none 0 0, .int .u64 (b : Int)] (by rfl) k29 (fun kk w1 (hg : Grow _ w1) hb hf => calls_behindAny (φ := fun _ => IsBytes (enc b)) (by rfl) (by exact rPut_is w1 b hbl)) (fun v34 => ?_)
            refine fl_op1 35 (by rfl) (by decide) (wanted_none (by rfl)) (by rw [hK.out]; rfl) (by rfl) (.tmp 34) (v34) (by rfl) (.string ⟨(enc b).toArray⟩) (fun ρ h1 kk w1 (hg : Grow _ w1) hb hf => by have cv := conv_is w1 (facts_take hf (by rw [hA'.out]; kernel_rfl)); go_simp) ?_
            refine fl_mv 36 (by rfl) (by decide) (wanted_none (by rfl)) (by rw [hK.out]; rfl) (by rfl) _ (Or.inl (by rfl)) (.slice (some ad) n c) (by rfl) ?_
            refine fl_mv 37 (by rfl) (by decide) (wanted_none (by rfl)) (by rw [hK.out]; rfl) (by rfl) _ (Or.inl (by rfl)) (.int .i64 (i : Int)) (by rfl) ?_
            refine fl_op2 38 (by rfl) (by decide) (wanted_none (by rfl)) (by rw [hK.out]; rfl) (by rfl) (.tmp 37) (.const (.int .i64 1)) (.int .i64 (i : Int)) (.int .i64 1) (by rfl) (by rfl) (.int .i64 ((i : Int) + 1)) (fun ρ h1 h2 kk w1 (hg : Grow _ w1) hb hf => by go_simp) ?_
            refine fl_op2 39 (by rfl) (by decide) (wanted_none (by rfl)) (by rw [hK.out]; rfl) (by rfl) (.tmp 36) (.tmp 38) (.slice (some ad) n c) (.int .i64 ((i : Int) + 1)) (by rfl) (by rfl) (.slice (some ad) (i + 1) c) (fun ρ h1 h2 kk w1 (hg : Grow _ w1) hb hf => by go_simp) ?_
            refine fl_op1 40 (by rfl) (by decide) (wanted_none (by rfl)) (by rw [hK.out]; rfl) (by rfl) (.tmp 39) (.slice (some ad) (i + 1) c) (by rfl) (.string ⟨(l.take (i + 1)).toArray⟩) (fun ρ h1 kk w1 (hg : Grow _ w1) hb hf => by have cv := conv_bytes w1 (c := c) (hti.below (Below.mono hg hBw)); go_simp) ?_
            refine fl_op2 41 (by rfl) (by decide) (wanted_none (by rfl)) (by rw [hK.out]; rfl) (by rfl) (.tmp 35) (.tmp 40) (.string ⟨(enc b).toArray⟩) (.string ⟨(l.take (i + 1)).toArray⟩) (by rfl) (by rfl) (.bool true) (fun ρ h1 h2 kk w1 (hg : Grow _ w1) hb hf => by have hne2 := HE.out; go_simp) ?_
            refine fl_end (fun _ _ w1 (hg : Grow _ w1) _ hfacts => hT _ _ ?_)
            clear hops hA' hK hT
            simp only [putsL, Act.put, List.setIfInBounds_toArray, List.set_cons_zero, List.set_cons_succ, List.drop_succ_cons, List.drop_zero]

            go_wp2_with fail
            go_ret2
            refine ⟨0, 0, GetIs.none (fun m hm hpr => HE.out ?_), rfl, hg⟩
            have h1 := enc_at hil HHI.out (by rw [← HX.out]; omega) hpr
            have h2 := val_part _ l i hil hpr (canon_hi _ l i (enc_canon m) hpr HHI.out)
            rw [val_enc, ← HX.out, ← HPX.out] at h2
            have h3 := HS.out (by omega)
            rw [← h1, val_enc] at h3
            rw [h3, h1]
      · have hi' : i = 10 := by omega
        subst hi'
        go_wp2_with fail
        go_ret2
        exact ⟨0, 0, GetIs.none (none_long HHI.out (by omega)), rfl, Grow.refl _⟩
    · go_wp2_with fail
      go_ret2
      exact ⟨0, 0, GetIs.none (none_long HHI.out (by omega)), rfl, Grow.refl _⟩
end Go.Proofs.Ytdpcokekilklfaa
