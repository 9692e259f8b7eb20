/- VarintNumbers: its walk. -/
import Derived.Test.YtoeffekghmmmjaaNums
namespace Go.Proofs.Ytoeffekghmmmjaa
open Go.RowKit Go.Hop
set_option maxRecDepth 100000 in
set_option maxHeartbeats 4000000 in
theorem numbers_any (w : World) : Calls Try.prog 5 #[] w fun e w' => e = .returned (.bool true) ∧ Grow w w' := by
  go_enter Try.func5, Try.ntmps5
  go_wp2_with fail
  go_loopw [1] (fun iv wr => ∃ i : Nat, i ≤ 64 ∧ iv = .int .u64 i ∧ Grow w wr) (fun iv _ => 64 - (intOf iv).toNat)
  case atStart => exact ⟨0, by omega, rfl, Grow.refl _⟩
  case round =>
    obtain ⟨i, hi64, rfl, hg0⟩ := hrel
    by_cases hi : i < 64
    · go_wp2_with fail
      go_loopw [2] (fun dv wr => ∃ d : Nat, d ≤ 3 ∧ dv = .int .u64 d ∧ Grow w wr) (fun dv _ => 3 - (intOf dv).toNat)
      case atStart => exact ⟨0, by omega, rfl, hg0⟩
      case round =>
        obtain ⟨d, hd3, rfl, hg1⟩ := hrel
        by_cases hd : d < 3
        · go_wp2_with fail
          obtain ⟨n, hn, hE⟩ : ∃ n : Nat, n < 18446744073709551616 ∧ IntKind.u64.wrap (IntKind.u64.wrap (IntKind.u64.wrap (2 ^ i) - 1) + (d : Int)) = (n : Int) := ⟨(IntKind.u64.wrap (IntKind.u64.wrap (IntKind.u64.wrap (2 ^ i) - 1) + (d : Int))).toNat, by rw [wrap_u64]; omega, by rw [wrap_u64]; omega⟩
          rw [hE]
          clear hE
          go_at_call 13
          refine (rPut_any wr none 0 0 [] Reads.nil (by omega) n hn).mono ?_
          rintro e w9 ⟨v9, rfl, hO9, hg9⟩
          have hO9 := nil_own hO9
          obtain ⟨L, HL⟩ : ∃ L, Hid (L = (enc n).length) := ⟨_, rfl⟩
          have hL : 1 ≤ L ∧ L ≤ 10 := by rw [HL.out]; exact ⟨enc_pos n, enc_ten hn⟩
          obtain ⟨X, HX⟩ : ∃ X, Hid (X = enc n) := ⟨_, rfl⟩
          rw [← HL.out, ← HX.out] at hO9
          have hXL : X.length = L := by rw [HX.out, HL.out]
          obtain ⟨g, c4, rfl⟩ : ∃ g c4, v9 = .slice (some ⟨g, 0, none⟩) L c4 := by
            rcases hO9.2 with ⟨_, h0⟩ | ⟨g, cap, cur, h0, _⟩
            · omega
            · exact ⟨g, cap, h0⟩
          have hLc : L ≤ c4 := by
            obtain ⟨_, c', e, _, h1, _⟩ := hO9.reads
            injection e with _ _ e; omega
          obtain ⟨x, hx, HXX⟩ : ∃ x : Nat, x < 256 ∧ Hid (x = (X[L - 1]'(by omega)).toNat) := ⟨(X[L - 1]'(by omega)).toNat, UInt8.toNat_lt _, rfl⟩
          have hcell : ∀ w1, Own w1 (New wr w9) 5 1 (.slice (some ⟨g, 0, none⟩) L c4) L (u8s X) → w1.cell? ⟨g, L - 1, none⟩ = some (.int .u8 (x : Int)) := fun w1 h => by
            obtain ⟨A', c', e, hR, _, _⟩ := h.reads
            injection e with e _ _
            obtain ⟨ad, hl, e', hc⟩ := Bytes.at_ (show Bytes w1 w1.heap.size A' L X from hR) (k := L - 1) (by omega)
            rw [← e] at e'; injection e' with e'
            subst e'
            rw [HXX.out]
            have hadd : (⟨g, 0, none⟩ : Addr).add (L - 1) = ⟨g, L - 1, none⟩ := by unfold Addr.add; split <;> simp_all
            rw [hadd] at hc
            exact hc
          have hLs : L ≤ 1048576 := by omega
          have hL1 : 1 ≤ ([UInt8.ofNat (x % 128 + 128), 0] : List UInt8).length ∧ ([UInt8.ofNat (x % 128 + 128), 0] : List UInt8).length ≤ 2 := by simp
          obtain ⟨TX, HTX⟩ : ∃ TX : ByteArray, Hid (ByteArray.extract ⟨#[116, 101, 120, 116]⟩ 0 ((i : Int) % 5).toNat = TX) := ⟨_, rfl⟩
          have hTX : TX.size ≤ 1099511627776 := by rw [← HTX.out, ByteArray.size_extract]; show min _ 4 - 0 ≤ _; omega
          have htm : ((i : Int)).tmod 5 = (i : Int) % 5 := Int.tmod_eq_emod_of_nonneg (by omega)
          obtain ⟨M, rfl⟩ : ∃ M, L = M + 1 := ⟨L - 1, by omega⟩
          have hcM : ¬ (c4 : Int) < (M : Int) := by omega
          have hcM2 : ¬ c4 < M := by omega
          have hcell2 : ∀ w1, Own w1 (New wr w9) 5 1 (.slice (some ⟨g, 0, none⟩) (M + 1) c4) (M + 1) (u8s X) → w1.cell? ⟨g, M, none⟩ = some (.int .u8 (x : Int)) := hcell
          have hMM : ¬ (M : Int) + 1 ≤ (M : Int) := by omega
          have hwM : IntKind.i64.wrap (M : Int) = (M : Int) := by rw [IntKind.wrap_i64]; omega
          have hxn : bits .xor .u64 18446744073709551615 (n : Int) = ((18446744073709551615 - n : Nat) : Int) := by
            have := xor_nat 18446744073709551615 n (by omega) hn
            rw [Nat.xor_comm, xor_ones n hn] at this
            exact this
          have rc : ∀ (a0 : Act) (q : List (Tmp × Value)) (v : Value), rdL a0 q (.const v) = v := fun _ _ _ => rfl
          have k14 : ∀ (vs : Array Value) (w : World), (callFunc 14 vs).run Try.prog w = .ok (.enter 14 vs) w := fun vs w => by go_simp
          have k15 : ∀ (vs : Array Value) (w : World), (callFunc 15 vs).run Try.prog w = .ok (.enter 15 vs) w := fun vs w => by go_simp
          go_wp2_with fail
          refine wp_region_reg rfl ?_
          refine reg_flow (AppSt (New wr w9) 5 1 (.slice (some ⟨g, 0, none⟩) (M + 1) c4) (M + 1) (u8s X) 26 [(7, 0), (27, 1), (55, 1), (56, 1), (57, 1)]) appSt_ok 0 60 136 [(0, .inr (Early (IsBytes [7]))), (7, .inl (.bool true)), (15, .inl (.bool true)), (20, .inl (.bool true)), (25, .inr (Early (IsBytes [0]))), (26, .inr (Once (IsBytes (X ++ [0])))), (27, .inl (.bool true)), (36, .inl (.bool true)), (55, .inr (Once (IsBytes [UInt8.ofNat (x % 128 + 128), 0]))), (56, .inr (Once (IsBytes (X.take M ++ [UInt8.ofNat (x % 128 + 128), 0])))), (57, .inl (.bool true))] rfl (by kernel_rfl) (by kernel_rfl) (by kernel_rfl) ?_ (Just.of_grow (Grow.refl _).drew) hO9 ?_
          · intro x hx φ he
            simp only [List.mem_cons, List.not_mem_nil, or_false] at hx
            rcases hx with rfl | rfl | rfl | rfl | rfl | rfl | rfl | rfl | rfl | rfl | rfl <;> cases he
            all_goals first | exact lasts_quiet (lasting_bytes _) | exact once_lasts (lasting_bytes _) | exact early_lasts (lasting_bytes _)
          intro ops' A' K' T hops hA' hK hT
          refine fl_any1 23 (by rfl) (by decide) (wanted_none (by rfl)) (Early (IsBytes [7])) (by rw [hK.out]; rfl) (.const (.int .u8 7)) (.int .u8 7) (by rfl) (fun ρ h1 kk w1 (hg : Just (New wr w9) _ w1) hb hf => by refine upon_behindAny (by rfl) ?_; exact flowUpon_value (w := w1.alloc (.cells #[.int .u8 7] 5)) (by go_simp) ⟨(Below.refl w1.heap.size w1).alloc (Nat.le_refl _) _, early_of (lit_is w1 #[.int .u8 7] 5 1 [7] rfl rfl (by decide))⟩) (fun v23 => ?_)
          refine fl_mv 24 (by rfl) (by decide) (wanted_none (by rfl)) (by rw [hK.out]; rfl) (by rfl) _ (Or.inl (by rfl)) (.int .u64 (n : Int)) (by rfl) ?_
          refine fl_mv 25 (by rfl) (by decide) (wanted_none (by rfl)) (by rw [hK.out]; rfl) (by rfl) _ (Or.inl (by rfl)) (.int .u64 (i : Int)) (by rfl) ?_
          refine fl_op2 26 (by rfl) (by decide) (wanted_none (by rfl)) (by rw [hK.out]; rfl) (by rfl) (.tmp 25) (.const (.int .u64 5)) (.int .u64 (i : Int)) (.int .u64 5) (by rfl) (by rfl) (.int .u64 ((i : Int) % 5)) (fun ρ h1 h2 kk w1 (hg : Just (New wr w9) _ w1) hb hf => by go_simp) ?_
          refine fl_op2 27 (by rfl) (by decide) (wanted_none (by rfl)) (by rw [hK.out]; rfl) (by rfl) (.const (.string { data := #[116, 101, 120, 116] })) (.tmp 26) (.string { data := #[116, 101, 120, 116] }) (.int .u64 ((i : Int) % 5)) (by rfl) (by rfl) (.string TX) (fun ρ h1 h2 kk w1 (hg : Just (New wr w9) _ w1) hb hf => by have htx := HTX.out; have h5a : (0 : Int) ≤ (i : Int) % 5 := (by omega); have h5b : ¬ (4 : Int) < (i : Int) % 5 := (by omega); go_simp) ?_
          refine fl_mv 28 (by rfl) (by decide) (wanted_none (by rfl)) (by rw [hK.out]; rfl) (by rfl) _ (Or.inl (by rfl)) (.int .u64 (n : Int)) (by rfl) ?_
          refine fl_op1 29 (by rfl) (by decide) (wanted_none (by rfl)) (by rw [hK.out]; rfl) (by rfl) (.tmp 28) (.int .u64 (n : Int)) (by rfl) (.int .i64 (IntKind.i64.wrap (n : Int))) (fun ρ h1 kk w1 (hg : Just (New wr w9) _ w1) hb hf => by go_simp) ?_
          refine fl_call 30 (by rfl) (by decide) (wanted_none (by rfl)) (.bool true) (by rw [hK.out]; rfl) 14 _ _ (by rfl) [v23, .int .u64 (n : Int), .string TX, .int .i64 (IntKind.i64.wrap (n : Int))] (by rfl) k14 (fun kk w1 (hg : Just (New wr w9) _ w1) hb hf => calls_behind (by rfl) (by obtain rfl := before_some 0 (by rfl) hb; have hI := hb.1; exact puts_is w1 v23 [7] (show Early (IsBytes [7]) 0 v23 w1 from facts_take hf (by rw [hA'.out]; kernel_rfl)) (by decide) n hn TX hTX (IntKind.i64.wrap (n : Int)) (wrap_in2 _))) ?_
          refine fl_op1 31 (by rfl) (by decide) (wanted_none (by rfl)) (by rw [hK.out]; rfl) (by rfl) (.tmp 30) (.bool true) (by rfl) (.bool false) (fun ρ h1 kk w1 (hg : Just (New wr w9) _ w1) hb hf => by go_simp) ?_
          refine fl_mv 32 (by rfl) (by decide) (wanted_none (by rfl)) (by rw [hK.out]; rfl) (by rfl) _ (Or.inl (by rfl)) (.bool false) (by rfl) ?_
          refine fl_mv 33 (by rfl) (by decide) (wanted_if hops 9 false (by rfl) 32 (by rfl) false (by rfl)) (by rw [hK.out]; rfl) (by rfl) _ (Or.inl (by rfl)) (.int .u64 (n : Int)) (by rfl) ?_
          refine fl_op1 34 (by rfl) (by decide) (wanted_if hops 9 false (by rfl) 32 (by rfl) false (by rfl)) (by rw [hK.out]; rfl) (by rfl) (.tmp 33) (.int .u64 (n : Int)) (by rfl) (.int .u64 ((18446744073709551615 - n : Nat) : Int)) (fun ρ h1 kk w1 (hg : Just (New wr w9) _ w1) hb hf => by go_simp) ?_
          refine fl_mv 35 (by rfl) (by decide) (wanted_if hops 9 false (by rfl) 32 (by rfl) false (by rfl)) (by rw [hK.out]; rfl) (by rfl) _ (Or.inl (by rfl)) (.int .u64 (n : Int)) (by rfl) ?_
          refine fl_op1 36 (by rfl) (by decide) (wanted_if hops 9 false (by rfl) 32 (by rfl) false (by rfl)) (by rw [hK.out]; rfl) (by rfl) (.tmp 35) (.int .u64 (n : Int)) (by rfl) (.int .i64 (IntKind.i64.wrap (n : Int))) (fun ρ h1 kk w1 (hg : Just (New wr w9) _ w1) hb hf => by go_simp) ?_
          refine fl_op1 37 (by rfl) (by decide) (wanted_if hops 9 false (by rfl) 32 (by rfl) false (by rfl)) (by rw [hK.out]; rfl) (by rfl) (.tmp 36) (.int .i64 (IntKind.i64.wrap (n : Int))) (by rfl) (.int .i64 (IntKind.i64.wrap (-IntKind.i64.wrap (n : Int)))) (fun ρ h1 kk w1 (hg : Just (New wr w9) _ w1) hb hf => by go_simp) ?_
          refine fl_call 38 (by rfl) (by decide) (wanted_if hops 9 false (by rfl) 32 (by rfl) false (by rfl)) (.bool true) (by rw [hK.out]; rfl) 14 _ _ (by rfl) [.slice none 0 0, .int .u64 ((18446744073709551615 - n : Nat) : Int), .string { data := #[] }, .int .i64 (IntKind.i64.wrap (-IntKind.i64.wrap (n : Int)))] (by rfl) k14 (fun kk w1 (hg : Just (New wr w9) _ w1) hb hf => calls_behind (by rfl) (by exact puts_any w1 none 0 0 [] Reads.nil (by omega) (18446744073709551615 - n) (by omega) ⟨#[]⟩ (by decide) (IntKind.i64.wrap (-IntKind.i64.wrap (n : Int))) (wrap_in2 _))) ?_
          refine fl_op1 39 (by rfl) (by decide) (wanted_if hops 9 false (by rfl) 32 (by rfl) false (by rfl)) (by rw [hK.out]; rfl) (by rfl) (.tmp 38) (.bool true) (by rfl) (.bool false) (fun ρ h1 kk w1 (hg : Just (New wr w9) _ w1) hb hf => by go_simp) ?_
          refine fl_pick 40 (by rfl) (by decide) (wanted_none (by rfl)) (by rw [hK.out]; rfl) (by rfl) _ _ _ (by rfl) false (by rfl) (.bool false) (by rfl) ?_
          refine fl_mv 41 (by rfl) (by decide) (wanted_none (by rfl)) (by rw [hK.out]; rfl) (by rfl) _ (Or.inl (by rfl)) (.bool false) (by rfl) ?_
          refine fl_mv 42 (by rfl) (by decide) (wanted_if hops 18 false (by rfl) 41 (by rfl) false (by rfl)) (by rw [hK.out]; rfl) (by rfl) _ (Or.inl (by rfl)) (.slice (some ⟨g, 0, none⟩) (M + 1) c4) (by rfl) ?_
          refine fl_call 43 (by rfl) (by decide) (wanted_if hops 18 false (by rfl) 41 (by rfl) false (by rfl)) (.bool true) (by rw [hK.out]; rfl) 15 _ _ (by rfl) [.slice (some ⟨g, 0, none⟩) (M + 1) c4] (by rfl) k15 (fun kk w1 (hg : Just (New wr w9) _ w1) hb hf => calls_behind (by rfl) (by exact reads_own w1 hb.1 (Nat.le_refl (M + 1)))) ?_
          refine fl_op1 44 (by rfl) (by decide) (wanted_if hops 18 false (by rfl) 41 (by rfl) false (by rfl)) (by rw [hK.out]; rfl) (by rfl) (.tmp 43) (.bool true) (by rfl) (.bool false) (fun ρ h1 kk w1 (hg : Just (New wr w9) _ w1) hb hf => by go_simp) ?_
          refine fl_pick 45 (by rfl) (by decide) (wanted_none (by rfl)) (by rw [hK.out]; rfl) (by rfl) _ _ _ (by rfl) false (by rfl) (.bool false) (by rfl) ?_
          refine fl_mv 46 (by rfl) (by decide) (wanted_none (by rfl)) (by rw [hK.out]; rfl) (by rfl) _ (Or.inl (by rfl)) (.bool false) (by rfl) ?_
          refine fl_mv 47 (by rfl) (by decide) (wanted_if hops 23 false (by rfl) 46 (by rfl) false (by rfl)) (by rw [hK.out]; rfl) (by rfl) _ (Or.inl (by rfl)) (.slice (some ⟨g, 0, none⟩) (M + 1) c4) (by rfl) ?_
          refine fl_any1 48 (by rfl) (by decide) (wanted_if hops 23 false (by rfl) 46 (by rfl) false (by rfl)) (Early (IsBytes [0])) (by rw [hK.out]; rfl) (.const (.int .u8 0)) (.int .u8 0) (by rfl) (fun ρ h1 kk w1 (hg : Just (New wr w9) _ w1) hb hf => by refine upon_behindAny (by rfl) ?_; exact flowUpon_value (w := w1.alloc (.cells #[.int .u8 0] 5)) (by go_simp) ⟨(Below.refl w1.heap.size w1).alloc (Nat.le_refl _) _, early_of (lit_is w1 #[.int .u8 0] 5 1 [0] rfl rfl (by decide))⟩) (fun v48 => ?_)
          refine fl_any2 49 (by rfl) (by decide) (wanted_if hops 23 false (by rfl) 46 (by rfl) false (by rfl)) (Once (IsBytes (X ++ [0]))) (by rw [hK.out]; rfl) (.tmp 47) (.tmp 48) (.slice (some ⟨g, 0, none⟩) (M + 1) c4) (v48) (by rfl) (by rfl) (fun ρ h1 h2 kk w1 (hg : Just (New wr w9) _ w1) hb hf => by obtain rfl := before_some 0 (by rfl) hb; have hI := hb.1; refine upon_turnAny 0 (by rfl) ?_; exact app_zero ρ w1 v48 X hI (show Early (IsBytes [0]) 0 v48 w1 from facts_take hf (by rw [hA'.out]; kernel_rfl)) hLs _ _ _ _ h1 h2) (fun v49 => ?_)
          refine fl_call 50 (by rfl) (by decide) (wanted_if hops 23 false (by rfl) 46 (by rfl) false (by rfl)) (.bool true) (by rw [hK.out]; rfl) 15 _ _ (by rfl) [v49] (by rfl) k15 (fun kk w1 (hg : Just (New wr w9) _ w1) hb hf => calls_behind (by rfl) (by obtain rfl := before_some 1 (by rfl) hb; have hI := hb.1; exact reads_is w1 (show IsBytes (X ++ [0]) v49 w1 from (facts_take hf (by rw [hA'.out]; kernel_rfl))))) ?_
          refine fl_op1 51 (by rfl) (by decide) (wanted_if hops 23 false (by rfl) 46 (by rfl) false (by rfl)) (by rw [hK.out]; rfl) (by rfl) (.tmp 50) (.bool true) (by rfl) (.bool false) (fun ρ h1 kk w1 (hg : Just (New wr w9) _ w1) hb hf => by go_simp) ?_
          refine fl_pick 52 (by rfl) (by decide) (wanted_none (by rfl)) (by rw [hK.out]; rfl) (by rfl) _ _ _ (by rfl) false (by rfl) (.bool false) (by rfl) ?_
          refine fl_mv 53 (by rfl) (by decide) (wanted_none (by rfl)) (by rw [hK.out]; rfl) (by rfl) _ (Or.inl (by rfl)) (.bool false) (by rfl) ?_
          refine fl_mv 54 (by rfl) (by decide) (wanted_if hops 30 false (by rfl) 53 (by rfl) false (by rfl)) (by rw [hK.out]; rfl) (by rfl) _ (Or.inl (by rfl)) (.slice (some ⟨g, 0, none⟩) (M + 1) c4) (by rfl) ?_
          refine fl_mv 55 (by rfl) (by decide) (wanted_if hops 30 false (by rfl) 53 (by rfl) false (by rfl)) (by rw [hK.out]; rfl) (by rfl) _ (Or.inl (by rfl)) (.slice (some ⟨g, 0, none⟩) (M + 1) c4) (by rfl) ?_
          refine fl_op1 56 (by rfl) (by decide) (wanted_if hops 30 false (by rfl) 53 (by rfl) false (by rfl)) (by rw [hK.out]; rfl) (by rfl) (.tmp 55) (.slice (some ⟨g, 0, none⟩) (M + 1) c4) (by rfl) (.int .i64 ((M : Int) + 1)) (fun ρ h1 kk w1 (hg : Just (New wr w9) _ w1) hb hf => by go_simp) ?_
          refine fl_op2 57 (by rfl) (by decide) (wanted_if hops 30 false (by rfl) 53 (by rfl) false (by rfl)) (by rw [hK.out]; rfl) (by rfl) (.tmp 56) (.const (.int .i64 1)) (.int .i64 ((M : Int) + 1)) (.int .i64 1) (by rfl) (by rfl) (.int .i64 (M : Int)) (fun ρ h1 h2 kk w1 (hg : Just (New wr w9) _ w1) hb hf => by go_simp) ?_
          refine fl_op2 58 (by rfl) (by decide) (wanted_if hops 30 false (by rfl) 53 (by rfl) false (by rfl)) (by rw [hK.out]; rfl) (by rfl) (.tmp 54) (.tmp 57) (.slice (some ⟨g, 0, none⟩) (M + 1) c4) (.int .i64 (M : Int)) (by rfl) (by rfl) (.slice (some ⟨g, 0, none⟩) M c4) (fun ρ h1 h2 kk w1 (hg : Just (New wr w9) _ w1) hb hf => by go_simp) ?_
          refine fl_call 59 (by rfl) (by decide) (wanted_if hops 30 false (by rfl) 53 (by rfl) false (by rfl)) (.bool true) (by rw [hK.out]; rfl) 15 _ _ (by rfl) [.slice (some ⟨g, 0, none⟩) M c4] (by rfl) k15 (fun kk w1 (hg : Just (New wr w9) _ w1) hb hf => calls_behind (by rfl) (by exact reads_cut w1 hb.1 (show M ≤ M + 1 by omega))) ?_
          refine fl_op1 60 (by rfl) (by decide) (wanted_if hops 30 false (by rfl) 53 (by rfl) false (by rfl)) (by rw [hK.out]; rfl) (by rfl) (.tmp 59) (.bool true) (by rfl) (.bool false) (fun ρ h1 kk w1 (hg : Just (New wr w9) _ w1) hb hf => by go_simp) ?_
          refine fl_pick 61 (by rfl) (by decide) (wanted_none (by rfl)) (by rw [hK.out]; rfl) (by rfl) _ _ _ (by rfl) false (by rfl) (.bool false) (by rfl) ?_
          refine fl_mv 62 (by rfl) (by decide) (wanted_none (by rfl)) (by rw [hK.out]; rfl) (by rfl) _ (Or.inl (by rfl)) (.bool false) (by rfl) ?_
          refine fl_mv 63 (by rfl) (by decide) (wanted_if hops 39 false (by rfl) 62 (by rfl) false (by rfl)) (by rw [hK.out]; rfl) (by rfl) _ (Or.inl (by rfl)) (.slice (some ⟨g, 0, none⟩) (M + 1) c4) (by rfl) ?_
          refine fl_mv 64 (by rfl) (by decide) (wanted_if hops 39 false (by rfl) 62 (by rfl) false (by rfl)) (by rw [hK.out]; rfl) (by rfl) _ (Or.inl (by rfl)) (.slice (some ⟨g, 0, none⟩) (M + 1) c4) (by rfl) ?_
          refine fl_op1 65 (by rfl) (by decide) (wanted_if hops 39 false (by rfl) 62 (by rfl) false (by rfl)) (by rw [hK.out]; rfl) (by rfl) (.tmp 64) (.slice (some ⟨g, 0, none⟩) (M + 1) c4) (by rfl) (.int .i64 ((M : Int) + 1)) (fun ρ h1 kk w1 (hg : Just (New wr w9) _ w1) hb hf => by go_simp) ?_
          refine fl_op2 66 (by rfl) (by decide) (wanted_if hops 39 false (by rfl) 62 (by rfl) false (by rfl)) (by rw [hK.out]; rfl) (by rfl) (.tmp 65) (.const (.int .i64 1)) (.int .i64 ((M : Int) + 1)) (.int .i64 1) (by rfl) (by rfl) (.int .i64 (M : Int)) (fun ρ h1 h2 kk w1 (hg : Just (New wr w9) _ w1) hb hf => by go_simp) ?_
          refine fl_mv 67 (by rfl) (by decide) (wanted_if hops 39 false (by rfl) 62 (by rfl) false (by rfl)) (by rw [hK.out]; rfl) (by rfl) _ (Or.inl (by rfl)) (.slice (some ⟨g, 0, none⟩) (M + 1) c4) (by rfl) ?_
          refine fl_op1 68 (by rfl) (by decide) (wanted_if hops 39 false (by rfl) 62 (by rfl) false (by rfl)) (by rw [hK.out]; rfl) (by rfl) (.tmp 67) (.slice (some ⟨g, 0, none⟩) (M + 1) c4) (by rfl) (.int .i64 ((M : Int) + 1)) (fun ρ h1 kk w1 (hg : Just (New wr w9) _ w1) hb hf => by go_simp) ?_
          refine fl_op2 69 (by rfl) (by decide) (wanted_if hops 39 false (by rfl) 62 (by rfl) false (by rfl)) (by rw [hK.out]; rfl) (by rfl) (.tmp 68) (.const (.int .i64 1)) (.int .i64 ((M : Int) + 1)) (.int .i64 1) (by rfl) (by rfl) (.int .i64 (M : Int)) (fun ρ h1 h2 kk w1 (hg : Just (New wr w9) _ w1) hb hf => by go_simp) ?_
          refine fl_op3 70 (by rfl) (by decide) (wanted_if hops 39 false (by rfl) 62 (by rfl) false (by rfl)) (by rw [hK.out]; rfl) (by rfl) (.tmp 63) (.tmp 66) (.tmp 69) (.slice (some ⟨g, 0, none⟩) (M + 1) c4) (.int .i64 (M : Int)) (.int .i64 (M : Int)) (by rfl) (by rfl) (by rfl) (.slice (some ⟨g, 0, none⟩) M M) (fun ρ h1 h2 h3 kk w1 (hg : Just (New wr w9) _ w1) hb hf => by go_simp) ?_
          refine fl_mv 71 (by rfl) (by decide) (wanted_if hops 39 false (by rfl) 62 (by rfl) false (by rfl)) (by rw [hK.out]; rfl) (by rfl) _ (Or.inl (by rfl)) (.slice (some ⟨g, 0, none⟩) (M + 1) c4) (by rfl) ?_
          refine fl_mv 72 (by rfl) (by decide) (wanted_if hops 39 false (by rfl) 62 (by rfl) false (by rfl)) (by rw [hK.out]; rfl) (by rfl) _ (Or.inl (by rfl)) (.slice (some ⟨g, 0, none⟩) (M + 1) c4) (by rfl) ?_
          refine fl_op1 73 (by rfl) (by decide) (wanted_if hops 39 false (by rfl) 62 (by rfl) false (by rfl)) (by rw [hK.out]; rfl) (by rfl) (.tmp 72) (.slice (some ⟨g, 0, none⟩) (M + 1) c4) (by rfl) (.int .i64 ((M : Int) + 1)) (fun ρ h1 kk w1 (hg : Just (New wr w9) _ w1) hb hf => by go_simp) ?_
          refine fl_op2 74 (by rfl) (by decide) (wanted_if hops 39 false (by rfl) 62 (by rfl) false (by rfl)) (by rw [hK.out]; rfl) (by rfl) (.tmp 73) (.const (.int .i64 1)) (.int .i64 ((M : Int) + 1)) (.int .i64 1) (by rfl) (by rfl) (.int .i64 (M : Int)) (fun ρ h1 h2 kk w1 (hg : Just (New wr w9) _ w1) hb hf => by go_simp) ?_
          refine fl_op2 75 (by rfl) (by decide) (wanted_if hops 39 false (by rfl) 62 (by rfl) false (by rfl)) (by rw [hK.out]; rfl) (by rfl) (.tmp 71) (.tmp 74) (.slice (some ⟨g, 0, none⟩) (M + 1) c4) (.int .i64 (M : Int)) (by rfl) (by rfl) (.pointer (some ⟨g, M, none⟩)) (fun ρ h1 h2 kk w1 (hg : Just (New wr w9) _ w1) hb hf => by go_simp) ?_
          refine fl_op1 76 (by rfl) (by decide) (wanted_if hops 39 false (by rfl) 62 (by rfl) false (by rfl)) (by rw [hK.out]; rfl) (by rfl) (.tmp 75) (.pointer (some ⟨g, M, none⟩)) (by rfl) (.int .u8 (x : Int)) (fun ρ h1 kk w1 (hg : Just (New wr w9) _ w1) hb hf => by have cc := hcell2 w1 hb.1; go_simp) ?_
          refine fl_op2 77 (by rfl) (by decide) (wanted_if hops 39 false (by rfl) 62 (by rfl) false (by rfl)) (by rw [hK.out]; rfl) (by rfl) (.tmp 76) (.const (.int .u8 128)) (.int .u8 (x : Int)) (.int .u8 128) (by rfl) (by rfl) (.int .u8 ((x % 128 + 128 : Nat) : Int)) (fun ρ h1 h2 kk w1 (hg : Just (New wr w9) _ w1) hb hf => by have eo := or128_small x hx; go_simp) ?_
          refine fl_any2 78 (by rfl) (by decide) (wanted_if hops 39 false (by rfl) 62 (by rfl) false (by rfl)) (Once (IsBytes [UInt8.ofNat (x % 128 + 128), 0])) (by rw [hK.out]; rfl) (.tmp 77) (.const (.int .u8 0)) (.int .u8 ((x % 128 + 128 : Nat) : Int)) (.int .u8 0) (by rfl) (by rfl) (fun ρ h1 h2 kk w1 (hg : Just (New wr w9) _ w1) hb hf => by obtain rfl := before_some 1 (by rfl) hb; have hI := hb.1; refine upon_behindAny (by rfl) ?_; exact flowUpon_value (w := w1.alloc (.cells #[.int .u8 ((x % 128 + 128 : Nat) : Int), .int .u8 0] 5)) (by go_simp) ⟨(Below.refl w1.heap.size w1).alloc (Nat.le_refl _) _, lit_is w1 #[.int .u8 ((x % 128 + 128 : Nat) : Int), .int .u8 0] 5 2 _ rfl (two_cells x) (by decide)⟩) (fun v78 => ?_)
          refine fl_any2 79 (by rfl) (by decide) (wanted_if hops 39 false (by rfl) 62 (by rfl) false (by rfl)) (Once (IsBytes (X.take M ++ [UInt8.ofNat (x % 128 + 128), 0]))) (by rw [hK.out]; rfl) (.tmp 70) (.tmp 78) (.slice (some ⟨g, 0, none⟩) M M) (v78) (by rfl) (by rfl) (fun ρ h1 h2 kk w1 (hg : Just (New wr w9) _ w1) hb hf => by obtain rfl := before_some 1 (by rfl) hb; have hI := hb.1; refine upon_behindAny (by rfl) ?_; exact app_cut ρ w1 v78 X hb.1 (show IsBytes _ v78 w1 from facts_take hf (by rw [hA'.out]; kernel_rfl)) hLs hL1 _ _ _ _ h1 h2) (fun v79 => ?_)
          refine fl_call 80 (by rfl) (by decide) (wanted_if hops 39 false (by rfl) 62 (by rfl) false (by rfl)) (.bool true) (by rw [hK.out]; rfl) 15 _ _ (by rfl) [v79] (by rfl) k15 (fun kk w1 (hg : Just (New wr w9) _ w1) hb hf => calls_behind (by rfl) (by obtain rfl := before_some 1 (by rfl) hb; have hI := hb.1; exact reads_is w1 (show IsBytes (X.take M ++ [UInt8.ofNat (x % 128 + 128), 0]) v79 w1 from facts_take hf (by rw [hA'.out]; kernel_rfl)))) ?_
          refine fl_op1 81 (by rfl) (by decide) (wanted_if hops 39 false (by rfl) 62 (by rfl) false (by rfl)) (by rw [hK.out]; rfl) (by rfl) (.tmp 80) (.bool true) (by rfl) (.bool false) (fun ρ h1 kk w1 (hg : Just (New wr w9) _ w1) hb hf => by go_simp) ?_
          refine fl_pick 82 (by rfl) (by decide) (wanted_none (by rfl)) (by rw [hK.out]; rfl) (by rfl) _ _ _ (by rfl) false (by rfl) (.bool false) (by rfl) ?_
          refine fl_end (fun _ _ w1 (hg : Just (New wr w9) _ w1) hend hfacts => hT _ _ ?_)
          clear hops hA' hK hT
          simp only [putsL, Act.put, List.setIfInBounds_toArray, List.set_cons_zero, List.set_cons_succ]
          refine reg_end ?_
          have hgo : Grow w w1 := by
            have h1 := hg1.trans hg9
            exact Below.trans h1 (hg.below (B := w.heap.size) (fun b hb => Nat.le_trans hg1.size hb.1) h1.size)
          clear hend hfacts hcell hcell2 hO9
          go_wp2_with fail
          go_roundw
          case rel => first | exact ⟨d + 1, by omega, by go_num, hgo⟩ | exact ⟨d + 1, by omega, by go_num⟩ | exact ⟨d + 1, by omega, by omega⟩
          case measure => simp [intOf]; omega
        · go_wp2_with fail
          go_roundw
          case rel => exact ⟨i + 1, by omega, by go_num, hg1⟩
          case measure => simp [intOf]; omega
    · go_wp2_with fail
      try rw [show decide ((i : Int) < 64) = false from decide_eq_false (by omega)]
      go_loopw [5] (fun kv wr => ∃ k : Nat, k ≤ 13 ∧ kv = .int .i64 k ∧ Grow w wr) (fun kv _ => 13 - (intOf kv).toNat)
      case atStart => exact ⟨0, by omega, rfl, hg0⟩
      case round =>
        obtain ⟨k, hk13, rfl, hgk⟩ := hrel
        by_cases hk : k < 13
        · go_wp2_with fail
          try rw [show decide ((k : Int) < 13) = true from decide_eq_true (by omega)]
          go_loopw [6, 7] (fun bv jv wx => ∃ j : Nat, j ≤ k ∧ jv = .int .i64 j ∧ Own wx (New w wx) 5 1 bv j (u8s (List.replicate j 255)) ∧ Grow w wx) (fun _ jv _ => k - (intOf jv).toNat)
          case atStart => exact ⟨0, by omega, rfl, Own.nil, hgk⟩
          case round =>
            obtain ⟨j, hjk, rfl, hO, hgj⟩ := hrel
            obtain ⟨A1, c1, rfl, hR1, hn1, hm1⟩ := hO.reads
            by_cases hj : j < k
            · go_wp2_with (at_builtin; refine stay ?_)
              refine stay_out ?_
              refine wpList_own (V := New w wr) u8E _ rfl (.tmp 92) (.tmp 93) rfl (.slice A1 j c1) j (u8s (List.replicate j 255)) rfl (own_alloc hO _) _ (some ⟨_, 0, none⟩) 1 1 (u8s [255]) rfl (reads_laid wr #[.int .u8 255] 5 (0, 0) (n := 1) (size := 1) rfl _ rfl) u8s_one (by omega) ?_
              intro v3 w3 hO3 hj3
              rw [← u8s_append, show List.replicate j (255 : UInt8) ++ [255] = List.replicate (j + 1) 255 by rw [List.replicate_succ']] at hO3
              obtain ⟨hO3, hg3⟩ := own_more1 hgj hO3 hj3
              clear hj3 hO hR1
              go_wp2_with fail
              go_roundw
              case rel => first | exact ⟨j + 1, by omega, by go_num, hO3, hg3⟩ | exact ⟨j + 1, by omega, by omega, hO3, hg3⟩ | exact ⟨j + 1, by omega, by omega, hO3⟩
              case measure => simp [intOf]; omega
            · have hB : Bytes wr wr.heap.size A1 j (List.replicate j 255) := hR1
              obtain ⟨wb, hwb⟩ : ∃ wb : World, wb = wr := ⟨_, rfl⟩
              go_wp2_with fail
              go_at_call 15
              refine (reads_any wr A1 j c1 _ hB hn1 hm1).mono ?_
              rintro e wg1 ⟨rfl, hgr0⟩
              have hOb1 : Own wg1 (New w wb) 5 1 (.slice A1 j c1) j (u8s (List.replicate j 255)) := by rw [hwb]; exact hO.grows hgr0
              have hgg1 := hgj.trans hgr0
              clear hO hR1 hB hgr0 hgj
              go_wp2_with (at_builtin; refine stay ?_)
              refine stay_out ?_
              refine wpList_own2 (V := New w wb) u8E _ rfl (.tmp 99) (.tmp 100) rfl (.slice A1 j c1) j (u8s (List.replicate j 255)) rfl (hOb1.grows ((Below.refl _ _).alloc (Nat.le_refl _) _)) _ (some ⟨_, 0, none⟩) 1 1 (u8s [1]) rfl (reads_laid wg1 #[.int .u8 1] 5 (0, 0) (n := 1) (size := 1) rfl _ rfl) u8s_one (by omega) ?_
              intro va1 wa1 hOa1 hja1 hOc1
              have hga1 : Grow w wa1 := Below.trans hgg1 (Below.trans ((Below.refl wg1.heap.size wg1).alloc (Nat.le_refl _) _ |>.mono hgg1.size) (hja1.below (B := w.heap.size) (fun b hb => hb.1) (by have := hgg1.size; simp; omega)))
              rw [← u8s_append] at hOa1
              have hia1 := Own.isBytes hOa1
              go_wp2_with fail
              go_at_call 15
              refine (reads_is wa1 hia1).mono ?_
              rintro e wg2 ⟨rfl, hgr1⟩
              have hOb2 := hOc1.grows hgr1
              have hgg2 := hga1.trans hgr1
              clear hOa1 hja1 hOc1 hga1 hia1 hgr1 hOb1 hgg1
              go_wp2_with (at_builtin; refine stay ?_)
              refine stay_out ?_
              refine wpList_own2 (V := New w wb) u8E _ rfl (.tmp 106) (.tmp 107) rfl (.slice A1 j c1) j (u8s (List.replicate j 255)) rfl (hOb2.grows ((Below.refl _ _).alloc (Nat.le_refl _) _)) _ (some ⟨_, 0, none⟩) 1 1 (u8s [2]) rfl (reads_laid wg2 #[.int .u8 2] 5 (0, 0) (n := 1) (size := 1) rfl _ rfl) u8s_one (by omega) ?_
              intro va2 wa2 hOa2 hja2 hOc2
              have hga2 : Grow w wa2 := Below.trans hgg2 (Below.trans ((Below.refl wg2.heap.size wg2).alloc (Nat.le_refl _) _ |>.mono hgg2.size) (hja2.below (B := w.heap.size) (fun b hb => hb.1) (by have := hgg2.size; simp; omega)))
              rw [← u8s_append] at hOa2
              have hia2 := Own.isBytes hOa2
              go_wp2_with fail
              go_at_call 15
              refine (reads_is wa2 hia2).mono ?_
              rintro e wg3 ⟨rfl, hgr2⟩
              have hOb3 := hOc2.grows hgr2
              have hgg3 := hga2.trans hgr2
              clear hOa2 hja2 hOc2 hga2 hia2 hgr2 hOb2 hgg2
              go_wp2_with (at_builtin; refine stay ?_)
              refine stay_out ?_
              refine wpList_own2 (V := New w wb) u8E _ rfl (.tmp 113) (.tmp 114) rfl (.slice A1 j c1) j (u8s (List.replicate j 255)) rfl (hOb3.grows ((Below.refl _ _).alloc (Nat.le_refl _) _)) _ (some ⟨_, 0, none⟩) 1 1 (u8s [127]) rfl (reads_laid wg3 #[.int .u8 127] 5 (0, 0) (n := 1) (size := 1) rfl _ rfl) u8s_one (by omega) ?_
              intro va3 wa3 hOa3 hja3 hOc3
              have hga3 : Grow w wa3 := Below.trans hgg3 (Below.trans ((Below.refl wg3.heap.size wg3).alloc (Nat.le_refl _) _ |>.mono hgg3.size) (hja3.below (B := w.heap.size) (fun b hb => hb.1) (by have := hgg3.size; simp; omega)))
              rw [← u8s_append] at hOa3
              have hia3 := Own.isBytes hOa3
              go_wp2_with fail
              go_at_call 15
              refine (reads_is wa3 hia3).mono ?_
              rintro e wg4 ⟨rfl, hgr3⟩
              have hOb4 := hOc3.grows hgr3
              have hgg4 := hga3.trans hgr3
              clear hOa3 hja3 hOc3 hga3 hia3 hgr3 hOb3 hgg3
              go_wp2_with (at_builtin; refine stay ?_)
              refine stay_out ?_
              refine wpList_own2 (V := New w wb) u8E _ rfl (.tmp 120) (.tmp 121) rfl (.slice A1 j c1) j (u8s (List.replicate j 255)) rfl (hOb4.grows ((Below.refl _ _).alloc (Nat.le_refl _) _)) _ (some ⟨_, 0, none⟩) 1 1 (u8s [0]) rfl (reads_laid wg4 #[.int .u8 0] 5 (0, 0) (n := 1) (size := 1) rfl _ rfl) u8s_one (by omega) ?_
              intro va4 wa4 hOa4 hja4 hOc4
              have hga4 : Grow w wa4 := Below.trans hgg4 (Below.trans ((Below.refl wg4.heap.size wg4).alloc (Nat.le_refl _) _ |>.mono hgg4.size) (hja4.below (B := w.heap.size) (fun b hb => hb.1) (by have := hgg4.size; simp; omega)))
              rw [← u8s_append] at hOa4
              have hia4 := Own.isBytes hOa4
              go_wp2_with fail
              go_at_call 15
              refine (reads_is wa4 hia4).mono ?_
              rintro e wg5 ⟨rfl, hgr4⟩
              have hOb5 := hOc4.grows hgr4
              have hgg5 := hga4.trans hgr4
              clear hOa4 hja4 hOc4 hga4 hia4 hgr4 hOb4 hgg4
              go_wp2_with fail
              go_roundw
              case rel => first | exact ⟨k + 1, by omega, by go_num, hgg5⟩ | exact ⟨k + 1, by omega, by omega, hgg5⟩ | exact ⟨k + 1, by omega, by omega⟩
              case measure => simp [intOf]; omega
        · have hr1 := rText_is wr none 0 0 [] Reads.nil (by omega) ⟨#[119, 104, 111, 108, 101]⟩ (by decide)
          go_wp2_with fail
          go_at_call 16
          refine hr1.mono ?_
          rintro e w2 ⟨v2, rfl, hg2, hi2⟩
          have hr2 := fun w3 => rText_is w3 none 0 0 [] Reads.nil (by omega) ⟨#[119, 104, 111, 108, 101]⟩ (by decide)
          go_wp2_with fail
          go_at_call 15
          refine (reads_is w2 hi2).mono ?_
          rintro e w3 ⟨rfl, hg3⟩
          go_wp2_with fail
          go_at_call 16
          refine (hr2 w3).mono ?_
          rintro e w4 ⟨v4, rfl, hg4, hi4⟩
          obtain ⟨A4, n4, c4, rfl, hb4, hn4, hc4⟩ := hi4
          have hl4 := hb4.len
          rw [show ByteArray.size ⟨#[119, 104, 111, 108, 101]⟩ = 5 from rfl, enc_small (by omega)] at hl4
          have hl5 : 6 = n4 := hl4
          have hb5 := Reads.take hb4 (k := 3) (by omega)
          rw [← u8s_take] at hb5
          have hb6 := reads_any w4 A4 3 c4 _ hb5 (by omega) hc4
          have hc3 : ¬ (c4 : Int) < 3 := by omega
          have hc33 : ¬ c4 < 3 := by omega
          clear hr1 hr2 hi2 hb4 hl4 hb5
          go_wp2_with fail
          go_at_call 15
          refine hb6.mono ?_
          rintro e w5 ⟨rfl, hg5⟩
          clear hb6
          go_wp2_with (go_at_call 12; refine (known_any _).mono ?_; rintro e w9 ⟨rfl, hg9⟩)
          go_ret
          exact ⟨rfl, ((((hgk.trans hg2).trans hg3).trans hg4).trans hg5).trans hg9⟩
end Go.Proofs.Ytoeffekghmmmjaa
