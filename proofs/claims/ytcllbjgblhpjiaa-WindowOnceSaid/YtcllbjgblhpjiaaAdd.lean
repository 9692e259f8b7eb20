/- What adding to a window does. -/
import Derived.Test.YtcllbjgblhpjiaaWin
import Derived.Deep.LoopGhost
namespace Go.Proofs.Ytcllbjgblhpjiaa
open Go.RowKit Go.Hop
theorem or_pow (M d : Nat) (hM : M < 18446744073709551616) (hd : d < 64) : bits .or .u64 (M : Int) (((2 ^ d : Nat) : Nat) : Int) = ((M ||| 2 ^ d : Nat) : Int) :=
  u64_or_nat M (2 ^ d) hM (Nat.lt_of_lt_of_le (Nat.pow_lt_pow_right (by omega) hd) (by decide))
theorem wrap_pow (d : Nat) (hd : d < 64) : IntKind.u64.wrap ((2 : Int) ^ d) = ((2 ^ d : Nat) : Int) := by
  have h : ((2 : Int) ^ d) = ((2 ^ d : Nat) : Int) := by push_cast; rfl
  have h2 : 2 ^ d < 2 ^ 64 := Nat.pow_lt_pow_right (by omega) hd
  rw [wrap_u64, h]
  clear h
  generalize 2 ^ d = p at h2 ⊢
  omega
theorem odd_is (x : Nat) (hx : x < 18446744073709551616) (h : x % 2 = 1) : (bits .and .u64 (x : Int) 1 == 1) = true := by rw [and_one x hx, h]; rfl
theorem even_is (x : Nat) (hx : x < 18446744073709551616) (h : ¬ x % 2 = 1) : (bits .and .u64 (x : Int) 1 == 1) = false := by
  rw [and_one x hx, show x % 2 = 0 by omega]; rfl
theorem top_step {F : Int} {M : Nat} (h : ∀ i, M.testBit i = true → F + 1 + (i : Int) ≤ 9223372036854775807) : ∀ i, (M / 2).testBit i = true → F + 1 + 1 + (i : Int) ≤ 9223372036854775807 := fun i hi => by
  have := h (i + 1) (by rw [Nat.testBit_succ]; exact hi)
  omega
set_option maxHeartbeats 1000000 in
theorem add_new (w : World) (g : Nat) (F : Int) (M : Nat) (n : Int) (d : Nat) (h : Blk w g 36 #[.int .i64 F, .int .u64 (M : Int)]) (hI : WInv F M) (hn : n ≤ 9223372036854775807) (hd : n - F - 1 = (d : Int)) (hlt : d < 64) (hb : M.testBit d = false) :
    Calls Try.prog 9 #[.pointer (some ⟨g, 0, none⟩), .int .i64 n] w fun e w' => e = .returned (.bool true) ∧ Blk w' g 36 #[.int .i64 (put F M n).1, .int .u64 ((put F M n).2 : Int)] ∧ Only g w w' := by
  have k17 : ∀ (vs : Array Value) (w : World), (callFunc 17 vs).run Try.prog w = .ok (.enter 17 vs) w := fun vs w => by go_simp
  have hF : -9223372036854775808 ≤ F ∧ F ≤ 9223372036854775807 := ⟨by have := hI.lo; omega, hI.hi⟩
  have hn' : -9223372036854775808 ≤ n ∧ n ≤ 9223372036854775807 := ⟨by have := hI.lo; omega, hn⟩
  have hnf : far F n = false := by
    unfold far
    rw [Bool.and_eq_false_iff]
    exact .inr (decide_eq_false (by omega))
  have c1 := Lib.hid (far_is w g F M n false h hF hn' hnf)
  have c2 := Lib.hid (seen_in w g F M n d h hI.mask hF hn' hd hlt)
  have HD := Lib.hid hd
  have hM := hI.mask
  clear hnf hd
  rw [hb] at c2
  obtain ⟨x, HX⟩ : ∃ x : Nat, Hid (x = 2 ^ d) := ⟨_, rfl⟩
  obtain ⟨y, HY⟩ : ∃ y : Nat, Hid (y = M ||| x) := ⟨_, rfl⟩
  have hy64 : y < 2 ^ 64 := by
    rw [HY.out, HX.out]
    exact Nat.or_lt_two_pow hM (Nat.pow_lt_pow_right (by omega) hlt)
  have htopy0 : ∀ i, y.testBit i = true → F + 1 + (i : Int) ≤ 9223372036854775807 := by
    intro i hi
    rw [HY.out, Nat.testBit_or, Bool.or_eq_true] at hi
    rcases hi with hi | hi
    · exact hI.top i hi
    · rw [HX.out, Nat.testBit_two_pow] at hi
      have : d = i := by simpa using hi
      have := HD.out
      omega
  have htopy := Lib.hid htopy0
  clear htopy0
  go_enter Try.func9, Try.ntmps9
  go_wp2_with (first
    | (go_at_call 16; refine (c1.out).mono ?_; rintro e w1 ⟨rfl, rfl⟩)
    | (go_at_call 10; refine (c2.out).mono ?_; rintro e w1 ⟨rfl, hg0⟩; have hB1 := h.grow hg0))
  refine wp_region_flow 11 44 [(6, .inl (.int .u64 (d : Int)))] rfl rfl (by kernel_rfl) (by kernel_rfl) (by kernel_rfl) ?_ ?_
  · intro x hx φ he
    simp only [List.mem_cons, List.not_mem_nil, or_false] at hx
    rcases hx with rfl <;> cases he
  intro ops' A' K' T hops hA' hK hT
  refine fl_mv 13 (by rfl) (by decide) (wanted_none (by rfl)) (by rw [hK.out]; rfl) (by rfl) _ (Or.inl (by rfl)) (.pointer (some ⟨g, 0, none⟩)) (by rfl) ?_
  refine fl_op1 14 (by rfl) (by decide) (wanted_none (by rfl)) (by rw [hK.out]; rfl) (by rfl) (.tmp 13) (.pointer (some ⟨g, 0, none⟩)) (by rfl) (.pointer (some ⟨g, 0, none⟩)) (fun ρ h1 kk w1 (hg : Grow _ w1) hb hf => by go_simp) ?_
  refine fl_op1 15 (by rfl) (by decide) (wanted_none (by rfl)) (by rw [hK.out]; rfl) (by rfl) (.tmp 14) (.pointer (some ⟨g, 0, none⟩)) (by rfl) (.pointer (some ⟨g, 1, none⟩)) (fun ρ h1 kk w1 (hg : Grow _ w1) hb hf => by go_simp) ?_
  refine fl_op1 16 (by rfl) (by decide) (wanted_none (by rfl)) (by rw [hK.out]; rfl) (by rfl) (.tmp 15) (.pointer (some ⟨g, 1, none⟩)) (by rfl) (.int .u64 (M : Int)) (fun ρ h1 kk w1 (hg : Grow _ w1) hb hf => by have c := (hB1.grow hg).cell 1; go_simp) ?_
  refine fl_mv 17 (by rfl) (by decide) (wanted_none (by rfl)) (by rw [hK.out]; rfl) (by rfl) _ (Or.inl (by rfl)) (.pointer (some ⟨g, 0, none⟩)) (by rfl) ?_
  refine fl_mv 18 (by rfl) (by decide) (wanted_none (by rfl)) (by rw [hK.out]; rfl) (by rfl) _ (Or.inl (by rfl)) (.int .i64 n) (by rfl) ?_
  refine fl_call 19 (by rfl) (by decide) (wanted_none (by rfl)) (.int .u64 (d : Int)) (by rw [hK.out]; rfl) 17 _ _ (by rfl) [.pointer (some ⟨g, 0, none⟩), .int .i64 n] (by rfl) k17 (fun kk w1 (hg : Grow _ w1) hb hf => calls_behind (by rfl) (by exact grew_same (at_in _ g F M n d (hB1.grow hg) HD.out hlt))) ?_
  refine fl_op2 20 (by rfl) (by decide) (wanted_none (by rfl)) (by rw [hK.out]; rfl) (by rfl) (.const (.int .u64 1)) (.tmp 19) (.int .u64 1) (.int .u64 (d : Int)) (by rfl) (by rfl) (.int .u64 (x : Int)) (fun ρ h1 h2 kk w1 (hg : Grow _ w1) hb hf => by go_simp; rw [HX.out]; exact wrap_pow d hlt) ?_
  refine fl_op2 21 (by rfl) (by decide) (wanted_none (by rfl)) (by rw [hK.out]; rfl) (by rfl) (.tmp 16) (.tmp 20) (.int .u64 (M : Int)) (.int .u64 (x : Int)) (by rfl) (by rfl) (.int .u64 (y : Int)) (fun ρ h1 h2 kk w1 (hg : Grow _ w1) hb hf => by go_simp; rw [HY.out, HX.out]; exact or_pow M d hM hlt) ?_
  refine fl_op1 22 (by rfl) (by decide) (wanted_none (by rfl)) (by rw [hK.out]; rfl) (by rfl) (.tmp 13) (.pointer (some ⟨g, 0, none⟩)) (by rfl) (.pointer (some ⟨g, 0, none⟩)) (fun ρ h1 kk w1 (hg : Grow _ w1) hb hf => by go_simp) ?_
  refine fl_op1 23 (by rfl) (by decide) (wanted_none (by rfl)) (by rw [hK.out]; rfl) (by rfl) (.tmp 22) (.pointer (some ⟨g, 0, none⟩)) (by rfl) (.pointer (some ⟨g, 1, none⟩)) (fun ρ h1 kk w1 (hg : Grow _ w1) hb hf => by go_simp) ?_
  refine fl_end (fun _ _ w1 (hg : Grow _ w1) _ hfacts => hT _ _ ?_)
  clear hops hA' hK hT
  simp only [putsL, Act.put, List.setIfInBounds_toArray, List.set_cons_zero, List.set_cons_succ, List.drop_succ_cons, List.drop_zero]

  have hB2 := hB1.grow hg
  have cc := hB2.cell 1
  have cf := hB2.frozen 1
  have ho2 : Only g w _ := (Only.of_grow (hg0.trans hg)).put 1 (.int .u64 (y : Int))
  have hB3 := hB2.put 1 (.int .u64 (y : Int))
  go_wp2_with fail
  go_loopg [] 64 (fun k wr => ∃ (F' : Int) (M' : Nat), k ≤ 64 ∧ M' < 2 ^ k ∧ strip 64 F y = strip k F' M' ∧ 0 ≤ F' ∧ (∀ i, M'.testBit i = true → F' + 1 + (i : Int) ≤ 9223372036854775807) ∧ Blk wr g 36 #[.int .i64 F', .int .u64 (M' : Int)] ∧ Only g w wr)
  case atStart => exact ⟨F, y, by omega, hy64, rfl, hI.lo, htopy.out, hB3, ho2⟩
  case round =>
    obtain ⟨F', M', hk, hM', hs, h0, htop, hB, hO⟩ := hrel
    have HS := Lib.hid hs
    have HT := Lib.hid htop
    clear hs htop
    have b0 := hB.cell 0
    have b1 := hB.cell 1
    have f0 := hB.frozen 0
    have f1 := hB.frozen 1
    have hm64 : M' < 18446744073709551616 := Nat.lt_of_lt_of_le hM' (Nat.pow_le_pow_right (by omega) hk)
    by_cases hodd : M' % 2 = 1
    · have ho := odd_is M' hm64 hodd
      have hf0 : F' + 1 ≤ 9223372036854775807 := by
        have := HT.out 0 (by rw [Nat.testBit_zero]; simpa using hodd)
        omega
      have hgk : 0 < gk := by
        rcases Nat.eq_zero_or_pos gk with e | e
        · rw [e] at hM'; simp at hM'; omega
        · exact e
      have HO := Lib.hid hodd
      clear hodd
      go_wp2_with fail
      go_roundg (gk - 1)
      case measure => omega
      case rel =>
        have hpow : 2 ^ gk = 2 * 2 ^ (gk - 1) := by rw [← Nat.pow_succ']; congr 1; omega
        refine ⟨F' + 1, M' / 2, by omega, by omega, ?_, by omega, top_step HT.out, ?_, (hO.put 0 _).put 1 _⟩
        · rw [HS.out, show gk = (gk - 1) + 1 by omega]
          show (if M' % 2 = 1 then strip (gk - 1) (F' + 1) (M' / 2) else (F', M')) = _
          rw [if_pos HO.out]; rfl
        · have := (hB.put 0 (.int .i64 (F' + 1))).put 1 (.int .u64 ((M' : Int) / 2))
          simpa using this
    · have ho := even_is M' hm64 hodd
      have hfin : strip gk F' M' = (F', M') := by
        cases gk with
        | zero => rfl
        | succ k => show (if M' % 2 = 1 then _ else _) = _; rw [if_neg hodd]
      have HFIN := Lib.hid hfin
      clear hfin hodd
      go_wp2_with fail
      go_ret
      have hput : put F M n = (F', M') := by
        unfold put
        rw [HD.out, Int.toNat_natCast, ← HX.out, ← HY.out, HS.out, HFIN.out]
      rw [hput]
      exact ⟨rfl, hB, hO⟩

set_option maxHeartbeats 400000 in
theorem add_far (w : World) (g : Nat) (F : Int) (M : Nat) (n : Int) (h : Blk w g 36 #[.int .i64 F, .int .u64 (M : Int)]) (hF : -9223372036854775808 ≤ F ∧ F ≤ 9223372036854775807) (hn : -9223372036854775808 ≤ n ∧ n ≤ 9223372036854775807) (hf : far F n = true) :
    Calls Try.prog 9 #[.pointer (some ⟨g, 0, none⟩), .int .i64 n] w fun e w' => e = .returned (.bool false) ∧ Grow w w' := by
  have c1 := Lib.hid (far_is w g F M n true h hF hn hf)
  clear hf
  go_enter Try.func9, Try.ntmps9
  go_wp2_with (go_at_call 16; refine (c1.out).mono ?_; rintro e w1 ⟨rfl, rfl⟩)
  go_ret
  exact ⟨rfl, Grow.refl _⟩
set_option maxHeartbeats 400000 in
theorem add_seen (w : World) (g : Nat) (F : Int) (M : Nat) (n : Int) (h : Blk w g 36 #[.int .i64 F, .int .u64 (M : Int)]) (hF : -9223372036854775808 ≤ F ∧ F ≤ 9223372036854775807) (hn : -9223372036854775808 ≤ n ∧ n ≤ 9223372036854775807) (hf : far F n = false)
    (hs : ∀ w, Blk w g 36 #[.int .i64 F, .int .u64 (M : Int)] → Calls Try.prog 10 #[.pointer (some ⟨g, 0, none⟩), .int .i64 n] w fun e w' => e = .returned (.bool true) ∧ Grow w w') :
    Calls Try.prog 9 #[.pointer (some ⟨g, 0, none⟩), .int .i64 n] w fun e w' => e = .returned (.bool false) ∧ Grow w w' := by
  have c1 := Lib.hid (far_is w g F M n false h hF hn hf)
  have c2 := Lib.hid (hs w h)
  clear hf hs
  go_enter Try.func9, Try.ntmps9
  go_wp2_with (first
    | (go_at_call 16; refine (c1.out).mono ?_; rintro e w1 ⟨rfl, rfl⟩)
    | (go_at_call 10; refine (c2.out).mono ?_; rintro e w1 ⟨rfl, hg0⟩))
  go_ret
  exact ⟨rfl, hg0⟩

theorem seen_any (w : World) (g : Nat) (F : Int) (M : Nat) (n : Int) (h : Blk w g 36 #[.int .i64 F, .int .u64 (M : Int)]) (hI : WInv F M) (hn : -9223372036854775808 ≤ n ∧ n ≤ 9223372036854775807) :
    Calls Try.prog 10 #[.pointer (some ⟨g, 0, none⟩), .int .i64 n] w fun e w' => e = .returned (.bool (seen F M n)) ∧ Grow w w' := by
  have hF : -9223372036854775808 ≤ F ∧ F ≤ 9223372036854775807 := ⟨by have := hI.lo; omega, hI.hi⟩
  by_cases hle : n ≤ F
  · have e : seen F M n = true := by unfold seen; rw [decide_eq_true hle]; rfl
    rw [e]; exact seen_old w g F M n h hle
  · cases hf : far F n with
    | true =>
      have e : seen F M n = false := by unfold seen; rw [decide_eq_false hle, hf]; rfl
      rw [e]; exact seen_far w g F M n h hF hn (by omega) hf
    | false =>
      have hd : n - F - 1 < 64 := by
        unfold far at hf
        simp only [Bool.and_eq_false_iff, decide_eq_false_iff_not] at hf
        omega
      have e : seen F M n = M.testBit (n - F - 1).toNat := by unfold seen; rw [decide_eq_false hle, hf]; rfl
      rw [e]; exact seen_in w g F M n _ h hI.mask hF hn (by omega) (by omega)

theorem add_any (w : World) (g : Nat) (F : Int) (M : Nat) (n : Int) (h : Blk w g 36 #[.int .i64 F, .int .u64 (M : Int)]) (hI : WInv F M) (hn : -9223372036854775808 ≤ n ∧ n ≤ 9223372036854775807) :
    Calls Try.prog 9 #[.pointer (some ⟨g, 0, none⟩), .int .i64 n] w fun e w' => e = .returned (.bool (addB F M n)) ∧ Blk w' g 36 #[.int .i64 (addS F M n).1, .int .u64 ((addS F M n).2 : Int)] ∧ Only g w w' := by
  have hF : -9223372036854775808 ≤ F ∧ F ≤ 9223372036854775807 := ⟨by have := hI.lo; omega, hI.hi⟩
  cases hb : addB F M n with
  | true =>
    obtain ⟨h1, h2, h3⟩ := addB_range hb
    have e : addS F M n = put F M n := by unfold addS; rw [if_pos hb]
    rw [e]
    exact add_new w g F M n _ h hI hn.2 (by omega) (by omega) h3
  | false =>
    have e : addS F M n = (F, M) := by unfold addS; rw [if_neg (by rw [hb]; exact Bool.false_ne_true)]
    rw [e]
    cases hf : far F n with
    | true => exact (add_far w g F M n h hF hn hf).mono fun _ _ ⟨he, hg⟩ => ⟨he, h.grow hg, Only.of_grow hg⟩
    | false =>
      have hs : seen F M n = true := by
        unfold addB at hb; rw [hf] at hb; simpa using hb
      exact (add_seen w g F M n h hF hn hf (fun w1 hw1 => hs ▸ seen_any w1 g F M n hw1 hI hn)).mono fun _ _ ⟨he, hg⟩ => ⟨he, h.grow hg, Only.of_grow hg⟩
end Go.Proofs.Ytcllbjgblhpjiaa
