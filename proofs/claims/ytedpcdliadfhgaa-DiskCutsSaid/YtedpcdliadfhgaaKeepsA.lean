/- DiskKeeps: its walk, one of two. -/
import Derived.Test.YtedpcdliadfhgaaKnown
namespace Go.Proofs.Ytedpcdliadfhgaa
open Go.RowKit Go.Hop
theorem bytes_append (a b : List UInt8) : (⟨a.toArray⟩ : ByteArray) ++ ⟨b.toArray⟩ = ⟨(a ++ b).toArray⟩ := by
  apply ByteArray.ext
  simp
/-- what a crash leaves -/
theorem keeps_plain (la lb : List UInt8) (keep : Int) : ∃ (g : Int) (m : Nat), (m : Int) = max 0 (min keep (lb.length : Int)) ∧ g = (lb.length : Int) - (m : Int) ∧
    ((la ++ lb).take (la.length + keepN (la ++ lb) la.length keep) = la ++ lb.take m ∧ la.length + keepN (la ++ lb) la.length keep = la.length + m ∧ ((la ++ lb).length : Int) - (la.length : Int) - (keepN (la ++ lb) la.length keep : Int) = g) := by
  have hk : (keepN (la ++ lb) la.length keep : Int) = max 0 (min keep (lb.length : Int)) := by
    unfold keepN
    rw [List.length_append]
    omega
  refine ⟨_, keepN (la ++ lb) la.length keep, hk, rfl, ?_, rfl, ?_⟩
  · rw [List.take_append, List.take_of_length_le (by omega)]
    congr 2
    omega
  · rw [List.length_append]; omega
set_option maxRecDepth 100000 in
set_option maxHeartbeats 4000000 in
theorem keeps_ss (w : World) (A : Option Addr) (n c : Nat) (l : List UInt8) (hb : Bytes w w.heap.size A n l) (hnc : n ≤ c) (Z : Option Addr) (n' c' : Nat) (l' : List UInt8) (hb' : Bytes w w.heap.size Z n' l') (hnc' : n' ≤ c') (keep : Int) (hkeep : -9223372036854775808 ≤ keep ∧ keep ≤ 9223372036854775807)
    (hn : n ≤ 300) (hn' : n' ≤ 300) :
    Calls Try.prog 5 #[.slice A n c, .slice Z n' c', .int .i64 keep] w fun e w' => e = .returned (.bool true) ∧ Grow w w' := by
  have hla := hb
  have hlb := hb'
  have hLA := hla.len
  have hLB := hlb.len
  have k15 : ∀ (vs : Array Value) (w : World), (callFunc 15 vs).run Try.prog w = .ok (.enter 15 vs) w := fun vs w => by go_simp
  have k8 : ∀ (vs : Array Value) (w : World), (callFunc 8 vs).run Try.prog w = .ok (.enter 8 vs) w := fun vs w => by go_simp
  go_enter Try.func5, Try.ntmps5
  go_wp2_with (go_at_call 10; refine (New_any _).mono ?_; rintro e w1 ⟨rfl, hD1, hg1⟩)
  obtain ⟨d, HD⟩ : ∃ d : Nat, Hid (d = w.heap.size) := ⟨_, rfl⟩
  rw [← HD.out] at hD1 ⊢
  have hs1 := hg1.size
  have hs0 : Solo (fun b => w.heap.size ≤ b) (DiskAt 45 d [] 0) w1 := Solo.make (V := New w w1) hD1 (fun b hb => by omega) (fun b hb => hb)
  clear hD1
  go_at_call 11
  refine (hs0.call (Append_yes _ d [] 0 A n c l (Reads.more (Reads.below hla hg1) hg1.size) (fits_of (by simp; omega)))).mono ?_
  rintro e w3 ⟨rfl, hj3, hs3⟩
  have hs3 : Solo (fun b => w.heap.size ≤ b) (DiskAt 45 d l 0) w3 := hs3
  have hb3 := Below.trans hg1 (hj3.below (fun _ h => h) hg1.size)
  clear hs0 hj3
  go_wp2_with (go_at_call 12; refine (hs3.call (Sync_any _ d l 0)).mono ?_; rintro e w4 ⟨rfl, hj4, hs4⟩)
  have hb4 := hb3.trans (hj4.below (fun _ h => h) hb3.size)
  clear hs3 hj4 hb3
  go_at_call 11
  refine (hs4.call (Append_yes _ d l l.length Z n' c' l' (Reads.more (Reads.below hlb hb4) hb4.size) (fits_of (by omega)))).mono ?_
  rintro e w5 ⟨rfl, hj5, hs5⟩
  have hb5 := hb4.trans (hj5.below (fun _ h => h) hb4.size)
  clear hs4 hj5 hb4
  obtain ⟨g, m, hm, hgm, hH⟩ := keeps_plain l l' keep
  rw [hLB] at hgm hm
  have hmb : (m : Int) ≤ n' := by omega
  have hng : (n' : Int) - g = (m : Int) := by omega
  have hgr : 0 ≤ g ∧ g ≤ 300 := by omega
  have HM := Lib.hid hm
  clear hm hgm
  go_wp2_with (go_at_call 13; refine (hs5.call (crash_at _ d (l ++ l') l.length keep hkeep (l ++ l'.take m) (l.length + m) g hH)).mono ?_; rintro e w6 ⟨rfl, hj6, hs6⟩)
  have hb6 := hb5.trans (hj6.below (fun _ h => h) hb5.size)
  clear hs5 hj6 hb5 hH
  go_at_call 14
  obtain ⟨_, V, h1, hV⟩ := hs6
  refine (All_is _ d _ _ V h1).mono ?_
  rintro e w7 ⟨v7, rfl, hg7, hv7⟩
  have hb7 := below_trans hb6 hg7 hb6.size
  have hWa : ∀ w1, Grow w7 w1 → Calls Try.prog 15 #[.pointer (some ⟨d, 0, none⟩)] w1 fun e w' => e = .returned (.int .i64 0) ∧ Grow w1 w' := fun w1 hg => by
    have := Waits_any w1 d _ _ V (DiskAt.framed _ _ _ _ w6 w1 V h1 fun b hb => (hg7.trans hg).block b (hV b hb).2)
    rwa [show ((l ++ l'.take m).length : Int) - ((l.length + m : Nat) : Int) = 0 by rw [List.length_append, List.length_take]; omega] at this
  have hla7 := Reads.more (Reads.below hla hb7) hb7.size
  have hlm7 : Bytes w7 w7.heap.size Z m (l'.take m) := by
    have := Reads.take (Reads.more (Reads.below hlb hb7) hb7.size) (k := m) (by omega)
    unfold Bytes
    rw [u8s_take]; exact this
  have hck : ¬ c' < m := by omega
  go_wp2_with fail
  try rw [hng]
  clear hng
  by_cases hk0 : 0 < keep
  · by_cases hk1 : keep < n'
    · skip
      refine wp_region_flow 49 93 [(22, .inl (.int .i64 0)), (46, .inl (.bool true))] rfl rfl (by kernel_rfl) (by kernel_rfl) (by kernel_rfl) ?_ ?_
      · intro x hx φ he
        simp only [List.mem_cons, List.not_mem_nil, or_false] at hx
        rcases hx with rfl | rfl <;> cases he
      intro ops' A' K' T hops hA' hK hT
      refine fl_mv 45 (by rfl) (by decide) (wanted_none (by rfl)) (by rw [hK.out]; rfl) (by rfl) _ (Or.inl (by rfl)) (.int .i64 (m : Int)) (by rfl) ?_
      refine fl_op2 46 (by rfl) (by decide) (wanted_none (by rfl)) (by rw [hK.out]; rfl) (by rfl) (.tmp 45) (.const (.int .i64 0)) (.int .i64 (m : Int)) (.int .i64 0) (by rfl) (by rfl) (.bool true) (fun ρ h1 h2 kk w1 (hg : Grow _ w1) hb hf => by first | (go_simp; done) | (go_simp; omega)) ?_
      refine fl_mv 47 (by rfl) (by decide) (wanted_none (by rfl)) (by rw [hK.out]; rfl) (by rfl) _ (Or.inl (by rfl)) (.bool true) (by rfl) ?_
      refine fl_mv 48 (by rfl) (by decide) (wanted_if hops 2 true (by rfl) 47 (by rfl) true (by rfl)) (by rw [hK.out]; rfl) (by rfl) _ (Or.inl (by rfl)) (.int .i64 (m : Int)) (by rfl) ?_
      refine fl_mv 49 (by rfl) (by decide) (wanted_if hops 2 true (by rfl) 47 (by rfl) true (by rfl)) (by rw [hK.out]; rfl) (by rfl) _ (Or.inl (by rfl)) (.slice Z n' c') (by rfl) ?_
      refine fl_op1 50 (by rfl) (by decide) (wanted_if hops 2 true (by rfl) 47 (by rfl) true (by rfl)) (by rw [hK.out]; rfl) (by rfl) (.tmp 49) (.slice Z n' c') (by rfl) (.int .i64 (n' : Int)) (fun ρ h1 kk w1 (hg : Grow _ w1) hb hf => by go_simp) ?_
      refine fl_op2 51 (by rfl) (by decide) (wanted_if hops 2 true (by rfl) 47 (by rfl) true (by rfl)) (by rw [hK.out]; rfl) (by rfl) (.tmp 48) (.tmp 50) (.int .i64 (m : Int)) (.int .i64 (n' : Int)) (by rfl) (by rfl) (.bool true) (fun ρ h1 h2 kk w1 (hg : Grow _ w1) hb hf => by first | (go_simp; done) | (go_simp; omega)) ?_
      refine fl_pick 52 (by rfl) (by decide) (wanted_none (by rfl)) (by rw [hK.out]; rfl) (by rfl) _ _ _ (by rfl) true (by rfl) (.bool true) (by rfl) ?_
      refine fl_mv 53 (by rfl) (by decide) (wanted_none (by rfl)) (by rw [hK.out]; rfl) (by rfl) _ (Or.inl (by rfl)) (.bool true) (by rfl) ?_
      refine fl_mv 54 (by rfl) (by decide) (wanted_if hops 8 true (by rfl) 53 (by rfl) true (by rfl)) (by rw [hK.out]; rfl) (by rfl) _ (Or.inl (by rfl)) (v7) (by rfl) ?_
      refine fl_op1 55 (by rfl) (by decide) (wanted_if hops 8 true (by rfl) 53 (by rfl) true (by rfl)) (by rw [hK.out]; rfl) (by rfl) (.tmp 54) (v7) (by rfl) (.string ⟨(l ++ l'.take m).toArray⟩) (fun ρ h1 kk w1 (hg : Grow _ w1) hb hf => by have cv := conv_is w1 (hv7.below hg); go_simp) ?_
      refine fl_mv 56 (by rfl) (by decide) (wanted_if hops 8 true (by rfl) 53 (by rfl) true (by rfl)) (by rw [hK.out]; rfl) (by rfl) _ (Or.inl (by rfl)) (.slice A n c) (by rfl) ?_
      refine fl_op1 57 (by rfl) (by decide) (wanted_if hops 8 true (by rfl) 53 (by rfl) true (by rfl)) (by rw [hK.out]; rfl) (by rfl) (.tmp 56) (.slice A n c) (by rfl) (.string ⟨l.toArray⟩) (fun ρ h1 kk w1 (hg : Grow _ w1) hb hf => by have cv := conv_bytes w1 (c := c) (hla7.below hg); go_simp) ?_
      refine fl_mv 58 (by rfl) (by decide) (wanted_if hops 8 true (by rfl) 53 (by rfl) true (by rfl)) (by rw [hK.out]; rfl) (by rfl) _ (Or.inl (by rfl)) (.slice Z n' c') (by rfl) ?_
      refine fl_mv 59 (by rfl) (by decide) (wanted_if hops 8 true (by rfl) 53 (by rfl) true (by rfl)) (by rw [hK.out]; rfl) (by rfl) _ (Or.inl (by rfl)) (.int .i64 (m : Int)) (by rfl) ?_
      refine fl_op2 60 (by rfl) (by decide) (wanted_if hops 8 true (by rfl) 53 (by rfl) true (by rfl)) (by rw [hK.out]; rfl) (by rfl) (.tmp 58) (.tmp 59) (.slice Z n' c') (.int .i64 (m : Int)) (by rfl) (by rfl) (.slice Z m c') (fun ρ h1 h2 kk w1 (hg : Grow _ w1) hb hf => by go_simp) ?_
      refine fl_op1 61 (by rfl) (by decide) (wanted_if hops 8 true (by rfl) 53 (by rfl) true (by rfl)) (by rw [hK.out]; rfl) (by rfl) (.tmp 60) (.slice Z m c') (by rfl) (.string ⟨(l'.take m).toArray⟩) (fun ρ h1 kk w1 (hg : Grow _ w1) hb hf => by have cv := conv_bytes w1 (c := c') (hlm7.below hg); go_simp) ?_
      refine fl_op2 62 (by rfl) (by decide) (wanted_if hops 8 true (by rfl) 53 (by rfl) true (by rfl)) (by rw [hK.out]; rfl) (by rfl) (.tmp 57) (.tmp 61) (.string ⟨l.toArray⟩) (.string ⟨(l'.take m).toArray⟩) (by rfl) (by rfl) (.string ⟨(l ++ l'.take m).toArray⟩) (fun ρ h1 h2 kk w1 (hg : Grow _ w1) hb hf => by have ha := bytes_append l (l'.take m); first | (go_simp; done) | (go_simp; omega)) ?_
      refine fl_op2 63 (by rfl) (by decide) (wanted_if hops 8 true (by rfl) 53 (by rfl) true (by rfl)) (by rw [hK.out]; rfl) (by rfl) (.tmp 55) (.tmp 62) (.string ⟨(l ++ l'.take m).toArray⟩) (.string ⟨(l ++ l'.take m).toArray⟩) (by rfl) (by rfl) (.bool true) (fun ρ h1 h2 kk w1 (hg : Grow _ w1) hb hf => by go_simp) ?_
      refine fl_pick 64 (by rfl) (by decide) (wanted_none (by rfl)) (by rw [hK.out]; rfl) (by rfl) _ _ _ (by rfl) true (by rfl) (.bool true) (by rfl) ?_
      refine fl_mv 65 (by rfl) (by decide) (wanted_none (by rfl)) (by rw [hK.out]; rfl) (by rfl) _ (Or.inl (by rfl)) (.bool true) (by rfl) ?_
      refine fl_mv 66 (by rfl) (by decide) (wanted_if hops 20 true (by rfl) 65 (by rfl) true (by rfl)) (by rw [hK.out]; rfl) (by rfl) _ (Or.inl (by rfl)) (.pointer (some ⟨d, 0, none⟩)) (by rfl) ?_
      refine fl_call 67 (by rfl) (by decide) (wanted_if hops 20 true (by rfl) 65 (by rfl) true (by rfl)) (.int .i64 0) (by rw [hK.out]; rfl) 15 _ _ (by rfl) [.pointer (some ⟨d, 0, none⟩)] (by rfl) k15 (fun kk w1 (hg : Grow _ w1) hb hf => calls_behind (by rfl) (by exact hWa w1 hg)) ?_
      refine fl_op2 68 (by rfl) (by decide) (wanted_if hops 20 true (by rfl) 65 (by rfl) true (by rfl)) (by rw [hK.out]; rfl) (by rfl) (.tmp 67) (.const (.int .i64 0)) (.int .i64 0) (.int .i64 0) (by rfl) (by rfl) (.bool true) (fun ρ h1 h2 kk w1 (hg : Grow _ w1) hb hf => by go_simp) ?_
      refine fl_pick 69 (by rfl) (by decide) (wanted_none (by rfl)) (by rw [hK.out]; rfl) (by rfl) _ _ _ (by rfl) true (by rfl) (.bool true) (by rfl) ?_
      refine fl_mv 70 (by rfl) (by decide) (wanted_none (by rfl)) (by rw [hK.out]; rfl) (by rfl) _ (Or.inl (by rfl)) (.bool true) (by rfl) ?_
      refine fl_mv 71 (by rfl) (by decide) (wanted_if hops 25 true (by rfl) 70 (by rfl) true (by rfl)) (by rw [hK.out]; rfl) (by rfl) _ (Or.inl (by rfl)) (.int .i64 keep) (by rfl) ?_
      refine fl_op2 72 (by rfl) (by decide) (wanted_if hops 25 true (by rfl) 70 (by rfl) true (by rfl)) (by rw [hK.out]; rfl) (by rfl) (.tmp 71) (.const (.int .i64 0)) (.int .i64 keep) (.int .i64 0) (by rfl) (by rfl) (.bool true) (fun ρ h1 h2 kk w1 (hg : Grow _ w1) hb hf => by first | (go_simp; done) | (go_simp; omega)) ?_
      refine fl_mv 73 (by rfl) (by decide) (wanted_if hops 25 true (by rfl) 70 (by rfl) true (by rfl)) (by rw [hK.out]; rfl) (by rfl) _ (Or.inl (by rfl)) (.bool true) (by rfl) ?_
      refine fl_skip 74 (by rfl) (by decide) (wanted_if hops 28 false (by rfl) 73 (by rfl) true (by rfl)) (by rfl) ?_
      refine fl_skip 75 (by rfl) (by decide) (wanted_if hops 28 false (by rfl) 73 (by rfl) true (by rfl)) (by rfl) ?_
      refine fl_pick 76 (by rfl) (by decide) (wanted_if hops 25 true (by rfl) 70 (by rfl) true (by rfl)) (by rw [hK.out]; rfl) (by rfl) _ _ _ (by rfl) true (by rfl) (.bool true) (by rfl) ?_
      refine fl_pick 77 (by rfl) (by decide) (wanted_none (by rfl)) (by rw [hK.out]; rfl) (by rfl) _ _ _ (by rfl) true (by rfl) (.bool true) (by rfl) ?_
      refine fl_mv 78 (by rfl) (by decide) (wanted_none (by rfl)) (by rw [hK.out]; rfl) (by rfl) _ (Or.inl (by rfl)) (.bool true) (by rfl) ?_
      refine fl_mv 79 (by rfl) (by decide) (wanted_if hops 33 true (by rfl) 78 (by rfl) true (by rfl)) (by rw [hK.out]; rfl) (by rfl) _ (Or.inl (by rfl)) (.int .i64 keep) (by rfl) ?_
      refine fl_mv 80 (by rfl) (by decide) (wanted_if hops 33 true (by rfl) 78 (by rfl) true (by rfl)) (by rw [hK.out]; rfl) (by rfl) _ (Or.inl (by rfl)) (.slice Z n' c') (by rfl) ?_
      refine fl_op1 81 (by rfl) (by decide) (wanted_if hops 33 true (by rfl) 78 (by rfl) true (by rfl)) (by rw [hK.out]; rfl) (by rfl) (.tmp 80) (.slice Z n' c') (by rfl) (.int .i64 (n' : Int)) (fun ρ h1 kk w1 (hg : Grow _ w1) hb hf => by go_simp) ?_
      refine fl_op2 82 (by rfl) (by decide) (wanted_if hops 33 true (by rfl) 78 (by rfl) true (by rfl)) (by rw [hK.out]; rfl) (by rfl) (.tmp 79) (.tmp 81) (.int .i64 keep) (.int .i64 (n' : Int)) (by rfl) (by rfl) (.bool true) (fun ρ h1 h2 kk w1 (hg : Grow _ w1) hb hf => by first | (go_simp; done) | (go_simp; omega)) ?_
      refine fl_mv 83 (by rfl) (by decide) (wanted_if hops 33 true (by rfl) 78 (by rfl) true (by rfl)) (by rw [hK.out]; rfl) (by rfl) _ (Or.inl (by rfl)) (.bool true) (by rfl) ?_
      refine fl_skip 84 (by rfl) (by decide) (wanted_if hops 38 false (by rfl) 83 (by rfl) true (by rfl)) (by rfl) ?_
      refine fl_skip 85 (by rfl) (by decide) (wanted_if hops 38 false (by rfl) 83 (by rfl) true (by rfl)) (by rfl) ?_
      refine fl_skip 86 (by rfl) (by decide) (wanted_if hops 38 false (by rfl) 83 (by rfl) true (by rfl)) (by rfl) ?_
      refine fl_skip 87 (by rfl) (by decide) (wanted_if hops 38 false (by rfl) 83 (by rfl) true (by rfl)) (by rfl) ?_
      refine fl_pick 88 (by rfl) (by decide) (wanted_if hops 33 true (by rfl) 78 (by rfl) true (by rfl)) (by rw [hK.out]; rfl) (by rfl) _ _ _ (by rfl) true (by rfl) (.bool true) (by rfl) ?_
      refine fl_pick 89 (by rfl) (by decide) (wanted_none (by rfl)) (by rw [hK.out]; rfl) (by rfl) _ _ _ (by rfl) true (by rfl) (.bool true) (by rfl) ?_
      refine fl_mv 90 (by rfl) (by decide) (wanted_none (by rfl)) (by rw [hK.out]; rfl) (by rfl) _ (Or.inl (by rfl)) (.bool true) (by rfl) ?_
      refine fl_call 91 (by rfl) (by decide) (wanted_if hops 45 true (by rfl) 90 (by rfl) true (by rfl)) (.bool true) (by rw [hK.out]; rfl) 8 _ _ (by rfl) [] (by rfl) k8 (fun kk w1 (hg : Grow _ w1) hb hf => calls_behind (by rfl) (by exact known_any w1)) ?_
      refine fl_pick 92 (by rfl) (by decide) (wanted_none (by rfl)) (by rw [hK.out]; rfl) (by rfl) _ _ _ (by rfl) true (by rfl) (.bool true) (by rfl) ?_
      refine fl_mv 6 (by rfl) (by decide) (wanted_none (by rfl)) (by rw [hK.out]; rfl) (by rfl) _ (Or.inr (by rfl)) (.bool true) (by rfl) ?_
      refine fl_end (fun _ _ w1 (hg : Grow _ w1) _ hfacts => hT _ _ ?_)
      clear hops hA' hK hT
      simp only [putsL, Act.put, List.setIfInBounds_toArray, List.set_cons_zero, List.set_cons_succ, List.drop_succ_cons, List.drop_zero]
      go_wp2_with fail
      go_ret
      exact ⟨rfl, below_trans hb7 hg hb7.size⟩
    · have HMN : Hid ((m : Int) = n') := Lib.hid (by have := HM.out; omega)
      refine wp_region_flow 49 93 [(22, .inl (.int .i64 0)), (46, .inl (.bool true))] rfl rfl (by kernel_rfl) (by kernel_rfl) (by kernel_rfl) ?_ ?_
      · intro x hx φ he
        simp only [List.mem_cons, List.not_mem_nil, or_false] at hx
        rcases hx with rfl | rfl <;> cases he
      intro ops' A' K' T hops hA' hK hT
      refine fl_mv 45 (by rfl) (by decide) (wanted_none (by rfl)) (by rw [hK.out]; rfl) (by rfl) _ (Or.inl (by rfl)) (.int .i64 (m : Int)) (by rfl) ?_
      refine fl_op2 46 (by rfl) (by decide) (wanted_none (by rfl)) (by rw [hK.out]; rfl) (by rfl) (.tmp 45) (.const (.int .i64 0)) (.int .i64 (m : Int)) (.int .i64 0) (by rfl) (by rfl) (.bool true) (fun ρ h1 h2 kk w1 (hg : Grow _ w1) hb hf => by first | (go_simp; done) | (go_simp; omega)) ?_
      refine fl_mv 47 (by rfl) (by decide) (wanted_none (by rfl)) (by rw [hK.out]; rfl) (by rfl) _ (Or.inl (by rfl)) (.bool true) (by rfl) ?_
      refine fl_mv 48 (by rfl) (by decide) (wanted_if hops 2 true (by rfl) 47 (by rfl) true (by rfl)) (by rw [hK.out]; rfl) (by rfl) _ (Or.inl (by rfl)) (.int .i64 (m : Int)) (by rfl) ?_
      refine fl_mv 49 (by rfl) (by decide) (wanted_if hops 2 true (by rfl) 47 (by rfl) true (by rfl)) (by rw [hK.out]; rfl) (by rfl) _ (Or.inl (by rfl)) (.slice Z n' c') (by rfl) ?_
      refine fl_op1 50 (by rfl) (by decide) (wanted_if hops 2 true (by rfl) 47 (by rfl) true (by rfl)) (by rw [hK.out]; rfl) (by rfl) (.tmp 49) (.slice Z n' c') (by rfl) (.int .i64 (n' : Int)) (fun ρ h1 kk w1 (hg : Grow _ w1) hb hf => by go_simp) ?_
      refine fl_op2 51 (by rfl) (by decide) (wanted_if hops 2 true (by rfl) 47 (by rfl) true (by rfl)) (by rw [hK.out]; rfl) (by rfl) (.tmp 48) (.tmp 50) (.int .i64 (m : Int)) (.int .i64 (n' : Int)) (by rfl) (by rfl) (.bool true) (fun ρ h1 h2 kk w1 (hg : Grow _ w1) hb hf => by first | (go_simp; done) | (go_simp; omega)) ?_
      refine fl_pick 52 (by rfl) (by decide) (wanted_none (by rfl)) (by rw [hK.out]; rfl) (by rfl) _ _ _ (by rfl) true (by rfl) (.bool true) (by rfl) ?_
      refine fl_mv 53 (by rfl) (by decide) (wanted_none (by rfl)) (by rw [hK.out]; rfl) (by rfl) _ (Or.inl (by rfl)) (.bool true) (by rfl) ?_
      refine fl_mv 54 (by rfl) (by decide) (wanted_if hops 8 true (by rfl) 53 (by rfl) true (by rfl)) (by rw [hK.out]; rfl) (by rfl) _ (Or.inl (by rfl)) (v7) (by rfl) ?_
      refine fl_op1 55 (by rfl) (by decide) (wanted_if hops 8 true (by rfl) 53 (by rfl) true (by rfl)) (by rw [hK.out]; rfl) (by rfl) (.tmp 54) (v7) (by rfl) (.string ⟨(l ++ l'.take m).toArray⟩) (fun ρ h1 kk w1 (hg : Grow _ w1) hb hf => by have cv := conv_is w1 (hv7.below hg); go_simp) ?_
      refine fl_mv 56 (by rfl) (by decide) (wanted_if hops 8 true (by rfl) 53 (by rfl) true (by rfl)) (by rw [hK.out]; rfl) (by rfl) _ (Or.inl (by rfl)) (.slice A n c) (by rfl) ?_
      refine fl_op1 57 (by rfl) (by decide) (wanted_if hops 8 true (by rfl) 53 (by rfl) true (by rfl)) (by rw [hK.out]; rfl) (by rfl) (.tmp 56) (.slice A n c) (by rfl) (.string ⟨l.toArray⟩) (fun ρ h1 kk w1 (hg : Grow _ w1) hb hf => by have cv := conv_bytes w1 (c := c) (hla7.below hg); go_simp) ?_
      refine fl_mv 58 (by rfl) (by decide) (wanted_if hops 8 true (by rfl) 53 (by rfl) true (by rfl)) (by rw [hK.out]; rfl) (by rfl) _ (Or.inl (by rfl)) (.slice Z n' c') (by rfl) ?_
      refine fl_mv 59 (by rfl) (by decide) (wanted_if hops 8 true (by rfl) 53 (by rfl) true (by rfl)) (by rw [hK.out]; rfl) (by rfl) _ (Or.inl (by rfl)) (.int .i64 (m : Int)) (by rfl) ?_
      refine fl_op2 60 (by rfl) (by decide) (wanted_if hops 8 true (by rfl) 53 (by rfl) true (by rfl)) (by rw [hK.out]; rfl) (by rfl) (.tmp 58) (.tmp 59) (.slice Z n' c') (.int .i64 (m : Int)) (by rfl) (by rfl) (.slice Z m c') (fun ρ h1 h2 kk w1 (hg : Grow _ w1) hb hf => by go_simp) ?_
      refine fl_op1 61 (by rfl) (by decide) (wanted_if hops 8 true (by rfl) 53 (by rfl) true (by rfl)) (by rw [hK.out]; rfl) (by rfl) (.tmp 60) (.slice Z m c') (by rfl) (.string ⟨(l'.take m).toArray⟩) (fun ρ h1 kk w1 (hg : Grow _ w1) hb hf => by have cv := conv_bytes w1 (c := c') (hlm7.below hg); go_simp) ?_
      refine fl_op2 62 (by rfl) (by decide) (wanted_if hops 8 true (by rfl) 53 (by rfl) true (by rfl)) (by rw [hK.out]; rfl) (by rfl) (.tmp 57) (.tmp 61) (.string ⟨l.toArray⟩) (.string ⟨(l'.take m).toArray⟩) (by rfl) (by rfl) (.string ⟨(l ++ l'.take m).toArray⟩) (fun ρ h1 h2 kk w1 (hg : Grow _ w1) hb hf => by have ha := bytes_append l (l'.take m); first | (go_simp; done) | (go_simp; omega)) ?_
      refine fl_op2 63 (by rfl) (by decide) (wanted_if hops 8 true (by rfl) 53 (by rfl) true (by rfl)) (by rw [hK.out]; rfl) (by rfl) (.tmp 55) (.tmp 62) (.string ⟨(l ++ l'.take m).toArray⟩) (.string ⟨(l ++ l'.take m).toArray⟩) (by rfl) (by rfl) (.bool true) (fun ρ h1 h2 kk w1 (hg : Grow _ w1) hb hf => by go_simp) ?_
      refine fl_pick 64 (by rfl) (by decide) (wanted_none (by rfl)) (by rw [hK.out]; rfl) (by rfl) _ _ _ (by rfl) true (by rfl) (.bool true) (by rfl) ?_
      refine fl_mv 65 (by rfl) (by decide) (wanted_none (by rfl)) (by rw [hK.out]; rfl) (by rfl) _ (Or.inl (by rfl)) (.bool true) (by rfl) ?_
      refine fl_mv 66 (by rfl) (by decide) (wanted_if hops 20 true (by rfl) 65 (by rfl) true (by rfl)) (by rw [hK.out]; rfl) (by rfl) _ (Or.inl (by rfl)) (.pointer (some ⟨d, 0, none⟩)) (by rfl) ?_
      refine fl_call 67 (by rfl) (by decide) (wanted_if hops 20 true (by rfl) 65 (by rfl) true (by rfl)) (.int .i64 0) (by rw [hK.out]; rfl) 15 _ _ (by rfl) [.pointer (some ⟨d, 0, none⟩)] (by rfl) k15 (fun kk w1 (hg : Grow _ w1) hb hf => calls_behind (by rfl) (by exact hWa w1 hg)) ?_
      refine fl_op2 68 (by rfl) (by decide) (wanted_if hops 20 true (by rfl) 65 (by rfl) true (by rfl)) (by rw [hK.out]; rfl) (by rfl) (.tmp 67) (.const (.int .i64 0)) (.int .i64 0) (.int .i64 0) (by rfl) (by rfl) (.bool true) (fun ρ h1 h2 kk w1 (hg : Grow _ w1) hb hf => by go_simp) ?_
      refine fl_pick 69 (by rfl) (by decide) (wanted_none (by rfl)) (by rw [hK.out]; rfl) (by rfl) _ _ _ (by rfl) true (by rfl) (.bool true) (by rfl) ?_
      refine fl_mv 70 (by rfl) (by decide) (wanted_none (by rfl)) (by rw [hK.out]; rfl) (by rfl) _ (Or.inl (by rfl)) (.bool true) (by rfl) ?_
      refine fl_mv 71 (by rfl) (by decide) (wanted_if hops 25 true (by rfl) 70 (by rfl) true (by rfl)) (by rw [hK.out]; rfl) (by rfl) _ (Or.inl (by rfl)) (.int .i64 keep) (by rfl) ?_
      refine fl_op2 72 (by rfl) (by decide) (wanted_if hops 25 true (by rfl) 70 (by rfl) true (by rfl)) (by rw [hK.out]; rfl) (by rfl) (.tmp 71) (.const (.int .i64 0)) (.int .i64 keep) (.int .i64 0) (by rfl) (by rfl) (.bool true) (fun ρ h1 h2 kk w1 (hg : Grow _ w1) hb hf => by first | (go_simp; done) | (go_simp; omega)) ?_
      refine fl_mv 73 (by rfl) (by decide) (wanted_if hops 25 true (by rfl) 70 (by rfl) true (by rfl)) (by rw [hK.out]; rfl) (by rfl) _ (Or.inl (by rfl)) (.bool true) (by rfl) ?_
      refine fl_skip 74 (by rfl) (by decide) (wanted_if hops 28 false (by rfl) 73 (by rfl) true (by rfl)) (by rfl) ?_
      refine fl_skip 75 (by rfl) (by decide) (wanted_if hops 28 false (by rfl) 73 (by rfl) true (by rfl)) (by rfl) ?_
      refine fl_pick 76 (by rfl) (by decide) (wanted_if hops 25 true (by rfl) 70 (by rfl) true (by rfl)) (by rw [hK.out]; rfl) (by rfl) _ _ _ (by rfl) true (by rfl) (.bool true) (by rfl) ?_
      refine fl_pick 77 (by rfl) (by decide) (wanted_none (by rfl)) (by rw [hK.out]; rfl) (by rfl) _ _ _ (by rfl) true (by rfl) (.bool true) (by rfl) ?_
      refine fl_mv 78 (by rfl) (by decide) (wanted_none (by rfl)) (by rw [hK.out]; rfl) (by rfl) _ (Or.inl (by rfl)) (.bool true) (by rfl) ?_
      refine fl_mv 79 (by rfl) (by decide) (wanted_if hops 33 true (by rfl) 78 (by rfl) true (by rfl)) (by rw [hK.out]; rfl) (by rfl) _ (Or.inl (by rfl)) (.int .i64 keep) (by rfl) ?_
      refine fl_mv 80 (by rfl) (by decide) (wanted_if hops 33 true (by rfl) 78 (by rfl) true (by rfl)) (by rw [hK.out]; rfl) (by rfl) _ (Or.inl (by rfl)) (.slice Z n' c') (by rfl) ?_
      refine fl_op1 81 (by rfl) (by decide) (wanted_if hops 33 true (by rfl) 78 (by rfl) true (by rfl)) (by rw [hK.out]; rfl) (by rfl) (.tmp 80) (.slice Z n' c') (by rfl) (.int .i64 (n' : Int)) (fun ρ h1 kk w1 (hg : Grow _ w1) hb hf => by go_simp) ?_
      refine fl_op2 82 (by rfl) (by decide) (wanted_if hops 33 true (by rfl) 78 (by rfl) true (by rfl)) (by rw [hK.out]; rfl) (by rfl) (.tmp 79) (.tmp 81) (.int .i64 keep) (.int .i64 (n' : Int)) (by rfl) (by rfl) (.bool false) (fun ρ h1 h2 kk w1 (hg : Grow _ w1) hb hf => by first | (go_simp; done) | (go_simp; omega)) ?_
      refine fl_mv 83 (by rfl) (by decide) (wanted_if hops 33 true (by rfl) 78 (by rfl) true (by rfl)) (by rw [hK.out]; rfl) (by rfl) _ (Or.inl (by rfl)) (.bool false) (by rfl) ?_
      refine fl_mv 84 (by rfl) (by decide) (wanted_if hops 38 false (by rfl) 83 (by rfl) false (by rfl)) (by rw [hK.out]; rfl) (by rfl) _ (Or.inl (by rfl)) (.int .i64 (m : Int)) (by rfl) ?_
      refine fl_mv 85 (by rfl) (by decide) (wanted_if hops 38 false (by rfl) 83 (by rfl) false (by rfl)) (by rw [hK.out]; rfl) (by rfl) _ (Or.inl (by rfl)) (.slice Z n' c') (by rfl) ?_
      refine fl_op1 86 (by rfl) (by decide) (wanted_if hops 38 false (by rfl) 83 (by rfl) false (by rfl)) (by rw [hK.out]; rfl) (by rfl) (.tmp 85) (.slice Z n' c') (by rfl) (.int .i64 (n' : Int)) (fun ρ h1 kk w1 (hg : Grow _ w1) hb hf => by go_simp) ?_
      refine fl_op2 87 (by rfl) (by decide) (wanted_if hops 38 false (by rfl) 83 (by rfl) false (by rfl)) (by rw [hK.out]; rfl) (by rfl) (.tmp 84) (.tmp 86) (.int .i64 (m : Int)) (.int .i64 (n' : Int)) (by rfl) (by rfl) (.bool true) (fun ρ h1 h2 kk w1 (hg : Grow _ w1) hb hf => by have hmn := HMN.out; first | (go_simp; done) | (go_simp; omega)) ?_
      refine fl_pick 88 (by rfl) (by decide) (wanted_if hops 33 true (by rfl) 78 (by rfl) true (by rfl)) (by rw [hK.out]; rfl) (by rfl) _ _ _ (by rfl) false (by rfl) (.bool true) (by rfl) ?_
      refine fl_pick 89 (by rfl) (by decide) (wanted_none (by rfl)) (by rw [hK.out]; rfl) (by rfl) _ _ _ (by rfl) true (by rfl) (.bool true) (by rfl) ?_
      refine fl_mv 90 (by rfl) (by decide) (wanted_none (by rfl)) (by rw [hK.out]; rfl) (by rfl) _ (Or.inl (by rfl)) (.bool true) (by rfl) ?_
      refine fl_call 91 (by rfl) (by decide) (wanted_if hops 45 true (by rfl) 90 (by rfl) true (by rfl)) (.bool true) (by rw [hK.out]; rfl) 8 _ _ (by rfl) [] (by rfl) k8 (fun kk w1 (hg : Grow _ w1) hb hf => calls_behind (by rfl) (by exact known_any w1)) ?_
      refine fl_pick 92 (by rfl) (by decide) (wanted_none (by rfl)) (by rw [hK.out]; rfl) (by rfl) _ _ _ (by rfl) true (by rfl) (.bool true) (by rfl) ?_
      refine fl_mv 6 (by rfl) (by decide) (wanted_none (by rfl)) (by rw [hK.out]; rfl) (by rfl) _ (Or.inr (by rfl)) (.bool true) (by rfl) ?_
      refine fl_end (fun _ _ w1 (hg : Grow _ w1) _ hfacts => hT _ _ ?_)
      clear hops hA' hK hT
      simp only [putsL, Act.put, List.setIfInBounds_toArray, List.set_cons_zero, List.set_cons_succ, List.drop_succ_cons, List.drop_zero]
      go_wp2_with fail
      go_ret
      exact ⟨rfl, below_trans hb7 hg hb7.size⟩
  · have HM0 : Hid (m = 0) := Lib.hid (by have := HM.out; omega)
    by_cases hk1 : keep < n'
    · skip
      refine wp_region_flow 49 93 [(22, .inl (.int .i64 0)), (46, .inl (.bool true))] rfl rfl (by kernel_rfl) (by kernel_rfl) (by kernel_rfl) ?_ ?_
      · intro x hx φ he
        simp only [List.mem_cons, List.not_mem_nil, or_false] at hx
        rcases hx with rfl | rfl <;> cases he
      intro ops' A' K' T hops hA' hK hT
      refine fl_mv 45 (by rfl) (by decide) (wanted_none (by rfl)) (by rw [hK.out]; rfl) (by rfl) _ (Or.inl (by rfl)) (.int .i64 (m : Int)) (by rfl) ?_
      refine fl_op2 46 (by rfl) (by decide) (wanted_none (by rfl)) (by rw [hK.out]; rfl) (by rfl) (.tmp 45) (.const (.int .i64 0)) (.int .i64 (m : Int)) (.int .i64 0) (by rfl) (by rfl) (.bool true) (fun ρ h1 h2 kk w1 (hg : Grow _ w1) hb hf => by first | (go_simp; done) | (go_simp; omega)) ?_
      refine fl_mv 47 (by rfl) (by decide) (wanted_none (by rfl)) (by rw [hK.out]; rfl) (by rfl) _ (Or.inl (by rfl)) (.bool true) (by rfl) ?_
      refine fl_mv 48 (by rfl) (by decide) (wanted_if hops 2 true (by rfl) 47 (by rfl) true (by rfl)) (by rw [hK.out]; rfl) (by rfl) _ (Or.inl (by rfl)) (.int .i64 (m : Int)) (by rfl) ?_
      refine fl_mv 49 (by rfl) (by decide) (wanted_if hops 2 true (by rfl) 47 (by rfl) true (by rfl)) (by rw [hK.out]; rfl) (by rfl) _ (Or.inl (by rfl)) (.slice Z n' c') (by rfl) ?_
      refine fl_op1 50 (by rfl) (by decide) (wanted_if hops 2 true (by rfl) 47 (by rfl) true (by rfl)) (by rw [hK.out]; rfl) (by rfl) (.tmp 49) (.slice Z n' c') (by rfl) (.int .i64 (n' : Int)) (fun ρ h1 kk w1 (hg : Grow _ w1) hb hf => by go_simp) ?_
      refine fl_op2 51 (by rfl) (by decide) (wanted_if hops 2 true (by rfl) 47 (by rfl) true (by rfl)) (by rw [hK.out]; rfl) (by rfl) (.tmp 48) (.tmp 50) (.int .i64 (m : Int)) (.int .i64 (n' : Int)) (by rfl) (by rfl) (.bool true) (fun ρ h1 h2 kk w1 (hg : Grow _ w1) hb hf => by first | (go_simp; done) | (go_simp; omega)) ?_
      refine fl_pick 52 (by rfl) (by decide) (wanted_none (by rfl)) (by rw [hK.out]; rfl) (by rfl) _ _ _ (by rfl) true (by rfl) (.bool true) (by rfl) ?_
      refine fl_mv 53 (by rfl) (by decide) (wanted_none (by rfl)) (by rw [hK.out]; rfl) (by rfl) _ (Or.inl (by rfl)) (.bool true) (by rfl) ?_
      refine fl_mv 54 (by rfl) (by decide) (wanted_if hops 8 true (by rfl) 53 (by rfl) true (by rfl)) (by rw [hK.out]; rfl) (by rfl) _ (Or.inl (by rfl)) (v7) (by rfl) ?_
      refine fl_op1 55 (by rfl) (by decide) (wanted_if hops 8 true (by rfl) 53 (by rfl) true (by rfl)) (by rw [hK.out]; rfl) (by rfl) (.tmp 54) (v7) (by rfl) (.string ⟨(l ++ l'.take m).toArray⟩) (fun ρ h1 kk w1 (hg : Grow _ w1) hb hf => by have cv := conv_is w1 (hv7.below hg); go_simp) ?_
      refine fl_mv 56 (by rfl) (by decide) (wanted_if hops 8 true (by rfl) 53 (by rfl) true (by rfl)) (by rw [hK.out]; rfl) (by rfl) _ (Or.inl (by rfl)) (.slice A n c) (by rfl) ?_
      refine fl_op1 57 (by rfl) (by decide) (wanted_if hops 8 true (by rfl) 53 (by rfl) true (by rfl)) (by rw [hK.out]; rfl) (by rfl) (.tmp 56) (.slice A n c) (by rfl) (.string ⟨l.toArray⟩) (fun ρ h1 kk w1 (hg : Grow _ w1) hb hf => by have cv := conv_bytes w1 (c := c) (hla7.below hg); go_simp) ?_
      refine fl_mv 58 (by rfl) (by decide) (wanted_if hops 8 true (by rfl) 53 (by rfl) true (by rfl)) (by rw [hK.out]; rfl) (by rfl) _ (Or.inl (by rfl)) (.slice Z n' c') (by rfl) ?_
      refine fl_mv 59 (by rfl) (by decide) (wanted_if hops 8 true (by rfl) 53 (by rfl) true (by rfl)) (by rw [hK.out]; rfl) (by rfl) _ (Or.inl (by rfl)) (.int .i64 (m : Int)) (by rfl) ?_
      refine fl_op2 60 (by rfl) (by decide) (wanted_if hops 8 true (by rfl) 53 (by rfl) true (by rfl)) (by rw [hK.out]; rfl) (by rfl) (.tmp 58) (.tmp 59) (.slice Z n' c') (.int .i64 (m : Int)) (by rfl) (by rfl) (.slice Z m c') (fun ρ h1 h2 kk w1 (hg : Grow _ w1) hb hf => by go_simp) ?_
      refine fl_op1 61 (by rfl) (by decide) (wanted_if hops 8 true (by rfl) 53 (by rfl) true (by rfl)) (by rw [hK.out]; rfl) (by rfl) (.tmp 60) (.slice Z m c') (by rfl) (.string ⟨(l'.take m).toArray⟩) (fun ρ h1 kk w1 (hg : Grow _ w1) hb hf => by have cv := conv_bytes w1 (c := c') (hlm7.below hg); go_simp) ?_
      refine fl_op2 62 (by rfl) (by decide) (wanted_if hops 8 true (by rfl) 53 (by rfl) true (by rfl)) (by rw [hK.out]; rfl) (by rfl) (.tmp 57) (.tmp 61) (.string ⟨l.toArray⟩) (.string ⟨(l'.take m).toArray⟩) (by rfl) (by rfl) (.string ⟨(l ++ l'.take m).toArray⟩) (fun ρ h1 h2 kk w1 (hg : Grow _ w1) hb hf => by have ha := bytes_append l (l'.take m); first | (go_simp; done) | (go_simp; omega)) ?_
      refine fl_op2 63 (by rfl) (by decide) (wanted_if hops 8 true (by rfl) 53 (by rfl) true (by rfl)) (by rw [hK.out]; rfl) (by rfl) (.tmp 55) (.tmp 62) (.string ⟨(l ++ l'.take m).toArray⟩) (.string ⟨(l ++ l'.take m).toArray⟩) (by rfl) (by rfl) (.bool true) (fun ρ h1 h2 kk w1 (hg : Grow _ w1) hb hf => by go_simp) ?_
      refine fl_pick 64 (by rfl) (by decide) (wanted_none (by rfl)) (by rw [hK.out]; rfl) (by rfl) _ _ _ (by rfl) true (by rfl) (.bool true) (by rfl) ?_
      refine fl_mv 65 (by rfl) (by decide) (wanted_none (by rfl)) (by rw [hK.out]; rfl) (by rfl) _ (Or.inl (by rfl)) (.bool true) (by rfl) ?_
      refine fl_mv 66 (by rfl) (by decide) (wanted_if hops 20 true (by rfl) 65 (by rfl) true (by rfl)) (by rw [hK.out]; rfl) (by rfl) _ (Or.inl (by rfl)) (.pointer (some ⟨d, 0, none⟩)) (by rfl) ?_
      refine fl_call 67 (by rfl) (by decide) (wanted_if hops 20 true (by rfl) 65 (by rfl) true (by rfl)) (.int .i64 0) (by rw [hK.out]; rfl) 15 _ _ (by rfl) [.pointer (some ⟨d, 0, none⟩)] (by rfl) k15 (fun kk w1 (hg : Grow _ w1) hb hf => calls_behind (by rfl) (by exact hWa w1 hg)) ?_
      refine fl_op2 68 (by rfl) (by decide) (wanted_if hops 20 true (by rfl) 65 (by rfl) true (by rfl)) (by rw [hK.out]; rfl) (by rfl) (.tmp 67) (.const (.int .i64 0)) (.int .i64 0) (.int .i64 0) (by rfl) (by rfl) (.bool true) (fun ρ h1 h2 kk w1 (hg : Grow _ w1) hb hf => by go_simp) ?_
      refine fl_pick 69 (by rfl) (by decide) (wanted_none (by rfl)) (by rw [hK.out]; rfl) (by rfl) _ _ _ (by rfl) true (by rfl) (.bool true) (by rfl) ?_
      refine fl_mv 70 (by rfl) (by decide) (wanted_none (by rfl)) (by rw [hK.out]; rfl) (by rfl) _ (Or.inl (by rfl)) (.bool true) (by rfl) ?_
      refine fl_mv 71 (by rfl) (by decide) (wanted_if hops 25 true (by rfl) 70 (by rfl) true (by rfl)) (by rw [hK.out]; rfl) (by rfl) _ (Or.inl (by rfl)) (.int .i64 keep) (by rfl) ?_
      refine fl_op2 72 (by rfl) (by decide) (wanted_if hops 25 true (by rfl) 70 (by rfl) true (by rfl)) (by rw [hK.out]; rfl) (by rfl) (.tmp 71) (.const (.int .i64 0)) (.int .i64 keep) (.int .i64 0) (by rfl) (by rfl) (.bool false) (fun ρ h1 h2 kk w1 (hg : Grow _ w1) hb hf => by first | (go_simp; done) | (go_simp; omega)) ?_
      refine fl_mv 73 (by rfl) (by decide) (wanted_if hops 25 true (by rfl) 70 (by rfl) true (by rfl)) (by rw [hK.out]; rfl) (by rfl) _ (Or.inl (by rfl)) (.bool false) (by rfl) ?_
      refine fl_mv 74 (by rfl) (by decide) (wanted_if hops 28 false (by rfl) 73 (by rfl) false (by rfl)) (by rw [hK.out]; rfl) (by rfl) _ (Or.inl (by rfl)) (.int .i64 (m : Int)) (by rfl) ?_
      refine fl_op2 75 (by rfl) (by decide) (wanted_if hops 28 false (by rfl) 73 (by rfl) false (by rfl)) (by rw [hK.out]; rfl) (by rfl) (.tmp 74) (.const (.int .i64 0)) (.int .i64 (m : Int)) (.int .i64 0) (by rfl) (by rfl) (.bool true) (fun ρ h1 h2 kk w1 (hg : Grow _ w1) hb hf => by have hm0 := HM0.out; first | (go_simp; done) | (go_simp; omega)) ?_
      refine fl_pick 76 (by rfl) (by decide) (wanted_if hops 25 true (by rfl) 70 (by rfl) true (by rfl)) (by rw [hK.out]; rfl) (by rfl) _ _ _ (by rfl) false (by rfl) (.bool true) (by rfl) ?_
      refine fl_pick 77 (by rfl) (by decide) (wanted_none (by rfl)) (by rw [hK.out]; rfl) (by rfl) _ _ _ (by rfl) true (by rfl) (.bool true) (by rfl) ?_
      refine fl_mv 78 (by rfl) (by decide) (wanted_none (by rfl)) (by rw [hK.out]; rfl) (by rfl) _ (Or.inl (by rfl)) (.bool true) (by rfl) ?_
      refine fl_mv 79 (by rfl) (by decide) (wanted_if hops 33 true (by rfl) 78 (by rfl) true (by rfl)) (by rw [hK.out]; rfl) (by rfl) _ (Or.inl (by rfl)) (.int .i64 keep) (by rfl) ?_
      refine fl_mv 80 (by rfl) (by decide) (wanted_if hops 33 true (by rfl) 78 (by rfl) true (by rfl)) (by rw [hK.out]; rfl) (by rfl) _ (Or.inl (by rfl)) (.slice Z n' c') (by rfl) ?_
      refine fl_op1 81 (by rfl) (by decide) (wanted_if hops 33 true (by rfl) 78 (by rfl) true (by rfl)) (by rw [hK.out]; rfl) (by rfl) (.tmp 80) (.slice Z n' c') (by rfl) (.int .i64 (n' : Int)) (fun ρ h1 kk w1 (hg : Grow _ w1) hb hf => by go_simp) ?_
      refine fl_op2 82 (by rfl) (by decide) (wanted_if hops 33 true (by rfl) 78 (by rfl) true (by rfl)) (by rw [hK.out]; rfl) (by rfl) (.tmp 79) (.tmp 81) (.int .i64 keep) (.int .i64 (n' : Int)) (by rfl) (by rfl) (.bool true) (fun ρ h1 h2 kk w1 (hg : Grow _ w1) hb hf => by first | (go_simp; done) | (go_simp; omega)) ?_
      refine fl_mv 83 (by rfl) (by decide) (wanted_if hops 33 true (by rfl) 78 (by rfl) true (by rfl)) (by rw [hK.out]; rfl) (by rfl) _ (Or.inl (by rfl)) (.bool true) (by rfl) ?_
      refine fl_skip 84 (by rfl) (by decide) (wanted_if hops 38 false (by rfl) 83 (by rfl) true (by rfl)) (by rfl) ?_
      refine fl_skip 85 (by rfl) (by decide) (wanted_if hops 38 false (by rfl) 83 (by rfl) true (by rfl)) (by rfl) ?_
      refine fl_skip 86 (by rfl) (by decide) (wanted_if hops 38 false (by rfl) 83 (by rfl) true (by rfl)) (by rfl) ?_
      refine fl_skip 87 (by rfl) (by decide) (wanted_if hops 38 false (by rfl) 83 (by rfl) true (by rfl)) (by rfl) ?_
      refine fl_pick 88 (by rfl) (by decide) (wanted_if hops 33 true (by rfl) 78 (by rfl) true (by rfl)) (by rw [hK.out]; rfl) (by rfl) _ _ _ (by rfl) true (by rfl) (.bool true) (by rfl) ?_
      refine fl_pick 89 (by rfl) (by decide) (wanted_none (by rfl)) (by rw [hK.out]; rfl) (by rfl) _ _ _ (by rfl) true (by rfl) (.bool true) (by rfl) ?_
      refine fl_mv 90 (by rfl) (by decide) (wanted_none (by rfl)) (by rw [hK.out]; rfl) (by rfl) _ (Or.inl (by rfl)) (.bool true) (by rfl) ?_
      refine fl_call 91 (by rfl) (by decide) (wanted_if hops 45 true (by rfl) 90 (by rfl) true (by rfl)) (.bool true) (by rw [hK.out]; rfl) 8 _ _ (by rfl) [] (by rfl) k8 (fun kk w1 (hg : Grow _ w1) hb hf => calls_behind (by rfl) (by exact known_any w1)) ?_
      refine fl_pick 92 (by rfl) (by decide) (wanted_none (by rfl)) (by rw [hK.out]; rfl) (by rfl) _ _ _ (by rfl) true (by rfl) (.bool true) (by rfl) ?_
      refine fl_mv 6 (by rfl) (by decide) (wanted_none (by rfl)) (by rw [hK.out]; rfl) (by rfl) _ (Or.inr (by rfl)) (.bool true) (by rfl) ?_
      refine fl_end (fun _ _ w1 (hg : Grow _ w1) _ hfacts => hT _ _ ?_)
      clear hops hA' hK hT
      simp only [putsL, Act.put, List.setIfInBounds_toArray, List.set_cons_zero, List.set_cons_succ, List.drop_succ_cons, List.drop_zero]
      go_wp2_with fail
      go_ret
      exact ⟨rfl, below_trans hb7 hg hb7.size⟩
    · have HMN : Hid ((m : Int) = n') := Lib.hid (by have := HM.out; omega)
      refine wp_region_flow 49 93 [(22, .inl (.int .i64 0)), (46, .inl (.bool true))] rfl rfl (by kernel_rfl) (by kernel_rfl) (by kernel_rfl) ?_ ?_
      · intro x hx φ he
        simp only [List.mem_cons, List.not_mem_nil, or_false] at hx
        rcases hx with rfl | rfl <;> cases he
      intro ops' A' K' T hops hA' hK hT
      refine fl_mv 45 (by rfl) (by decide) (wanted_none (by rfl)) (by rw [hK.out]; rfl) (by rfl) _ (Or.inl (by rfl)) (.int .i64 (m : Int)) (by rfl) ?_
      refine fl_op2 46 (by rfl) (by decide) (wanted_none (by rfl)) (by rw [hK.out]; rfl) (by rfl) (.tmp 45) (.const (.int .i64 0)) (.int .i64 (m : Int)) (.int .i64 0) (by rfl) (by rfl) (.bool true) (fun ρ h1 h2 kk w1 (hg : Grow _ w1) hb hf => by first | (go_simp; done) | (go_simp; omega)) ?_
      refine fl_mv 47 (by rfl) (by decide) (wanted_none (by rfl)) (by rw [hK.out]; rfl) (by rfl) _ (Or.inl (by rfl)) (.bool true) (by rfl) ?_
      refine fl_mv 48 (by rfl) (by decide) (wanted_if hops 2 true (by rfl) 47 (by rfl) true (by rfl)) (by rw [hK.out]; rfl) (by rfl) _ (Or.inl (by rfl)) (.int .i64 (m : Int)) (by rfl) ?_
      refine fl_mv 49 (by rfl) (by decide) (wanted_if hops 2 true (by rfl) 47 (by rfl) true (by rfl)) (by rw [hK.out]; rfl) (by rfl) _ (Or.inl (by rfl)) (.slice Z n' c') (by rfl) ?_
      refine fl_op1 50 (by rfl) (by decide) (wanted_if hops 2 true (by rfl) 47 (by rfl) true (by rfl)) (by rw [hK.out]; rfl) (by rfl) (.tmp 49) (.slice Z n' c') (by rfl) (.int .i64 (n' : Int)) (fun ρ h1 kk w1 (hg : Grow _ w1) hb hf => by go_simp) ?_
      refine fl_op2 51 (by rfl) (by decide) (wanted_if hops 2 true (by rfl) 47 (by rfl) true (by rfl)) (by rw [hK.out]; rfl) (by rfl) (.tmp 48) (.tmp 50) (.int .i64 (m : Int)) (.int .i64 (n' : Int)) (by rfl) (by rfl) (.bool true) (fun ρ h1 h2 kk w1 (hg : Grow _ w1) hb hf => by first | (go_simp; done) | (go_simp; omega)) ?_
      refine fl_pick 52 (by rfl) (by decide) (wanted_none (by rfl)) (by rw [hK.out]; rfl) (by rfl) _ _ _ (by rfl) true (by rfl) (.bool true) (by rfl) ?_
      refine fl_mv 53 (by rfl) (by decide) (wanted_none (by rfl)) (by rw [hK.out]; rfl) (by rfl) _ (Or.inl (by rfl)) (.bool true) (by rfl) ?_
      refine fl_mv 54 (by rfl) (by decide) (wanted_if hops 8 true (by rfl) 53 (by rfl) true (by rfl)) (by rw [hK.out]; rfl) (by rfl) _ (Or.inl (by rfl)) (v7) (by rfl) ?_
      refine fl_op1 55 (by rfl) (by decide) (wanted_if hops 8 true (by rfl) 53 (by rfl) true (by rfl)) (by rw [hK.out]; rfl) (by rfl) (.tmp 54) (v7) (by rfl) (.string ⟨(l ++ l'.take m).toArray⟩) (fun ρ h1 kk w1 (hg : Grow _ w1) hb hf => by have cv := conv_is w1 (hv7.below hg); go_simp) ?_
      refine fl_mv 56 (by rfl) (by decide) (wanted_if hops 8 true (by rfl) 53 (by rfl) true (by rfl)) (by rw [hK.out]; rfl) (by rfl) _ (Or.inl (by rfl)) (.slice A n c) (by rfl) ?_
      refine fl_op1 57 (by rfl) (by decide) (wanted_if hops 8 true (by rfl) 53 (by rfl) true (by rfl)) (by rw [hK.out]; rfl) (by rfl) (.tmp 56) (.slice A n c) (by rfl) (.string ⟨l.toArray⟩) (fun ρ h1 kk w1 (hg : Grow _ w1) hb hf => by have cv := conv_bytes w1 (c := c) (hla7.below hg); go_simp) ?_
      refine fl_mv 58 (by rfl) (by decide) (wanted_if hops 8 true (by rfl) 53 (by rfl) true (by rfl)) (by rw [hK.out]; rfl) (by rfl) _ (Or.inl (by rfl)) (.slice Z n' c') (by rfl) ?_
      refine fl_mv 59 (by rfl) (by decide) (wanted_if hops 8 true (by rfl) 53 (by rfl) true (by rfl)) (by rw [hK.out]; rfl) (by rfl) _ (Or.inl (by rfl)) (.int .i64 (m : Int)) (by rfl) ?_
      refine fl_op2 60 (by rfl) (by decide) (wanted_if hops 8 true (by rfl) 53 (by rfl) true (by rfl)) (by rw [hK.out]; rfl) (by rfl) (.tmp 58) (.tmp 59) (.slice Z n' c') (.int .i64 (m : Int)) (by rfl) (by rfl) (.slice Z m c') (fun ρ h1 h2 kk w1 (hg : Grow _ w1) hb hf => by go_simp) ?_
      refine fl_op1 61 (by rfl) (by decide) (wanted_if hops 8 true (by rfl) 53 (by rfl) true (by rfl)) (by rw [hK.out]; rfl) (by rfl) (.tmp 60) (.slice Z m c') (by rfl) (.string ⟨(l'.take m).toArray⟩) (fun ρ h1 kk w1 (hg : Grow _ w1) hb hf => by have cv := conv_bytes w1 (c := c') (hlm7.below hg); go_simp) ?_
      refine fl_op2 62 (by rfl) (by decide) (wanted_if hops 8 true (by rfl) 53 (by rfl) true (by rfl)) (by rw [hK.out]; rfl) (by rfl) (.tmp 57) (.tmp 61) (.string ⟨l.toArray⟩) (.string ⟨(l'.take m).toArray⟩) (by rfl) (by rfl) (.string ⟨(l ++ l'.take m).toArray⟩) (fun ρ h1 h2 kk w1 (hg : Grow _ w1) hb hf => by have ha := bytes_append l (l'.take m); first | (go_simp; done) | (go_simp; omega)) ?_
      refine fl_op2 63 (by rfl) (by decide) (wanted_if hops 8 true (by rfl) 53 (by rfl) true (by rfl)) (by rw [hK.out]; rfl) (by rfl) (.tmp 55) (.tmp 62) (.string ⟨(l ++ l'.take m).toArray⟩) (.string ⟨(l ++ l'.take m).toArray⟩) (by rfl) (by rfl) (.bool true) (fun ρ h1 h2 kk w1 (hg : Grow _ w1) hb hf => by go_simp) ?_
      refine fl_pick 64 (by rfl) (by decide) (wanted_none (by rfl)) (by rw [hK.out]; rfl) (by rfl) _ _ _ (by rfl) true (by rfl) (.bool true) (by rfl) ?_
      refine fl_mv 65 (by rfl) (by decide) (wanted_none (by rfl)) (by rw [hK.out]; rfl) (by rfl) _ (Or.inl (by rfl)) (.bool true) (by rfl) ?_
      refine fl_mv 66 (by rfl) (by decide) (wanted_if hops 20 true (by rfl) 65 (by rfl) true (by rfl)) (by rw [hK.out]; rfl) (by rfl) _ (Or.inl (by rfl)) (.pointer (some ⟨d, 0, none⟩)) (by rfl) ?_
      refine fl_call 67 (by rfl) (by decide) (wanted_if hops 20 true (by rfl) 65 (by rfl) true (by rfl)) (.int .i64 0) (by rw [hK.out]; rfl) 15 _ _ (by rfl) [.pointer (some ⟨d, 0, none⟩)] (by rfl) k15 (fun kk w1 (hg : Grow _ w1) hb hf => calls_behind (by rfl) (by exact hWa w1 hg)) ?_
      refine fl_op2 68 (by rfl) (by decide) (wanted_if hops 20 true (by rfl) 65 (by rfl) true (by rfl)) (by rw [hK.out]; rfl) (by rfl) (.tmp 67) (.const (.int .i64 0)) (.int .i64 0) (.int .i64 0) (by rfl) (by rfl) (.bool true) (fun ρ h1 h2 kk w1 (hg : Grow _ w1) hb hf => by go_simp) ?_
      refine fl_pick 69 (by rfl) (by decide) (wanted_none (by rfl)) (by rw [hK.out]; rfl) (by rfl) _ _ _ (by rfl) true (by rfl) (.bool true) (by rfl) ?_
      refine fl_mv 70 (by rfl) (by decide) (wanted_none (by rfl)) (by rw [hK.out]; rfl) (by rfl) _ (Or.inl (by rfl)) (.bool true) (by rfl) ?_
      refine fl_mv 71 (by rfl) (by decide) (wanted_if hops 25 true (by rfl) 70 (by rfl) true (by rfl)) (by rw [hK.out]; rfl) (by rfl) _ (Or.inl (by rfl)) (.int .i64 keep) (by rfl) ?_
      refine fl_op2 72 (by rfl) (by decide) (wanted_if hops 25 true (by rfl) 70 (by rfl) true (by rfl)) (by rw [hK.out]; rfl) (by rfl) (.tmp 71) (.const (.int .i64 0)) (.int .i64 keep) (.int .i64 0) (by rfl) (by rfl) (.bool false) (fun ρ h1 h2 kk w1 (hg : Grow _ w1) hb hf => by first | (go_simp; done) | (go_simp; omega)) ?_
      refine fl_mv 73 (by rfl) (by decide) (wanted_if hops 25 true (by rfl) 70 (by rfl) true (by rfl)) (by rw [hK.out]; rfl) (by rfl) _ (Or.inl (by rfl)) (.bool false) (by rfl) ?_
      refine fl_mv 74 (by rfl) (by decide) (wanted_if hops 28 false (by rfl) 73 (by rfl) false (by rfl)) (by rw [hK.out]; rfl) (by rfl) _ (Or.inl (by rfl)) (.int .i64 (m : Int)) (by rfl) ?_
      refine fl_op2 75 (by rfl) (by decide) (wanted_if hops 28 false (by rfl) 73 (by rfl) false (by rfl)) (by rw [hK.out]; rfl) (by rfl) (.tmp 74) (.const (.int .i64 0)) (.int .i64 (m : Int)) (.int .i64 0) (by rfl) (by rfl) (.bool true) (fun ρ h1 h2 kk w1 (hg : Grow _ w1) hb hf => by have hm0 := HM0.out; first | (go_simp; done) | (go_simp; omega)) ?_
      refine fl_pick 76 (by rfl) (by decide) (wanted_if hops 25 true (by rfl) 70 (by rfl) true (by rfl)) (by rw [hK.out]; rfl) (by rfl) _ _ _ (by rfl) false (by rfl) (.bool true) (by rfl) ?_
      refine fl_pick 77 (by rfl) (by decide) (wanted_none (by rfl)) (by rw [hK.out]; rfl) (by rfl) _ _ _ (by rfl) true (by rfl) (.bool true) (by rfl) ?_
      refine fl_mv 78 (by rfl) (by decide) (wanted_none (by rfl)) (by rw [hK.out]; rfl) (by rfl) _ (Or.inl (by rfl)) (.bool true) (by rfl) ?_
      refine fl_mv 79 (by rfl) (by decide) (wanted_if hops 33 true (by rfl) 78 (by rfl) true (by rfl)) (by rw [hK.out]; rfl) (by rfl) _ (Or.inl (by rfl)) (.int .i64 keep) (by rfl) ?_
      refine fl_mv 80 (by rfl) (by decide) (wanted_if hops 33 true (by rfl) 78 (by rfl) true (by rfl)) (by rw [hK.out]; rfl) (by rfl) _ (Or.inl (by rfl)) (.slice Z n' c') (by rfl) ?_
      refine fl_op1 81 (by rfl) (by decide) (wanted_if hops 33 true (by rfl) 78 (by rfl) true (by rfl)) (by rw [hK.out]; rfl) (by rfl) (.tmp 80) (.slice Z n' c') (by rfl) (.int .i64 (n' : Int)) (fun ρ h1 kk w1 (hg : Grow _ w1) hb hf => by go_simp) ?_
      refine fl_op2 82 (by rfl) (by decide) (wanted_if hops 33 true (by rfl) 78 (by rfl) true (by rfl)) (by rw [hK.out]; rfl) (by rfl) (.tmp 79) (.tmp 81) (.int .i64 keep) (.int .i64 (n' : Int)) (by rfl) (by rfl) (.bool false) (fun ρ h1 h2 kk w1 (hg : Grow _ w1) hb hf => by first | (go_simp; done) | (go_simp; omega)) ?_
      refine fl_mv 83 (by rfl) (by decide) (wanted_if hops 33 true (by rfl) 78 (by rfl) true (by rfl)) (by rw [hK.out]; rfl) (by rfl) _ (Or.inl (by rfl)) (.bool false) (by rfl) ?_
      refine fl_mv 84 (by rfl) (by decide) (wanted_if hops 38 false (by rfl) 83 (by rfl) false (by rfl)) (by rw [hK.out]; rfl) (by rfl) _ (Or.inl (by rfl)) (.int .i64 (m : Int)) (by rfl) ?_
      refine fl_mv 85 (by rfl) (by decide) (wanted_if hops 38 false (by rfl) 83 (by rfl) false (by rfl)) (by rw [hK.out]; rfl) (by rfl) _ (Or.inl (by rfl)) (.slice Z n' c') (by rfl) ?_
      refine fl_op1 86 (by rfl) (by decide) (wanted_if hops 38 false (by rfl) 83 (by rfl) false (by rfl)) (by rw [hK.out]; rfl) (by rfl) (.tmp 85) (.slice Z n' c') (by rfl) (.int .i64 (n' : Int)) (fun ρ h1 kk w1 (hg : Grow _ w1) hb hf => by go_simp) ?_
      refine fl_op2 87 (by rfl) (by decide) (wanted_if hops 38 false (by rfl) 83 (by rfl) false (by rfl)) (by rw [hK.out]; rfl) (by rfl) (.tmp 84) (.tmp 86) (.int .i64 (m : Int)) (.int .i64 (n' : Int)) (by rfl) (by rfl) (.bool true) (fun ρ h1 h2 kk w1 (hg : Grow _ w1) hb hf => by have hmn := HMN.out; first | (go_simp; done) | (go_simp; omega)) ?_
      refine fl_pick 88 (by rfl) (by decide) (wanted_if hops 33 true (by rfl) 78 (by rfl) true (by rfl)) (by rw [hK.out]; rfl) (by rfl) _ _ _ (by rfl) false (by rfl) (.bool true) (by rfl) ?_
      refine fl_pick 89 (by rfl) (by decide) (wanted_none (by rfl)) (by rw [hK.out]; rfl) (by rfl) _ _ _ (by rfl) true (by rfl) (.bool true) (by rfl) ?_
      refine fl_mv 90 (by rfl) (by decide) (wanted_none (by rfl)) (by rw [hK.out]; rfl) (by rfl) _ (Or.inl (by rfl)) (.bool true) (by rfl) ?_
      refine fl_call 91 (by rfl) (by decide) (wanted_if hops 45 true (by rfl) 90 (by rfl) true (by rfl)) (.bool true) (by rw [hK.out]; rfl) 8 _ _ (by rfl) [] (by rfl) k8 (fun kk w1 (hg : Grow _ w1) hb hf => calls_behind (by rfl) (by exact known_any w1)) ?_
      refine fl_pick 92 (by rfl) (by decide) (wanted_none (by rfl)) (by rw [hK.out]; rfl) (by rfl) _ _ _ (by rfl) true (by rfl) (.bool true) (by rfl) ?_
      refine fl_mv 6 (by rfl) (by decide) (wanted_none (by rfl)) (by rw [hK.out]; rfl) (by rfl) _ (Or.inr (by rfl)) (.bool true) (by rfl) ?_
      refine fl_end (fun _ _ w1 (hg : Grow _ w1) _ hfacts => hT _ _ ?_)
      clear hops hA' hK hT
      simp only [putsL, Act.put, List.setIfInBounds_toArray, List.set_cons_zero, List.set_cons_succ, List.drop_succ_cons, List.drop_zero]
      go_wp2_with fail
      go_ret
      exact ⟨rfl, below_trans hb7 hg hb7.size⟩
set_option maxRecDepth 100000 in
set_option maxHeartbeats 4000000 in
theorem keeps_sg (w : World) (A : Option Addr) (n c : Nat) (l : List UInt8) (hb : Bytes w w.heap.size A n l) (hnc : n ≤ c) (Z : Option Addr) (n' c' : Nat) (l' : List UInt8) (hb' : Bytes w w.heap.size Z n' l') (hnc' : n' ≤ c') (keep : Int) (hkeep : -9223372036854775808 ≤ keep ∧ keep ≤ 9223372036854775807)
    (hn : n ≤ 300) (hn' : 300 < n') :
    Calls Try.prog 5 #[.slice A n c, .slice Z n' c', .int .i64 keep] w fun e w' => e = .returned (.bool true) ∧ Grow w w' := by
  have hla := hb
  obtain ⟨lb, hlb⟩ : ∃ lb, Bytes w w.heap.size Z 300 lb := ⟨l'.take 300, by
    have := Reads.take hb' (k := 300) (by omega)
    unfold Bytes
    rw [u8s_take]; exact this⟩
  have hLA := hla.len
  have hLB := hlb.len
  have k15 : ∀ (vs : Array Value) (w : World), (callFunc 15 vs).run Try.prog w = .ok (.enter 15 vs) w := fun vs w => by go_simp
  have k8 : ∀ (vs : Array Value) (w : World), (callFunc 8 vs).run Try.prog w = .ok (.enter 8 vs) w := fun vs w => by go_simp
  go_enter Try.func5, Try.ntmps5
  go_wp2_with (go_at_call 10; refine (New_any _).mono ?_; rintro e w1 ⟨rfl, hD1, hg1⟩)
  obtain ⟨d, HD⟩ : ∃ d : Nat, Hid (d = w.heap.size) := ⟨_, rfl⟩
  rw [← HD.out] at hD1 ⊢
  have hs1 := hg1.size
  have hs0 : Solo (fun b => w.heap.size ≤ b) (DiskAt 45 d [] 0) w1 := Solo.make (V := New w w1) hD1 (fun b hb => by omega) (fun b hb => hb)
  clear hD1
  go_at_call 11
  refine (hs0.call (Append_yes _ d [] 0 A n c l (Reads.more (Reads.below hla hg1) hg1.size) (fits_of (by simp; omega)))).mono ?_
  rintro e w3 ⟨rfl, hj3, hs3⟩
  have hs3 : Solo (fun b => w.heap.size ≤ b) (DiskAt 45 d l 0) w3 := hs3
  have hb3 := Below.trans hg1 (hj3.below (fun _ h => h) hg1.size)
  clear hs0 hj3
  go_wp2_with (go_at_call 12; refine (hs3.call (Sync_any _ d l 0)).mono ?_; rintro e w4 ⟨rfl, hj4, hs4⟩)
  have hb4 := hb3.trans (hj4.below (fun _ h => h) hb3.size)
  clear hs3 hj4 hb3
  go_at_call 11
  refine (hs4.call (Append_yes _ d l l.length Z 300 c' lb (Reads.more (Reads.below hlb hb4) hb4.size) (fits_of (by omega)))).mono ?_
  rintro e w5 ⟨rfl, hj5, hs5⟩
  have hb5 := hb4.trans (hj5.below (fun _ h => h) hb4.size)
  clear hs4 hj5 hb4
  obtain ⟨g, m, hm, hgm, hH⟩ := keeps_plain l lb keep
  rw [hLB] at hgm hm
  have hmb : (m : Int) ≤ 300 := by omega
  have hng : (300 : Int) - g = (m : Int) := by omega
  have hgr : 0 ≤ g ∧ g ≤ 300 := by omega
  have HM := Lib.hid hm
  clear hm hgm
  go_wp2_with (go_at_call 13; refine (hs5.call (crash_at _ d (l ++ lb) l.length keep hkeep (l ++ lb.take m) (l.length + m) g hH)).mono ?_; rintro e w6 ⟨rfl, hj6, hs6⟩)
  have hb6 := hb5.trans (hj6.below (fun _ h => h) hb5.size)
  clear hs5 hj6 hb5 hH
  go_at_call 14
  obtain ⟨_, V, h1, hV⟩ := hs6
  refine (All_is _ d _ _ V h1).mono ?_
  rintro e w7 ⟨v7, rfl, hg7, hv7⟩
  have hb7 := below_trans hb6 hg7 hb6.size
  have hWa : ∀ w1, Grow w7 w1 → Calls Try.prog 15 #[.pointer (some ⟨d, 0, none⟩)] w1 fun e w' => e = .returned (.int .i64 0) ∧ Grow w1 w' := fun w1 hg => by
    have := Waits_any w1 d _ _ V (DiskAt.framed _ _ _ _ w6 w1 V h1 fun b hb => (hg7.trans hg).block b (hV b hb).2)
    rwa [show ((l ++ lb.take m).length : Int) - ((l.length + m : Nat) : Int) = 0 by rw [List.length_append, List.length_take]; omega] at this
  have hla7 := Reads.more (Reads.below hla hb7) hb7.size
  have hlm7 : Bytes w7 w7.heap.size Z m (lb.take m) := by
    have := Reads.take (Reads.more (Reads.below hlb hb7) hb7.size) (k := m) (by omega)
    unfold Bytes
    rw [u8s_take]; exact this
  have hck : ¬ c' < m := by omega
  go_wp2_with fail
  try rw [hng]
  clear hng
  by_cases hk0 : 0 < keep
  · by_cases hk1 : keep < 300
    · skip
      refine wp_region_flow 49 93 [(22, .inl (.int .i64 0)), (46, .inl (.bool true))] rfl rfl (by kernel_rfl) (by kernel_rfl) (by kernel_rfl) ?_ ?_
      · intro x hx φ he
        simp only [List.mem_cons, List.not_mem_nil, or_false] at hx
        rcases hx with rfl | rfl <;> cases he
      intro ops' A' K' T hops hA' hK hT
      refine fl_mv 45 (by rfl) (by decide) (wanted_none (by rfl)) (by rw [hK.out]; rfl) (by rfl) _ (Or.inl (by rfl)) (.int .i64 (m : Int)) (by rfl) ?_
      refine fl_op2 46 (by rfl) (by decide) (wanted_none (by rfl)) (by rw [hK.out]; rfl) (by rfl) (.tmp 45) (.const (.int .i64 0)) (.int .i64 (m : Int)) (.int .i64 0) (by rfl) (by rfl) (.bool true) (fun ρ h1 h2 kk w1 (hg : Grow _ w1) hb hf => by first | (go_simp; done) | (go_simp; omega)) ?_
      refine fl_mv 47 (by rfl) (by decide) (wanted_none (by rfl)) (by rw [hK.out]; rfl) (by rfl) _ (Or.inl (by rfl)) (.bool true) (by rfl) ?_
      refine fl_mv 48 (by rfl) (by decide) (wanted_if hops 2 true (by rfl) 47 (by rfl) true (by rfl)) (by rw [hK.out]; rfl) (by rfl) _ (Or.inl (by rfl)) (.int .i64 (m : Int)) (by rfl) ?_
      refine fl_mv 49 (by rfl) (by decide) (wanted_if hops 2 true (by rfl) 47 (by rfl) true (by rfl)) (by rw [hK.out]; rfl) (by rfl) _ (Or.inl (by rfl)) (.slice Z 300 c') (by rfl) ?_
      refine fl_op1 50 (by rfl) (by decide) (wanted_if hops 2 true (by rfl) 47 (by rfl) true (by rfl)) (by rw [hK.out]; rfl) (by rfl) (.tmp 49) (.slice Z 300 c') (by rfl) (.int .i64 (300 : Int)) (fun ρ h1 kk w1 (hg : Grow _ w1) hb hf => by go_simp) ?_
      refine fl_op2 51 (by rfl) (by decide) (wanted_if hops 2 true (by rfl) 47 (by rfl) true (by rfl)) (by rw [hK.out]; rfl) (by rfl) (.tmp 48) (.tmp 50) (.int .i64 (m : Int)) (.int .i64 (300 : Int)) (by rfl) (by rfl) (.bool true) (fun ρ h1 h2 kk w1 (hg : Grow _ w1) hb hf => by first | (go_simp; done) | (go_simp; omega)) ?_
      refine fl_pick 52 (by rfl) (by decide) (wanted_none (by rfl)) (by rw [hK.out]; rfl) (by rfl) _ _ _ (by rfl) true (by rfl) (.bool true) (by rfl) ?_
      refine fl_mv 53 (by rfl) (by decide) (wanted_none (by rfl)) (by rw [hK.out]; rfl) (by rfl) _ (Or.inl (by rfl)) (.bool true) (by rfl) ?_
      refine fl_mv 54 (by rfl) (by decide) (wanted_if hops 8 true (by rfl) 53 (by rfl) true (by rfl)) (by rw [hK.out]; rfl) (by rfl) _ (Or.inl (by rfl)) (v7) (by rfl) ?_
      refine fl_op1 55 (by rfl) (by decide) (wanted_if hops 8 true (by rfl) 53 (by rfl) true (by rfl)) (by rw [hK.out]; rfl) (by rfl) (.tmp 54) (v7) (by rfl) (.string ⟨(l ++ lb.take m).toArray⟩) (fun ρ h1 kk w1 (hg : Grow _ w1) hb hf => by have cv := conv_is w1 (hv7.below hg); go_simp) ?_
      refine fl_mv 56 (by rfl) (by decide) (wanted_if hops 8 true (by rfl) 53 (by rfl) true (by rfl)) (by rw [hK.out]; rfl) (by rfl) _ (Or.inl (by rfl)) (.slice A n c) (by rfl) ?_
      refine fl_op1 57 (by rfl) (by decide) (wanted_if hops 8 true (by rfl) 53 (by rfl) true (by rfl)) (by rw [hK.out]; rfl) (by rfl) (.tmp 56) (.slice A n c) (by rfl) (.string ⟨l.toArray⟩) (fun ρ h1 kk w1 (hg : Grow _ w1) hb hf => by have cv := conv_bytes w1 (c := c) (hla7.below hg); go_simp) ?_
      refine fl_mv 58 (by rfl) (by decide) (wanted_if hops 8 true (by rfl) 53 (by rfl) true (by rfl)) (by rw [hK.out]; rfl) (by rfl) _ (Or.inl (by rfl)) (.slice Z 300 c') (by rfl) ?_
      refine fl_mv 59 (by rfl) (by decide) (wanted_if hops 8 true (by rfl) 53 (by rfl) true (by rfl)) (by rw [hK.out]; rfl) (by rfl) _ (Or.inl (by rfl)) (.int .i64 (m : Int)) (by rfl) ?_
      refine fl_op2 60 (by rfl) (by decide) (wanted_if hops 8 true (by rfl) 53 (by rfl) true (by rfl)) (by rw [hK.out]; rfl) (by rfl) (.tmp 58) (.tmp 59) (.slice Z 300 c') (.int .i64 (m : Int)) (by rfl) (by rfl) (.slice Z m c') (fun ρ h1 h2 kk w1 (hg : Grow _ w1) hb hf => by go_simp) ?_
      refine fl_op1 61 (by rfl) (by decide) (wanted_if hops 8 true (by rfl) 53 (by rfl) true (by rfl)) (by rw [hK.out]; rfl) (by rfl) (.tmp 60) (.slice Z m c') (by rfl) (.string ⟨(lb.take m).toArray⟩) (fun ρ h1 kk w1 (hg : Grow _ w1) hb hf => by have cv := conv_bytes w1 (c := c') (hlm7.below hg); go_simp) ?_
      refine fl_op2 62 (by rfl) (by decide) (wanted_if hops 8 true (by rfl) 53 (by rfl) true (by rfl)) (by rw [hK.out]; rfl) (by rfl) (.tmp 57) (.tmp 61) (.string ⟨l.toArray⟩) (.string ⟨(lb.take m).toArray⟩) (by rfl) (by rfl) (.string ⟨(l ++ lb.take m).toArray⟩) (fun ρ h1 h2 kk w1 (hg : Grow _ w1) hb hf => by have ha := bytes_append l (lb.take m); first | (go_simp; done) | (go_simp; omega)) ?_
      refine fl_op2 63 (by rfl) (by decide) (wanted_if hops 8 true (by rfl) 53 (by rfl) true (by rfl)) (by rw [hK.out]; rfl) (by rfl) (.tmp 55) (.tmp 62) (.string ⟨(l ++ lb.take m).toArray⟩) (.string ⟨(l ++ lb.take m).toArray⟩) (by rfl) (by rfl) (.bool true) (fun ρ h1 h2 kk w1 (hg : Grow _ w1) hb hf => by go_simp) ?_
      refine fl_pick 64 (by rfl) (by decide) (wanted_none (by rfl)) (by rw [hK.out]; rfl) (by rfl) _ _ _ (by rfl) true (by rfl) (.bool true) (by rfl) ?_
      refine fl_mv 65 (by rfl) (by decide) (wanted_none (by rfl)) (by rw [hK.out]; rfl) (by rfl) _ (Or.inl (by rfl)) (.bool true) (by rfl) ?_
      refine fl_mv 66 (by rfl) (by decide) (wanted_if hops 20 true (by rfl) 65 (by rfl) true (by rfl)) (by rw [hK.out]; rfl) (by rfl) _ (Or.inl (by rfl)) (.pointer (some ⟨d, 0, none⟩)) (by rfl) ?_
      refine fl_call 67 (by rfl) (by decide) (wanted_if hops 20 true (by rfl) 65 (by rfl) true (by rfl)) (.int .i64 0) (by rw [hK.out]; rfl) 15 _ _ (by rfl) [.pointer (some ⟨d, 0, none⟩)] (by rfl) k15 (fun kk w1 (hg : Grow _ w1) hb hf => calls_behind (by rfl) (by exact hWa w1 hg)) ?_
      refine fl_op2 68 (by rfl) (by decide) (wanted_if hops 20 true (by rfl) 65 (by rfl) true (by rfl)) (by rw [hK.out]; rfl) (by rfl) (.tmp 67) (.const (.int .i64 0)) (.int .i64 0) (.int .i64 0) (by rfl) (by rfl) (.bool true) (fun ρ h1 h2 kk w1 (hg : Grow _ w1) hb hf => by go_simp) ?_
      refine fl_pick 69 (by rfl) (by decide) (wanted_none (by rfl)) (by rw [hK.out]; rfl) (by rfl) _ _ _ (by rfl) true (by rfl) (.bool true) (by rfl) ?_
      refine fl_mv 70 (by rfl) (by decide) (wanted_none (by rfl)) (by rw [hK.out]; rfl) (by rfl) _ (Or.inl (by rfl)) (.bool true) (by rfl) ?_
      refine fl_mv 71 (by rfl) (by decide) (wanted_if hops 25 true (by rfl) 70 (by rfl) true (by rfl)) (by rw [hK.out]; rfl) (by rfl) _ (Or.inl (by rfl)) (.int .i64 keep) (by rfl) ?_
      refine fl_op2 72 (by rfl) (by decide) (wanted_if hops 25 true (by rfl) 70 (by rfl) true (by rfl)) (by rw [hK.out]; rfl) (by rfl) (.tmp 71) (.const (.int .i64 0)) (.int .i64 keep) (.int .i64 0) (by rfl) (by rfl) (.bool true) (fun ρ h1 h2 kk w1 (hg : Grow _ w1) hb hf => by first | (go_simp; done) | (go_simp; omega)) ?_
      refine fl_mv 73 (by rfl) (by decide) (wanted_if hops 25 true (by rfl) 70 (by rfl) true (by rfl)) (by rw [hK.out]; rfl) (by rfl) _ (Or.inl (by rfl)) (.bool true) (by rfl) ?_
      refine fl_skip 74 (by rfl) (by decide) (wanted_if hops 28 false (by rfl) 73 (by rfl) true (by rfl)) (by rfl) ?_
      refine fl_skip 75 (by rfl) (by decide) (wanted_if hops 28 false (by rfl) 73 (by rfl) true (by rfl)) (by rfl) ?_
      refine fl_pick 76 (by rfl) (by decide) (wanted_if hops 25 true (by rfl) 70 (by rfl) true (by rfl)) (by rw [hK.out]; rfl) (by rfl) _ _ _ (by rfl) true (by rfl) (.bool true) (by rfl) ?_
      refine fl_pick 77 (by rfl) (by decide) (wanted_none (by rfl)) (by rw [hK.out]; rfl) (by rfl) _ _ _ (by rfl) true (by rfl) (.bool true) (by rfl) ?_
      refine fl_mv 78 (by rfl) (by decide) (wanted_none (by rfl)) (by rw [hK.out]; rfl) (by rfl) _ (Or.inl (by rfl)) (.bool true) (by rfl) ?_
      refine fl_mv 79 (by rfl) (by decide) (wanted_if hops 33 true (by rfl) 78 (by rfl) true (by rfl)) (by rw [hK.out]; rfl) (by rfl) _ (Or.inl (by rfl)) (.int .i64 keep) (by rfl) ?_
      refine fl_mv 80 (by rfl) (by decide) (wanted_if hops 33 true (by rfl) 78 (by rfl) true (by rfl)) (by rw [hK.out]; rfl) (by rfl) _ (Or.inl (by rfl)) (.slice Z 300 c') (by rfl) ?_
      refine fl_op1 81 (by rfl) (by decide) (wanted_if hops 33 true (by rfl) 78 (by rfl) true (by rfl)) (by rw [hK.out]; rfl) (by rfl) (.tmp 80) (.slice Z 300 c') (by rfl) (.int .i64 (300 : Int)) (fun ρ h1 kk w1 (hg : Grow _ w1) hb hf => by go_simp) ?_
      refine fl_op2 82 (by rfl) (by decide) (wanted_if hops 33 true (by rfl) 78 (by rfl) true (by rfl)) (by rw [hK.out]; rfl) (by rfl) (.tmp 79) (.tmp 81) (.int .i64 keep) (.int .i64 (300 : Int)) (by rfl) (by rfl) (.bool true) (fun ρ h1 h2 kk w1 (hg : Grow _ w1) hb hf => by first | (go_simp; done) | (go_simp; omega)) ?_
      refine fl_mv 83 (by rfl) (by decide) (wanted_if hops 33 true (by rfl) 78 (by rfl) true (by rfl)) (by rw [hK.out]; rfl) (by rfl) _ (Or.inl (by rfl)) (.bool true) (by rfl) ?_
      refine fl_skip 84 (by rfl) (by decide) (wanted_if hops 38 false (by rfl) 83 (by rfl) true (by rfl)) (by rfl) ?_
      refine fl_skip 85 (by rfl) (by decide) (wanted_if hops 38 false (by rfl) 83 (by rfl) true (by rfl)) (by rfl) ?_
      refine fl_skip 86 (by rfl) (by decide) (wanted_if hops 38 false (by rfl) 83 (by rfl) true (by rfl)) (by rfl) ?_
      refine fl_skip 87 (by rfl) (by decide) (wanted_if hops 38 false (by rfl) 83 (by rfl) true (by rfl)) (by rfl) ?_
      refine fl_pick 88 (by rfl) (by decide) (wanted_if hops 33 true (by rfl) 78 (by rfl) true (by rfl)) (by rw [hK.out]; rfl) (by rfl) _ _ _ (by rfl) true (by rfl) (.bool true) (by rfl) ?_
      refine fl_pick 89 (by rfl) (by decide) (wanted_none (by rfl)) (by rw [hK.out]; rfl) (by rfl) _ _ _ (by rfl) true (by rfl) (.bool true) (by rfl) ?_
      refine fl_mv 90 (by rfl) (by decide) (wanted_none (by rfl)) (by rw [hK.out]; rfl) (by rfl) _ (Or.inl (by rfl)) (.bool true) (by rfl) ?_
      refine fl_call 91 (by rfl) (by decide) (wanted_if hops 45 true (by rfl) 90 (by rfl) true (by rfl)) (.bool true) (by rw [hK.out]; rfl) 8 _ _ (by rfl) [] (by rfl) k8 (fun kk w1 (hg : Grow _ w1) hb hf => calls_behind (by rfl) (by exact known_any w1)) ?_
      refine fl_pick 92 (by rfl) (by decide) (wanted_none (by rfl)) (by rw [hK.out]; rfl) (by rfl) _ _ _ (by rfl) true (by rfl) (.bool true) (by rfl) ?_
      refine fl_mv 6 (by rfl) (by decide) (wanted_none (by rfl)) (by rw [hK.out]; rfl) (by rfl) _ (Or.inr (by rfl)) (.bool true) (by rfl) ?_
      refine fl_end (fun _ _ w1 (hg : Grow _ w1) _ hfacts => hT _ _ ?_)
      clear hops hA' hK hT
      simp only [putsL, Act.put, List.setIfInBounds_toArray, List.set_cons_zero, List.set_cons_succ, List.drop_succ_cons, List.drop_zero]
      go_wp2_with fail
      go_ret
      exact ⟨rfl, below_trans hb7 hg hb7.size⟩
    · have HMN : Hid ((m : Int) = 300) := Lib.hid (by have := HM.out; omega)
      refine wp_region_flow 49 93 [(22, .inl (.int .i64 0)), (46, .inl (.bool true))] rfl rfl (by kernel_rfl) (by kernel_rfl) (by kernel_rfl) ?_ ?_
      · intro x hx φ he
        simp only [List.mem_cons, List.not_mem_nil, or_false] at hx
        rcases hx with rfl | rfl <;> cases he
      intro ops' A' K' T hops hA' hK hT
      refine fl_mv 45 (by rfl) (by decide) (wanted_none (by rfl)) (by rw [hK.out]; rfl) (by rfl) _ (Or.inl (by rfl)) (.int .i64 (m : Int)) (by rfl) ?_
      refine fl_op2 46 (by rfl) (by decide) (wanted_none (by rfl)) (by rw [hK.out]; rfl) (by rfl) (.tmp 45) (.const (.int .i64 0)) (.int .i64 (m : Int)) (.int .i64 0) (by rfl) (by rfl) (.bool true) (fun ρ h1 h2 kk w1 (hg : Grow _ w1) hb hf => by first | (go_simp; done) | (go_simp; omega)) ?_
      refine fl_mv 47 (by rfl) (by decide) (wanted_none (by rfl)) (by rw [hK.out]; rfl) (by rfl) _ (Or.inl (by rfl)) (.bool true) (by rfl) ?_
      refine fl_mv 48 (by rfl) (by decide) (wanted_if hops 2 true (by rfl) 47 (by rfl) true (by rfl)) (by rw [hK.out]; rfl) (by rfl) _ (Or.inl (by rfl)) (.int .i64 (m : Int)) (by rfl) ?_
      refine fl_mv 49 (by rfl) (by decide) (wanted_if hops 2 true (by rfl) 47 (by rfl) true (by rfl)) (by rw [hK.out]; rfl) (by rfl) _ (Or.inl (by rfl)) (.slice Z 300 c') (by rfl) ?_
      refine fl_op1 50 (by rfl) (by decide) (wanted_if hops 2 true (by rfl) 47 (by rfl) true (by rfl)) (by rw [hK.out]; rfl) (by rfl) (.tmp 49) (.slice Z 300 c') (by rfl) (.int .i64 (300 : Int)) (fun ρ h1 kk w1 (hg : Grow _ w1) hb hf => by go_simp) ?_
      refine fl_op2 51 (by rfl) (by decide) (wanted_if hops 2 true (by rfl) 47 (by rfl) true (by rfl)) (by rw [hK.out]; rfl) (by rfl) (.tmp 48) (.tmp 50) (.int .i64 (m : Int)) (.int .i64 (300 : Int)) (by rfl) (by rfl) (.bool true) (fun ρ h1 h2 kk w1 (hg : Grow _ w1) hb hf => by first | (go_simp; done) | (go_simp; omega)) ?_
      refine fl_pick 52 (by rfl) (by decide) (wanted_none (by rfl)) (by rw [hK.out]; rfl) (by rfl) _ _ _ (by rfl) true (by rfl) (.bool true) (by rfl) ?_
      refine fl_mv 53 (by rfl) (by decide) (wanted_none (by rfl)) (by rw [hK.out]; rfl) (by rfl) _ (Or.inl (by rfl)) (.bool true) (by rfl) ?_
      refine fl_mv 54 (by rfl) (by decide) (wanted_if hops 8 true (by rfl) 53 (by rfl) true (by rfl)) (by rw [hK.out]; rfl) (by rfl) _ (Or.inl (by rfl)) (v7) (by rfl) ?_
      refine fl_op1 55 (by rfl) (by decide) (wanted_if hops 8 true (by rfl) 53 (by rfl) true (by rfl)) (by rw [hK.out]; rfl) (by rfl) (.tmp 54) (v7) (by rfl) (.string ⟨(l ++ lb.take m).toArray⟩) (fun ρ h1 kk w1 (hg : Grow _ w1) hb hf => by have cv := conv_is w1 (hv7.below hg); go_simp) ?_
      refine fl_mv 56 (by rfl) (by decide) (wanted_if hops 8 true (by rfl) 53 (by rfl) true (by rfl)) (by rw [hK.out]; rfl) (by rfl) _ (Or.inl (by rfl)) (.slice A n c) (by rfl) ?_
      refine fl_op1 57 (by rfl) (by decide) (wanted_if hops 8 true (by rfl) 53 (by rfl) true (by rfl)) (by rw [hK.out]; rfl) (by rfl) (.tmp 56) (.slice A n c) (by rfl) (.string ⟨l.toArray⟩) (fun ρ h1 kk w1 (hg : Grow _ w1) hb hf => by have cv := conv_bytes w1 (c := c) (hla7.below hg); go_simp) ?_
      refine fl_mv 58 (by rfl) (by decide) (wanted_if hops 8 true (by rfl) 53 (by rfl) true (by rfl)) (by rw [hK.out]; rfl) (by rfl) _ (Or.inl (by rfl)) (.slice Z 300 c') (by rfl) ?_
      refine fl_mv 59 (by rfl) (by decide) (wanted_if hops 8 true (by rfl) 53 (by rfl) true (by rfl)) (by rw [hK.out]; rfl) (by rfl) _ (Or.inl (by rfl)) (.int .i64 (m : Int)) (by rfl) ?_
      refine fl_op2 60 (by rfl) (by decide) (wanted_if hops 8 true (by rfl) 53 (by rfl) true (by rfl)) (by rw [hK.out]; rfl) (by rfl) (.tmp 58) (.tmp 59) (.slice Z 300 c') (.int .i64 (m : Int)) (by rfl) (by rfl) (.slice Z m c') (fun ρ h1 h2 kk w1 (hg : Grow _ w1) hb hf => by go_simp) ?_
      refine fl_op1 61 (by rfl) (by decide) (wanted_if hops 8 true (by rfl) 53 (by rfl) true (by rfl)) (by rw [hK.out]; rfl) (by rfl) (.tmp 60) (.slice Z m c') (by rfl) (.string ⟨(lb.take m).toArray⟩) (fun ρ h1 kk w1 (hg : Grow _ w1) hb hf => by have cv := conv_bytes w1 (c := c') (hlm7.below hg); go_simp) ?_
      refine fl_op2 62 (by rfl) (by decide) (wanted_if hops 8 true (by rfl) 53 (by rfl) true (by rfl)) (by rw [hK.out]; rfl) (by rfl) (.tmp 57) (.tmp 61) (.string ⟨l.toArray⟩) (.string ⟨(lb.take m).toArray⟩) (by rfl) (by rfl) (.string ⟨(l ++ lb.take m).toArray⟩) (fun ρ h1 h2 kk w1 (hg : Grow _ w1) hb hf => by have ha := bytes_append l (lb.take m); first | (go_simp; done) | (go_simp; omega)) ?_
      refine fl_op2 63 (by rfl) (by decide) (wanted_if hops 8 true (by rfl) 53 (by rfl) true (by rfl)) (by rw [hK.out]; rfl) (by rfl) (.tmp 55) (.tmp 62) (.string ⟨(l ++ lb.take m).toArray⟩) (.string ⟨(l ++ lb.take m).toArray⟩) (by rfl) (by rfl) (.bool true) (fun ρ h1 h2 kk w1 (hg : Grow _ w1) hb hf => by go_simp) ?_
      refine fl_pick 64 (by rfl) (by decide) (wanted_none (by rfl)) (by rw [hK.out]; rfl) (by rfl) _ _ _ (by rfl) true (by rfl) (.bool true) (by rfl) ?_
      refine fl_mv 65 (by rfl) (by decide) (wanted_none (by rfl)) (by rw [hK.out]; rfl) (by rfl) _ (Or.inl (by rfl)) (.bool true) (by rfl) ?_
      refine fl_mv 66 (by rfl) (by decide) (wanted_if hops 20 true (by rfl) 65 (by rfl) true (by rfl)) (by rw [hK.out]; rfl) (by rfl) _ (Or.inl (by rfl)) (.pointer (some ⟨d, 0, none⟩)) (by rfl) ?_
      refine fl_call 67 (by rfl) (by decide) (wanted_if hops 20 true (by rfl) 65 (by rfl) true (by rfl)) (.int .i64 0) (by rw [hK.out]; rfl) 15 _ _ (by rfl) [.pointer (some ⟨d, 0, none⟩)] (by rfl) k15 (fun kk w1 (hg : Grow _ w1) hb hf => calls_behind (by rfl) (by exact hWa w1 hg)) ?_
      refine fl_op2 68 (by rfl) (by decide) (wanted_if hops 20 true (by rfl) 65 (by rfl) true (by rfl)) (by rw [hK.out]; rfl) (by rfl) (.tmp 67) (.const (.int .i64 0)) (.int .i64 0) (.int .i64 0) (by rfl) (by rfl) (.bool true) (fun ρ h1 h2 kk w1 (hg : Grow _ w1) hb hf => by go_simp) ?_
      refine fl_pick 69 (by rfl) (by decide) (wanted_none (by rfl)) (by rw [hK.out]; rfl) (by rfl) _ _ _ (by rfl) true (by rfl) (.bool true) (by rfl) ?_
      refine fl_mv 70 (by rfl) (by decide) (wanted_none (by rfl)) (by rw [hK.out]; rfl) (by rfl) _ (Or.inl (by rfl)) (.bool true) (by rfl) ?_
      refine fl_mv 71 (by rfl) (by decide) (wanted_if hops 25 true (by rfl) 70 (by rfl) true (by rfl)) (by rw [hK.out]; rfl) (by rfl) _ (Or.inl (by rfl)) (.int .i64 keep) (by rfl) ?_
      refine fl_op2 72 (by rfl) (by decide) (wanted_if hops 25 true (by rfl) 70 (by rfl) true (by rfl)) (by rw [hK.out]; rfl) (by rfl) (.tmp 71) (.const (.int .i64 0)) (.int .i64 keep) (.int .i64 0) (by rfl) (by rfl) (.bool true) (fun ρ h1 h2 kk w1 (hg : Grow _ w1) hb hf => by first | (go_simp; done) | (go_simp; omega)) ?_
      refine fl_mv 73 (by rfl) (by decide) (wanted_if hops 25 true (by rfl) 70 (by rfl) true (by rfl)) (by rw [hK.out]; rfl) (by rfl) _ (Or.inl (by rfl)) (.bool true) (by rfl) ?_
      refine fl_skip 74 (by rfl) (by decide) (wanted_if hops 28 false (by rfl) 73 (by rfl) true (by rfl)) (by rfl) ?_
      refine fl_skip 75 (by rfl) (by decide) (wanted_if hops 28 false (by rfl) 73 (by rfl) true (by rfl)) (by rfl) ?_
      refine fl_pick 76 (by rfl) (by decide) (wanted_if hops 25 true (by rfl) 70 (by rfl) true (by rfl)) (by rw [hK.out]; rfl) (by rfl) _ _ _ (by rfl) true (by rfl) (.bool true) (by rfl) ?_
      refine fl_pick 77 (by rfl) (by decide) (wanted_none (by rfl)) (by rw [hK.out]; rfl) (by rfl) _ _ _ (by rfl) true (by rfl) (.bool true) (by rfl) ?_
      refine fl_mv 78 (by rfl) (by decide) (wanted_none (by rfl)) (by rw [hK.out]; rfl) (by rfl) _ (Or.inl (by rfl)) (.bool true) (by rfl) ?_
      refine fl_mv 79 (by rfl) (by decide) (wanted_if hops 33 true (by rfl) 78 (by rfl) true (by rfl)) (by rw [hK.out]; rfl) (by rfl) _ (Or.inl (by rfl)) (.int .i64 keep) (by rfl) ?_
      refine fl_mv 80 (by rfl) (by decide) (wanted_if hops 33 true (by rfl) 78 (by rfl) true (by rfl)) (by rw [hK.out]; rfl) (by rfl) _ (Or.inl (by rfl)) (.slice Z 300 c') (by rfl) ?_
      refine fl_op1 81 (by rfl) (by decide) (wanted_if hops 33 true (by rfl) 78 (by rfl) true (by rfl)) (by rw [hK.out]; rfl) (by rfl) (.tmp 80) (.slice Z 300 c') (by rfl) (.int .i64 (300 : Int)) (fun ρ h1 kk w1 (hg : Grow _ w1) hb hf => by go_simp) ?_
      refine fl_op2 82 (by rfl) (by decide) (wanted_if hops 33 true (by rfl) 78 (by rfl) true (by rfl)) (by rw [hK.out]; rfl) (by rfl) (.tmp 79) (.tmp 81) (.int .i64 keep) (.int .i64 (300 : Int)) (by rfl) (by rfl) (.bool false) (fun ρ h1 h2 kk w1 (hg : Grow _ w1) hb hf => by first | (go_simp; done) | (go_simp; omega)) ?_
      refine fl_mv 83 (by rfl) (by decide) (wanted_if hops 33 true (by rfl) 78 (by rfl) true (by rfl)) (by rw [hK.out]; rfl) (by rfl) _ (Or.inl (by rfl)) (.bool false) (by rfl) ?_
      refine fl_mv 84 (by rfl) (by decide) (wanted_if hops 38 false (by rfl) 83 (by rfl) false (by rfl)) (by rw [hK.out]; rfl) (by rfl) _ (Or.inl (by rfl)) (.int .i64 (m : Int)) (by rfl) ?_
      refine fl_mv 85 (by rfl) (by decide) (wanted_if hops 38 false (by rfl) 83 (by rfl) false (by rfl)) (by rw [hK.out]; rfl) (by rfl) _ (Or.inl (by rfl)) (.slice Z 300 c') (by rfl) ?_
      refine fl_op1 86 (by rfl) (by decide) (wanted_if hops 38 false (by rfl) 83 (by rfl) false (by rfl)) (by rw [hK.out]; rfl) (by rfl) (.tmp 85) (.slice Z 300 c') (by rfl) (.int .i64 (300 : Int)) (fun ρ h1 kk w1 (hg : Grow _ w1) hb hf => by go_simp) ?_
      refine fl_op2 87 (by rfl) (by decide) (wanted_if hops 38 false (by rfl) 83 (by rfl) false (by rfl)) (by rw [hK.out]; rfl) (by rfl) (.tmp 84) (.tmp 86) (.int .i64 (m : Int)) (.int .i64 (300 : Int)) (by rfl) (by rfl) (.bool true) (fun ρ h1 h2 kk w1 (hg : Grow _ w1) hb hf => by have hmn := HMN.out; first | (go_simp; done) | (go_simp; omega)) ?_
      refine fl_pick 88 (by rfl) (by decide) (wanted_if hops 33 true (by rfl) 78 (by rfl) true (by rfl)) (by rw [hK.out]; rfl) (by rfl) _ _ _ (by rfl) false (by rfl) (.bool true) (by rfl) ?_
      refine fl_pick 89 (by rfl) (by decide) (wanted_none (by rfl)) (by rw [hK.out]; rfl) (by rfl) _ _ _ (by rfl) true (by rfl) (.bool true) (by rfl) ?_
      refine fl_mv 90 (by rfl) (by decide) (wanted_none (by rfl)) (by rw [hK.out]; rfl) (by rfl) _ (Or.inl (by rfl)) (.bool true) (by rfl) ?_
      refine fl_call 91 (by rfl) (by decide) (wanted_if hops 45 true (by rfl) 90 (by rfl) true (by rfl)) (.bool true) (by rw [hK.out]; rfl) 8 _ _ (by rfl) [] (by rfl) k8 (fun kk w1 (hg : Grow _ w1) hb hf => calls_behind (by rfl) (by exact known_any w1)) ?_
      refine fl_pick 92 (by rfl) (by decide) (wanted_none (by rfl)) (by rw [hK.out]; rfl) (by rfl) _ _ _ (by rfl) true (by rfl) (.bool true) (by rfl) ?_
      refine fl_mv 6 (by rfl) (by decide) (wanted_none (by rfl)) (by rw [hK.out]; rfl) (by rfl) _ (Or.inr (by rfl)) (.bool true) (by rfl) ?_
      refine fl_end (fun _ _ w1 (hg : Grow _ w1) _ hfacts => hT _ _ ?_)
      clear hops hA' hK hT
      simp only [putsL, Act.put, List.setIfInBounds_toArray, List.set_cons_zero, List.set_cons_succ, List.drop_succ_cons, List.drop_zero]
      go_wp2_with fail
      go_ret
      exact ⟨rfl, below_trans hb7 hg hb7.size⟩
  · have HM0 : Hid (m = 0) := Lib.hid (by have := HM.out; omega)
    by_cases hk1 : keep < 300
    · skip
      refine wp_region_flow 49 93 [(22, .inl (.int .i64 0)), (46, .inl (.bool true))] rfl rfl (by kernel_rfl) (by kernel_rfl) (by kernel_rfl) ?_ ?_
      · intro x hx φ he
        simp only [List.mem_cons, List.not_mem_nil, or_false] at hx
        rcases hx with rfl | rfl <;> cases he
      intro ops' A' K' T hops hA' hK hT
      refine fl_mv 45 (by rfl) (by decide) (wanted_none (by rfl)) (by rw [hK.out]; rfl) (by rfl) _ (Or.inl (by rfl)) (.int .i64 (m : Int)) (by rfl) ?_
      refine fl_op2 46 (by rfl) (by decide) (wanted_none (by rfl)) (by rw [hK.out]; rfl) (by rfl) (.tmp 45) (.const (.int .i64 0)) (.int .i64 (m : Int)) (.int .i64 0) (by rfl) (by rfl) (.bool true) (fun ρ h1 h2 kk w1 (hg : Grow _ w1) hb hf => by first | (go_simp; done) | (go_simp; omega)) ?_
      refine fl_mv 47 (by rfl) (by decide) (wanted_none (by rfl)) (by rw [hK.out]; rfl) (by rfl) _ (Or.inl (by rfl)) (.bool true) (by rfl) ?_
      refine fl_mv 48 (by rfl) (by decide) (wanted_if hops 2 true (by rfl) 47 (by rfl) true (by rfl)) (by rw [hK.out]; rfl) (by rfl) _ (Or.inl (by rfl)) (.int .i64 (m : Int)) (by rfl) ?_
      refine fl_mv 49 (by rfl) (by decide) (wanted_if hops 2 true (by rfl) 47 (by rfl) true (by rfl)) (by rw [hK.out]; rfl) (by rfl) _ (Or.inl (by rfl)) (.slice Z 300 c') (by rfl) ?_
      refine fl_op1 50 (by rfl) (by decide) (wanted_if hops 2 true (by rfl) 47 (by rfl) true (by rfl)) (by rw [hK.out]; rfl) (by rfl) (.tmp 49) (.slice Z 300 c') (by rfl) (.int .i64 (300 : Int)) (fun ρ h1 kk w1 (hg : Grow _ w1) hb hf => by go_simp) ?_
      refine fl_op2 51 (by rfl) (by decide) (wanted_if hops 2 true (by rfl) 47 (by rfl) true (by rfl)) (by rw [hK.out]; rfl) (by rfl) (.tmp 48) (.tmp 50) (.int .i64 (m : Int)) (.int .i64 (300 : Int)) (by rfl) (by rfl) (.bool true) (fun ρ h1 h2 kk w1 (hg : Grow _ w1) hb hf => by first | (go_simp; done) | (go_simp; omega)) ?_
      refine fl_pick 52 (by rfl) (by decide) (wanted_none (by rfl)) (by rw [hK.out]; rfl) (by rfl) _ _ _ (by rfl) true (by rfl) (.bool true) (by rfl) ?_
      refine fl_mv 53 (by rfl) (by decide) (wanted_none (by rfl)) (by rw [hK.out]; rfl) (by rfl) _ (Or.inl (by rfl)) (.bool true) (by rfl) ?_
      refine fl_mv 54 (by rfl) (by decide) (wanted_if hops 8 true (by rfl) 53 (by rfl) true (by rfl)) (by rw [hK.out]; rfl) (by rfl) _ (Or.inl (by rfl)) (v7) (by rfl) ?_
      refine fl_op1 55 (by rfl) (by decide) (wanted_if hops 8 true (by rfl) 53 (by rfl) true (by rfl)) (by rw [hK.out]; rfl) (by rfl) (.tmp 54) (v7) (by rfl) (.string ⟨(l ++ lb.take m).toArray⟩) (fun ρ h1 kk w1 (hg : Grow _ w1) hb hf => by have cv := conv_is w1 (hv7.below hg); go_simp) ?_
      refine fl_mv 56 (by rfl) (by decide) (wanted_if hops 8 true (by rfl) 53 (by rfl) true (by rfl)) (by rw [hK.out]; rfl) (by rfl) _ (Or.inl (by rfl)) (.slice A n c) (by rfl) ?_
      refine fl_op1 57 (by rfl) (by decide) (wanted_if hops 8 true (by rfl) 53 (by rfl) true (by rfl)) (by rw [hK.out]; rfl) (by rfl) (.tmp 56) (.slice A n c) (by rfl) (.string ⟨l.toArray⟩) (fun ρ h1 kk w1 (hg : Grow _ w1) hb hf => by have cv := conv_bytes w1 (c := c) (hla7.below hg); go_simp) ?_
      refine fl_mv 58 (by rfl) (by decide) (wanted_if hops 8 true (by rfl) 53 (by rfl) true (by rfl)) (by rw [hK.out]; rfl) (by rfl) _ (Or.inl (by rfl)) (.slice Z 300 c') (by rfl) ?_
      refine fl_mv 59 (by rfl) (by decide) (wanted_if hops 8 true (by rfl) 53 (by rfl) true (by rfl)) (by rw [hK.out]; rfl) (by rfl) _ (Or.inl (by rfl)) (.int .i64 (m : Int)) (by rfl) ?_
      refine fl_op2 60 (by rfl) (by decide) (wanted_if hops 8 true (by rfl) 53 (by rfl) true (by rfl)) (by rw [hK.out]; rfl) (by rfl) (.tmp 58) (.tmp 59) (.slice Z 300 c') (.int .i64 (m : Int)) (by rfl) (by rfl) (.slice Z m c') (fun ρ h1 h2 kk w1 (hg : Grow _ w1) hb hf => by go_simp) ?_
      refine fl_op1 61 (by rfl) (by decide) (wanted_if hops 8 true (by rfl) 53 (by rfl) true (by rfl)) (by rw [hK.out]; rfl) (by rfl) (.tmp 60) (.slice Z m c') (by rfl) (.string ⟨(lb.take m).toArray⟩) (fun ρ h1 kk w1 (hg : Grow _ w1) hb hf => by have cv := conv_bytes w1 (c := c') (hlm7.below hg); go_simp) ?_
      refine fl_op2 62 (by rfl) (by decide) (wanted_if hops 8 true (by rfl) 53 (by rfl) true (by rfl)) (by rw [hK.out]; rfl) (by rfl) (.tmp 57) (.tmp 61) (.string ⟨l.toArray⟩) (.string ⟨(lb.take m).toArray⟩) (by rfl) (by rfl) (.string ⟨(l ++ lb.take m).toArray⟩) (fun ρ h1 h2 kk w1 (hg : Grow _ w1) hb hf => by have ha := bytes_append l (lb.take m); first | (go_simp; done) | (go_simp; omega)) ?_
      refine fl_op2 63 (by rfl) (by decide) (wanted_if hops 8 true (by rfl) 53 (by rfl) true (by rfl)) (by rw [hK.out]; rfl) (by rfl) (.tmp 55) (.tmp 62) (.string ⟨(l ++ lb.take m).toArray⟩) (.string ⟨(l ++ lb.take m).toArray⟩) (by rfl) (by rfl) (.bool true) (fun ρ h1 h2 kk w1 (hg : Grow _ w1) hb hf => by go_simp) ?_
      refine fl_pick 64 (by rfl) (by decide) (wanted_none (by rfl)) (by rw [hK.out]; rfl) (by rfl) _ _ _ (by rfl) true (by rfl) (.bool true) (by rfl) ?_
      refine fl_mv 65 (by rfl) (by decide) (wanted_none (by rfl)) (by rw [hK.out]; rfl) (by rfl) _ (Or.inl (by rfl)) (.bool true) (by rfl) ?_
      refine fl_mv 66 (by rfl) (by decide) (wanted_if hops 20 true (by rfl) 65 (by rfl) true (by rfl)) (by rw [hK.out]; rfl) (by rfl) _ (Or.inl (by rfl)) (.pointer (some ⟨d, 0, none⟩)) (by rfl) ?_
      refine fl_call 67 (by rfl) (by decide) (wanted_if hops 20 true (by rfl) 65 (by rfl) true (by rfl)) (.int .i64 0) (by rw [hK.out]; rfl) 15 _ _ (by rfl) [.pointer (some ⟨d, 0, none⟩)] (by rfl) k15 (fun kk w1 (hg : Grow _ w1) hb hf => calls_behind (by rfl) (by exact hWa w1 hg)) ?_
      refine fl_op2 68 (by rfl) (by decide) (wanted_if hops 20 true (by rfl) 65 (by rfl) true (by rfl)) (by rw [hK.out]; rfl) (by rfl) (.tmp 67) (.const (.int .i64 0)) (.int .i64 0) (.int .i64 0) (by rfl) (by rfl) (.bool true) (fun ρ h1 h2 kk w1 (hg : Grow _ w1) hb hf => by go_simp) ?_
      refine fl_pick 69 (by rfl) (by decide) (wanted_none (by rfl)) (by rw [hK.out]; rfl) (by rfl) _ _ _ (by rfl) true (by rfl) (.bool true) (by rfl) ?_
      refine fl_mv 70 (by rfl) (by decide) (wanted_none (by rfl)) (by rw [hK.out]; rfl) (by rfl) _ (Or.inl (by rfl)) (.bool true) (by rfl) ?_
      refine fl_mv 71 (by rfl) (by decide) (wanted_if hops 25 true (by rfl) 70 (by rfl) true (by rfl)) (by rw [hK.out]; rfl) (by rfl) _ (Or.inl (by rfl)) (.int .i64 keep) (by rfl) ?_
      refine fl_op2 72 (by rfl) (by decide) (wanted_if hops 25 true (by rfl) 70 (by rfl) true (by rfl)) (by rw [hK.out]; rfl) (by rfl) (.tmp 71) (.const (.int .i64 0)) (.int .i64 keep) (.int .i64 0) (by rfl) (by rfl) (.bool false) (fun ρ h1 h2 kk w1 (hg : Grow _ w1) hb hf => by first | (go_simp; done) | (go_simp; omega)) ?_
      refine fl_mv 73 (by rfl) (by decide) (wanted_if hops 25 true (by rfl) 70 (by rfl) true (by rfl)) (by rw [hK.out]; rfl) (by rfl) _ (Or.inl (by rfl)) (.bool false) (by rfl) ?_
      refine fl_mv 74 (by rfl) (by decide) (wanted_if hops 28 false (by rfl) 73 (by rfl) false (by rfl)) (by rw [hK.out]; rfl) (by rfl) _ (Or.inl (by rfl)) (.int .i64 (m : Int)) (by rfl) ?_
      refine fl_op2 75 (by rfl) (by decide) (wanted_if hops 28 false (by rfl) 73 (by rfl) false (by rfl)) (by rw [hK.out]; rfl) (by rfl) (.tmp 74) (.const (.int .i64 0)) (.int .i64 (m : Int)) (.int .i64 0) (by rfl) (by rfl) (.bool true) (fun ρ h1 h2 kk w1 (hg : Grow _ w1) hb hf => by have hm0 := HM0.out; first | (go_simp; done) | (go_simp; omega)) ?_
      refine fl_pick 76 (by rfl) (by decide) (wanted_if hops 25 true (by rfl) 70 (by rfl) true (by rfl)) (by rw [hK.out]; rfl) (by rfl) _ _ _ (by rfl) false (by rfl) (.bool true) (by rfl) ?_
      refine fl_pick 77 (by rfl) (by decide) (wanted_none (by rfl)) (by rw [hK.out]; rfl) (by rfl) _ _ _ (by rfl) true (by rfl) (.bool true) (by rfl) ?_
      refine fl_mv 78 (by rfl) (by decide) (wanted_none (by rfl)) (by rw [hK.out]; rfl) (by rfl) _ (Or.inl (by rfl)) (.bool true) (by rfl) ?_
      refine fl_mv 79 (by rfl) (by decide) (wanted_if hops 33 true (by rfl) 78 (by rfl) true (by rfl)) (by rw [hK.out]; rfl) (by rfl) _ (Or.inl (by rfl)) (.int .i64 keep) (by rfl) ?_
      refine fl_mv 80 (by rfl) (by decide) (wanted_if hops 33 true (by rfl) 78 (by rfl) true (by rfl)) (by rw [hK.out]; rfl) (by rfl) _ (Or.inl (by rfl)) (.slice Z 300 c') (by rfl) ?_
      refine fl_op1 81 (by rfl) (by decide) (wanted_if hops 33 true (by rfl) 78 (by rfl) true (by rfl)) (by rw [hK.out]; rfl) (by rfl) (.tmp 80) (.slice Z 300 c') (by rfl) (.int .i64 (300 : Int)) (fun ρ h1 kk w1 (hg : Grow _ w1) hb hf => by go_simp) ?_
      refine fl_op2 82 (by rfl) (by decide) (wanted_if hops 33 true (by rfl) 78 (by rfl) true (by rfl)) (by rw [hK.out]; rfl) (by rfl) (.tmp 79) (.tmp 81) (.int .i64 keep) (.int .i64 (300 : Int)) (by rfl) (by rfl) (.bool true) (fun ρ h1 h2 kk w1 (hg : Grow _ w1) hb hf => by first | (go_simp; done) | (go_simp; omega)) ?_
      refine fl_mv 83 (by rfl) (by decide) (wanted_if hops 33 true (by rfl) 78 (by rfl) true (by rfl)) (by rw [hK.out]; rfl) (by rfl) _ (Or.inl (by rfl)) (.bool true) (by rfl) ?_
      refine fl_skip 84 (by rfl) (by decide) (wanted_if hops 38 false (by rfl) 83 (by rfl) true (by rfl)) (by rfl) ?_
      refine fl_skip 85 (by rfl) (by decide) (wanted_if hops 38 false (by rfl) 83 (by rfl) true (by rfl)) (by rfl) ?_
      refine fl_skip 86 (by rfl) (by decide) (wanted_if hops 38 false (by rfl) 83 (by rfl) true (by rfl)) (by rfl) ?_
      refine fl_skip 87 (by rfl) (by decide) (wanted_if hops 38 false (by rfl) 83 (by rfl) true (by rfl)) (by rfl) ?_
      refine fl_pick 88 (by rfl) (by decide) (wanted_if hops 33 true (by rfl) 78 (by rfl) true (by rfl)) (by rw [hK.out]; rfl) (by rfl) _ _ _ (by rfl) true (by rfl) (.bool true) (by rfl) ?_
      refine fl_pick 89 (by rfl) (by decide) (wanted_none (by rfl)) (by rw [hK.out]; rfl) (by rfl) _ _ _ (by rfl) true (by rfl) (.bool true) (by rfl) ?_
      refine fl_mv 90 (by rfl) (by decide) (wanted_none (by rfl)) (by rw [hK.out]; rfl) (by rfl) _ (Or.inl (by rfl)) (.bool true) (by rfl) ?_
      refine fl_call 91 (by rfl) (by decide) (wanted_if hops 45 true (by rfl) 90 (by rfl) true (by rfl)) (.bool true) (by rw [hK.out]; rfl) 8 _ _ (by rfl) [] (by rfl) k8 (fun kk w1 (hg : Grow _ w1) hb hf => calls_behind (by rfl) (by exact known_any w1)) ?_
      refine fl_pick 92 (by rfl) (by decide) (wanted_none (by rfl)) (by rw [hK.out]; rfl) (by rfl) _ _ _ (by rfl) true (by rfl) (.bool true) (by rfl) ?_
      refine fl_mv 6 (by rfl) (by decide) (wanted_none (by rfl)) (by rw [hK.out]; rfl) (by rfl) _ (Or.inr (by rfl)) (.bool true) (by rfl) ?_
      refine fl_end (fun _ _ w1 (hg : Grow _ w1) _ hfacts => hT _ _ ?_)
      clear hops hA' hK hT
      simp only [putsL, Act.put, List.setIfInBounds_toArray, List.set_cons_zero, List.set_cons_succ, List.drop_succ_cons, List.drop_zero]
      go_wp2_with fail
      go_ret
      exact ⟨rfl, below_trans hb7 hg hb7.size⟩
    · have HMN : Hid ((m : Int) = 300) := Lib.hid (by have := HM.out; omega)
      refine wp_region_flow 49 93 [(22, .inl (.int .i64 0)), (46, .inl (.bool true))] rfl rfl (by kernel_rfl) (by kernel_rfl) (by kernel_rfl) ?_ ?_
      · intro x hx φ he
        simp only [List.mem_cons, List.not_mem_nil, or_false] at hx
        rcases hx with rfl | rfl <;> cases he
      intro ops' A' K' T hops hA' hK hT
      refine fl_mv 45 (by rfl) (by decide) (wanted_none (by rfl)) (by rw [hK.out]; rfl) (by rfl) _ (Or.inl (by rfl)) (.int .i64 (m : Int)) (by rfl) ?_
      refine fl_op2 46 (by rfl) (by decide) (wanted_none (by rfl)) (by rw [hK.out]; rfl) (by rfl) (.tmp 45) (.const (.int .i64 0)) (.int .i64 (m : Int)) (.int .i64 0) (by rfl) (by rfl) (.bool true) (fun ρ h1 h2 kk w1 (hg : Grow _ w1) hb hf => by first | (go_simp; done) | (go_simp; omega)) ?_
      refine fl_mv 47 (by rfl) (by decide) (wanted_none (by rfl)) (by rw [hK.out]; rfl) (by rfl) _ (Or.inl (by rfl)) (.bool true) (by rfl) ?_
      refine fl_mv 48 (by rfl) (by decide) (wanted_if hops 2 true (by rfl) 47 (by rfl) true (by rfl)) (by rw [hK.out]; rfl) (by rfl) _ (Or.inl (by rfl)) (.int .i64 (m : Int)) (by rfl) ?_
      refine fl_mv 49 (by rfl) (by decide) (wanted_if hops 2 true (by rfl) 47 (by rfl) true (by rfl)) (by rw [hK.out]; rfl) (by rfl) _ (Or.inl (by rfl)) (.slice Z 300 c') (by rfl) ?_
      refine fl_op1 50 (by rfl) (by decide) (wanted_if hops 2 true (by rfl) 47 (by rfl) true (by rfl)) (by rw [hK.out]; rfl) (by rfl) (.tmp 49) (.slice Z 300 c') (by rfl) (.int .i64 (300 : Int)) (fun ρ h1 kk w1 (hg : Grow _ w1) hb hf => by go_simp) ?_
      refine fl_op2 51 (by rfl) (by decide) (wanted_if hops 2 true (by rfl) 47 (by rfl) true (by rfl)) (by rw [hK.out]; rfl) (by rfl) (.tmp 48) (.tmp 50) (.int .i64 (m : Int)) (.int .i64 (300 : Int)) (by rfl) (by rfl) (.bool true) (fun ρ h1 h2 kk w1 (hg : Grow _ w1) hb hf => by first | (go_simp; done) | (go_simp; omega)) ?_
      refine fl_pick 52 (by rfl) (by decide) (wanted_none (by rfl)) (by rw [hK.out]; rfl) (by rfl) _ _ _ (by rfl) true (by rfl) (.bool true) (by rfl) ?_
      refine fl_mv 53 (by rfl) (by decide) (wanted_none (by rfl)) (by rw [hK.out]; rfl) (by rfl) _ (Or.inl (by rfl)) (.bool true) (by rfl) ?_
      refine fl_mv 54 (by rfl) (by decide) (wanted_if hops 8 true (by rfl) 53 (by rfl) true (by rfl)) (by rw [hK.out]; rfl) (by rfl) _ (Or.inl (by rfl)) (v7) (by rfl) ?_
      refine fl_op1 55 (by rfl) (by decide) (wanted_if hops 8 true (by rfl) 53 (by rfl) true (by rfl)) (by rw [hK.out]; rfl) (by rfl) (.tmp 54) (v7) (by rfl) (.string ⟨(l ++ lb.take m).toArray⟩) (fun ρ h1 kk w1 (hg : Grow _ w1) hb hf => by have cv := conv_is w1 (hv7.below hg); go_simp) ?_
      refine fl_mv 56 (by rfl) (by decide) (wanted_if hops 8 true (by rfl) 53 (by rfl) true (by rfl)) (by rw [hK.out]; rfl) (by rfl) _ (Or.inl (by rfl)) (.slice A n c) (by rfl) ?_
      refine fl_op1 57 (by rfl) (by decide) (wanted_if hops 8 true (by rfl) 53 (by rfl) true (by rfl)) (by rw [hK.out]; rfl) (by rfl) (.tmp 56) (.slice A n c) (by rfl) (.string ⟨l.toArray⟩) (fun ρ h1 kk w1 (hg : Grow _ w1) hb hf => by have cv := conv_bytes w1 (c := c) (hla7.below hg); go_simp) ?_
      refine fl_mv 58 (by rfl) (by decide) (wanted_if hops 8 true (by rfl) 53 (by rfl) true (by rfl)) (by rw [hK.out]; rfl) (by rfl) _ (Or.inl (by rfl)) (.slice Z 300 c') (by rfl) ?_
      refine fl_mv 59 (by rfl) (by decide) (wanted_if hops 8 true (by rfl) 53 (by rfl) true (by rfl)) (by rw [hK.out]; rfl) (by rfl) _ (Or.inl (by rfl)) (.int .i64 (m : Int)) (by rfl) ?_
      refine fl_op2 60 (by rfl) (by decide) (wanted_if hops 8 true (by rfl) 53 (by rfl) true (by rfl)) (by rw [hK.out]; rfl) (by rfl) (.tmp 58) (.tmp 59) (.slice Z 300 c') (.int .i64 (m : Int)) (by rfl) (by rfl) (.slice Z m c') (fun ρ h1 h2 kk w1 (hg : Grow _ w1) hb hf => by go_simp) ?_
      refine fl_op1 61 (by rfl) (by decide) (wanted_if hops 8 true (by rfl) 53 (by rfl) true (by rfl)) (by rw [hK.out]; rfl) (by rfl) (.tmp 60) (.slice Z m c') (by rfl) (.string ⟨(lb.take m).toArray⟩) (fun ρ h1 kk w1 (hg : Grow _ w1) hb hf => by have cv := conv_bytes w1 (c := c') (hlm7.below hg); go_simp) ?_
      refine fl_op2 62 (by rfl) (by decide) (wanted_if hops 8 true (by rfl) 53 (by rfl) true (by rfl)) (by rw [hK.out]; rfl) (by rfl) (.tmp 57) (.tmp 61) (.string ⟨l.toArray⟩) (.string ⟨(lb.take m).toArray⟩) (by rfl) (by rfl) (.string ⟨(l ++ lb.take m).toArray⟩) (fun ρ h1 h2 kk w1 (hg : Grow _ w1) hb hf => by have ha := bytes_append l (lb.take m); first | (go_simp; done) | (go_simp; omega)) ?_
      refine fl_op2 63 (by rfl) (by decide) (wanted_if hops 8 true (by rfl) 53 (by rfl) true (by rfl)) (by rw [hK.out]; rfl) (by rfl) (.tmp 55) (.tmp 62) (.string ⟨(l ++ lb.take m).toArray⟩) (.string ⟨(l ++ lb.take m).toArray⟩) (by rfl) (by rfl) (.bool true) (fun ρ h1 h2 kk w1 (hg : Grow _ w1) hb hf => by go_simp) ?_
      refine fl_pick 64 (by rfl) (by decide) (wanted_none (by rfl)) (by rw [hK.out]; rfl) (by rfl) _ _ _ (by rfl) true (by rfl) (.bool true) (by rfl) ?_
      refine fl_mv 65 (by rfl) (by decide) (wanted_none (by rfl)) (by rw [hK.out]; rfl) (by rfl) _ (Or.inl (by rfl)) (.bool true) (by rfl) ?_
      refine fl_mv 66 (by rfl) (by decide) (wanted_if hops 20 true (by rfl) 65 (by rfl) true (by rfl)) (by rw [hK.out]; rfl) (by rfl) _ (Or.inl (by rfl)) (.pointer (some ⟨d, 0, none⟩)) (by rfl) ?_
      refine fl_call 67 (by rfl) (by decide) (wanted_if hops 20 true (by rfl) 65 (by rfl) true (by rfl)) (.int .i64 0) (by rw [hK.out]; rfl) 15 _ _ (by rfl) [.pointer (some ⟨d, 0, none⟩)] (by rfl) k15 (fun kk w1 (hg : Grow _ w1) hb hf => calls_behind (by rfl) (by exact hWa w1 hg)) ?_
      refine fl_op2 68 (by rfl) (by decide) (wanted_if hops 20 true (by rfl) 65 (by rfl) true (by rfl)) (by rw [hK.out]; rfl) (by rfl) (.tmp 67) (.const (.int .i64 0)) (.int .i64 0) (.int .i64 0) (by rfl) (by rfl) (.bool true) (fun ρ h1 h2 kk w1 (hg : Grow _ w1) hb hf => by go_simp) ?_
      refine fl_pick 69 (by rfl) (by decide) (wanted_none (by rfl)) (by rw [hK.out]; rfl) (by rfl) _ _ _ (by rfl) true (by rfl) (.bool true) (by rfl) ?_
      refine fl_mv 70 (by rfl) (by decide) (wanted_none (by rfl)) (by rw [hK.out]; rfl) (by rfl) _ (Or.inl (by rfl)) (.bool true) (by rfl) ?_
      refine fl_mv 71 (by rfl) (by decide) (wanted_if hops 25 true (by rfl) 70 (by rfl) true (by rfl)) (by rw [hK.out]; rfl) (by rfl) _ (Or.inl (by rfl)) (.int .i64 keep) (by rfl) ?_
      refine fl_op2 72 (by rfl) (by decide) (wanted_if hops 25 true (by rfl) 70 (by rfl) true (by rfl)) (by rw [hK.out]; rfl) (by rfl) (.tmp 71) (.const (.int .i64 0)) (.int .i64 keep) (.int .i64 0) (by rfl) (by rfl) (.bool false) (fun ρ h1 h2 kk w1 (hg : Grow _ w1) hb hf => by first | (go_simp; done) | (go_simp; omega)) ?_
      refine fl_mv 73 (by rfl) (by decide) (wanted_if hops 25 true (by rfl) 70 (by rfl) true (by rfl)) (by rw [hK.out]; rfl) (by rfl) _ (Or.inl (by rfl)) (.bool false) (by rfl) ?_
      refine fl_mv 74 (by rfl) (by decide) (wanted_if hops 28 false (by rfl) 73 (by rfl) false (by rfl)) (by rw [hK.out]; rfl) (by rfl) _ (Or.inl (by rfl)) (.int .i64 (m : Int)) (by rfl) ?_
      refine fl_op2 75 (by rfl) (by decide) (wanted_if hops 28 false (by rfl) 73 (by rfl) false (by rfl)) (by rw [hK.out]; rfl) (by rfl) (.tmp 74) (.const (.int .i64 0)) (.int .i64 (m : Int)) (.int .i64 0) (by rfl) (by rfl) (.bool true) (fun ρ h1 h2 kk w1 (hg : Grow _ w1) hb hf => by have hm0 := HM0.out; first | (go_simp; done) | (go_simp; omega)) ?_
      refine fl_pick 76 (by rfl) (by decide) (wanted_if hops 25 true (by rfl) 70 (by rfl) true (by rfl)) (by rw [hK.out]; rfl) (by rfl) _ _ _ (by rfl) false (by rfl) (.bool true) (by rfl) ?_
      refine fl_pick 77 (by rfl) (by decide) (wanted_none (by rfl)) (by rw [hK.out]; rfl) (by rfl) _ _ _ (by rfl) true (by rfl) (.bool true) (by rfl) ?_
      refine fl_mv 78 (by rfl) (by decide) (wanted_none (by rfl)) (by rw [hK.out]; rfl) (by rfl) _ (Or.inl (by rfl)) (.bool true) (by rfl) ?_
      refine fl_mv 79 (by rfl) (by decide) (wanted_if hops 33 true (by rfl) 78 (by rfl) true (by rfl)) (by rw [hK.out]; rfl) (by rfl) _ (Or.inl (by rfl)) (.int .i64 keep) (by rfl) ?_
      refine fl_mv 80 (by rfl) (by decide) (wanted_if hops 33 true (by rfl) 78 (by rfl) true (by rfl)) (by rw [hK.out]; rfl) (by rfl) _ (Or.inl (by rfl)) (.slice Z 300 c') (by rfl) ?_
      refine fl_op1 81 (by rfl) (by decide) (wanted_if hops 33 true (by rfl) 78 (by rfl) true (by rfl)) (by rw [hK.out]; rfl) (by rfl) (.tmp 80) (.slice Z 300 c') (by rfl) (.int .i64 (300 : Int)) (fun ρ h1 kk w1 (hg : Grow _ w1) hb hf => by go_simp) ?_
      refine fl_op2 82 (by rfl) (by decide) (wanted_if hops 33 true (by rfl) 78 (by rfl) true (by rfl)) (by rw [hK.out]; rfl) (by rfl) (.tmp 79) (.tmp 81) (.int .i64 keep) (.int .i64 (300 : Int)) (by rfl) (by rfl) (.bool false) (fun ρ h1 h2 kk w1 (hg : Grow _ w1) hb hf => by first | (go_simp; done) | (go_simp; omega)) ?_
      refine fl_mv 83 (by rfl) (by decide) (wanted_if hops 33 true (by rfl) 78 (by rfl) true (by rfl)) (by rw [hK.out]; rfl) (by rfl) _ (Or.inl (by rfl)) (.bool false) (by rfl) ?_
      refine fl_mv 84 (by rfl) (by decide) (wanted_if hops 38 false (by rfl) 83 (by rfl) false (by rfl)) (by rw [hK.out]; rfl) (by rfl) _ (Or.inl (by rfl)) (.int .i64 (m : Int)) (by rfl) ?_
      refine fl_mv 85 (by rfl) (by decide) (wanted_if hops 38 false (by rfl) 83 (by rfl) false (by rfl)) (by rw [hK.out]; rfl) (by rfl) _ (Or.inl (by rfl)) (.slice Z 300 c') (by rfl) ?_
      refine fl_op1 86 (by rfl) (by decide) (wanted_if hops 38 false (by rfl) 83 (by rfl) false (by rfl)) (by rw [hK.out]; rfl) (by rfl) (.tmp 85) (.slice Z 300 c') (by rfl) (.int .i64 (300 : Int)) (fun ρ h1 kk w1 (hg : Grow _ w1) hb hf => by go_simp) ?_
      refine fl_op2 87 (by rfl) (by decide) (wanted_if hops 38 false (by rfl) 83 (by rfl) false (by rfl)) (by rw [hK.out]; rfl) (by rfl) (.tmp 84) (.tmp 86) (.int .i64 (m : Int)) (.int .i64 (300 : Int)) (by rfl) (by rfl) (.bool true) (fun ρ h1 h2 kk w1 (hg : Grow _ w1) hb hf => by have hmn := HMN.out; first | (go_simp; done) | (go_simp; omega)) ?_
      refine fl_pick 88 (by rfl) (by decide) (wanted_if hops 33 true (by rfl) 78 (by rfl) true (by rfl)) (by rw [hK.out]; rfl) (by rfl) _ _ _ (by rfl) false (by rfl) (.bool true) (by rfl) ?_
      refine fl_pick 89 (by rfl) (by decide) (wanted_none (by rfl)) (by rw [hK.out]; rfl) (by rfl) _ _ _ (by rfl) true (by rfl) (.bool true) (by rfl) ?_
      refine fl_mv 90 (by rfl) (by decide) (wanted_none (by rfl)) (by rw [hK.out]; rfl) (by rfl) _ (Or.inl (by rfl)) (.bool true) (by rfl) ?_
      refine fl_call 91 (by rfl) (by decide) (wanted_if hops 45 true (by rfl) 90 (by rfl) true (by rfl)) (.bool true) (by rw [hK.out]; rfl) 8 _ _ (by rfl) [] (by rfl) k8 (fun kk w1 (hg : Grow _ w1) hb hf => calls_behind (by rfl) (by exact known_any w1)) ?_
      refine fl_pick 92 (by rfl) (by decide) (wanted_none (by rfl)) (by rw [hK.out]; rfl) (by rfl) _ _ _ (by rfl) true (by rfl) (.bool true) (by rfl) ?_
      refine fl_mv 6 (by rfl) (by decide) (wanted_none (by rfl)) (by rw [hK.out]; rfl) (by rfl) _ (Or.inr (by rfl)) (.bool true) (by rfl) ?_
      refine fl_end (fun _ _ w1 (hg : Grow _ w1) _ hfacts => hT _ _ ?_)
      clear hops hA' hK hT
      simp only [putsL, Act.put, List.setIfInBounds_toArray, List.set_cons_zero, List.set_cons_succ, List.drop_succ_cons, List.drop_zero]
      go_wp2_with fail
      go_ret
      exact ⟨rfl, below_trans hb7 hg hb7.size⟩
end Go.Proofs.Ytedpcdliadfhgaa
