/- DiskCuts: its walk, one of two. -/
import Derived.Test.YtedpcdliadfhgaaWithin
namespace Go.Proofs.Ytedpcdliadfhgaa
open Go.RowKit Go.Hop
theorem cuts_plain {l : List UInt8} {m n : Nat} (h : l.length = m + n) : l.take (m + keepN l m 4611686018427387904) = l ∧ m + keepN l m 4611686018427387904 = m + n ∧ (l.length : Int) - (m : Int) - (keepN l m 4611686018427387904 : Int) = 0 ∨ 4611686018427387904 < (n : Int) := by
  by_cases hn : 4611686018427387904 < (n : Int)
  · exact .inr hn
  · have : keepN l m 4611686018427387904 = n := by unfold keepN; omega
    rw [this]
    exact .inl ⟨List.take_of_length_le (by omega), rfl, by omega⟩
theorem Waits_at (w : World) (d : Nat) (l : List UInt8) (k : Nat) (V : Nat → Prop) (hD : DiskAt 45 d l k w V) (W : Int) (hW : (l.length : Int) - (k : Int) = W) :
    Calls Try.prog 15 #[.pointer (some ⟨d, 0, none⟩)] w fun e w' => e = .returned (.int .i64 W) ∧ Grow w w' := hW ▸ Waits_any w d l k V hD
theorem solo_look {P : Nat → Prop} {S : Thing} {w : World} {Pr : Program} {f : FuncId} {args : Array Value} {Q : Ending → World → Prop} (h : Solo P S w) (hc : ∀ V : Nat → Prop, S w V → Calls Pr f args w Q) : Calls Pr f args w Q := by
  obtain ⟨_, V, h1, _⟩ := h
  exact hc V h1
set_option maxRecDepth 100000 in
set_option maxHeartbeats 4000000 in
theorem cuts_ss (w : World) (A : Option Addr) (n c : Nat) (l : List UInt8) (hb : Bytes w w.heap.size A n l) (hnc : n ≤ c) (Z : Option Addr) (n' c' : Nat) (l' : List UInt8) (hb' : Bytes w w.heap.size Z n' l') (hnc' : n' ≤ c') (x : Int) (hx : -9223372036854775808 ≤ x ∧ x ≤ 9223372036854775807)
    (hn : n ≤ 200) (hn' : n' ≤ 200) :
    Calls Try.prog 6 #[.slice A n c, .slice Z n' c', .int .i64 x] w fun e w' => e = .returned (.bool true) ∧ Grow w w' := by
  have hla := hb
  have hlb := hb'
  have hLA := hla.len
  have hLB := hlb.len
  have k14 : ∀ (vs : Array Value) (w : World), (callFunc 14 vs).run Try.prog w = .ok (.enter 14 vs) w := fun vs w => by go_simp
  have k17 : ∀ (vs : Array Value) (w : World), (callFunc 17 vs).run Try.prog w = .ok (.enter 17 vs) w := fun vs w => by go_simp
  have k8 : ∀ (vs : Array Value) (w : World), (callFunc 8 vs).run Try.prog w = .ok (.enter 8 vs) w := fun vs w => by go_simp
  go_enter Try.func6, Try.ntmps6
  go_wp2_with (go_at_call 10; refine (New_any _).mono ?_; rintro e w1 ⟨rfl, hD1, hg1⟩)
  obtain ⟨d, HD⟩ : ∃ d : Nat, Hid (d = w.heap.size) := ⟨_, rfl⟩
  rw [← HD.out] at hD1 ⊢
  have hs1 := hg1.size
  have hs0 : Solo (fun b => w.heap.size ≤ b) (DiskAt 45 d [] 0) w1 := Solo.make (V := New w w1) hD1 (fun b hb => by omega) (fun b hb => hb)
  clear hD1
  go_at_call 11
  refine (hs0.call (Append_yes _ d [] 0 A n c l (Reads.more (Reads.below hla hg1) hg1.size) (fits_of (by simp; omega)))).mono ?_
  rintro e w3 ⟨rfl, hj3, hs3⟩
  have hs3 : Solo (fun b => w.heap.size ≤ b) (DiskAt 45 d l 0) w3 := hs3
  have hb3 := Below.trans hg1 (hj3.below (fun _ h => h) hg1.size)
  clear hs0 hj3
  go_wp2_with (go_at_call 9; refine (within_nat _ x 0 n hx (by omega) (by omega) (by omega)).mono ?_; rintro e w4 ⟨m, hm0, hm1, rfl, rfl⟩)
  have hmA : m ≤ n := by omega
  clear hm0 hm1
  have hlm : (l.take m).length = m := by rw [List.length_take]; omega
  go_at_call 16
  refine (hs3.call (Cut_yes _ d l 0 m (by omega))).mono ?_
  rintro e w4 ⟨rfl, hj4, hs4⟩
  have hb4 := hb3.trans (hj4.below (fun _ h => h) hb3.size)
  clear hs3 hj4 hb3
  go_wp2_with fail
  go_at_call 15
  refine (solo_look hs4 fun V h1 => Waits_at _ d _ _ V h1 0 (by omega)).mono ?_
  rintro e w5 ⟨rfl, hg5⟩
  have hb5 := below_trans hb4 hg5 hb4.size
  have hs5 := hs4.grow (DiskAt.framed _ _ _ _) hg5
  clear hb4 hg5 hs4
  go_wp2_with fail
  go_at_call 11
  refine (hs5.call (Append_yes _ d (l.take m) m Z n' c' l' (Reads.more (Reads.below hlb hb5) hb5.size) (fits_of (by omega)))).mono ?_
  rintro e w6 ⟨rfl, hj6, hs6⟩
  have hb6 := hb5.trans (hj6.below (fun _ h => h) hb5.size)
  clear hs5 hj6 hb5
  have hlX : (l.take m ++ l').length = m + n' := by rw [List.length_append]; omega
  go_wp2_with fail
  go_at_call 15
  refine (solo_look hs6 fun V h1 => Waits_at _ d _ _ V h1 (n' : Int) (by omega)).mono ?_
  rintro e w7 ⟨rfl, hg7⟩
  have hb7 := below_trans hb6 hg7 hb6.size
  have hs7 := hs6.grow (DiskAt.framed _ _ _ _) hg7
  clear hb6 hg7 hs6
  go_wp2_with fail
  go_at_call 16
  refine (hs7.call (Cut_no _ d (l.take m ++ l') m _ (by omega) (by unfold cutB; rw [Bool.and_eq_false_iff]; exact .inr (decide_eq_false (by omega))))).mono ?_
  rintro e w8 ⟨rfl, hj8, hs8⟩
  have hb8 := hb7.trans (hj8.below (fun _ h => h) hb7.size)
  clear hs7 hj8 hb7
  go_wp2_with fail
  go_at_call 13
  refine (hs8.call (crash_at _ d (l.take m ++ l') m 4611686018427387904 (by omega) (l.take m ++ l') (m + n') 0 ((cuts_plain hlX).resolve_right (by omega)))).mono ?_
  rintro e w9 ⟨rfl, hj9, hs9⟩
  have hb7 := hb8.trans (hj9.below (fun _ h => h) hb8.size)
  clear hs8 hj9 hb8
  obtain ⟨_, V, h1, hV⟩ := hs9
  have hD7 : ∀ w1, Grow w9 w1 → DiskAt 45 d (l.take m ++ l') (m + n') w1 V := fun w1 hg => DiskAt.framed _ _ _ _ w9 w1 V h1 fun b hb => hg.block b (hV b hb).2
  have hLa : ∀ w1, Grow w9 w1 → Calls Try.prog 17 #[.pointer (some ⟨d, 0, none⟩)] w1 fun e w' => ∃ v, e = .returned v ∧ Grow w1 w' ∧ IsBytes (l.take m ++ l') v w' := fun w1 hg => by
    have := Lasts_is w1 d (l.take m ++ l') (m + n') V (hD7 w1 hg)
    rwa [List.take_of_length_le (by omega)] at this
  have hlb7 := Reads.more (Reads.below hlb hb7) hb7.size
  have hlm7 : Bytes w9 w9.heap.size A m (l.take m) := by
    have := Reads.take (Reads.more (Reads.below hla hb7) hb7.size) (k := m) (by omega)
    unfold Bytes
    rw [u8s_take]; exact this
  have hck : ¬ c < m := by omega
  have HLX := Lib.hid hlX
  have HLM := Lib.hid hlm
  clear hlX hlm
  go_wp2_with fail
  refine wp_region_flow 24 88 [(1, .inr (fun _ => IsBytes (l.take m ++ l'))), (13, .inr (fun _ => IsBytes (l.take m ++ l'))), (16, .inr (fun _ => IsBytes (l.take m ++ l'))), (21, .inl (.bool true))] rfl rfl (by kernel_rfl) (by kernel_rfl) (by kernel_rfl) ?_ ?_
  · intro x hx φ he
    simp only [List.mem_cons, List.not_mem_nil, or_false] at hx
    rcases hx with rfl | rfl | rfl | rfl <;> cases he
    all_goals first | exact lasts_quiet (lasting_bytes _) | fail
  intro ops' A' K' T hops hA' hK hT
  refine fl_mv 65 (by rfl) (by decide) (wanted_none (by rfl)) (by rw [hK.out]; rfl) (by rfl) _ (Or.inl (by rfl)) (.pointer (some ⟨d, 0, none⟩)) (by rfl) ?_
  refine fl_callAny 66 (by rfl) (by decide) (wanted_none (by rfl)) (fun _ => IsBytes (l.take m ++ l')) (by rw [hK.out]; rfl) 14 _ _ (by rfl) [.pointer (some ⟨d, 0, none⟩)] (by rfl) k14 (fun kk w1 (hg : Grow _ w1) hb hf => calls_behindAny (φ := fun _ => IsBytes (l.take m ++ l')) (by rfl) (by exact All_is w1 d _ _ V (hD7 w1 hg))) (fun v66 => ?_)
  refine fl_op1 67 (by rfl) (by decide) (wanted_none (by rfl)) (by rw [hK.out]; rfl) (by rfl) (.tmp 66) (v66) (by rfl) (.string ⟨(l.take m ++ l').toArray⟩) (fun ρ h1 kk w1 (hg : Grow _ w1) hb hf => by have cv := conv_is w1 (facts_take hf (by rw [hA'.out]; kernel_rfl)); go_simp) ?_
  refine fl_mv 68 (by rfl) (by decide) (wanted_none (by rfl)) (by rw [hK.out]; rfl) (by rfl) _ (Or.inl (by rfl)) (.slice A n c) (by rfl) ?_
  refine fl_mv 69 (by rfl) (by decide) (wanted_none (by rfl)) (by rw [hK.out]; rfl) (by rfl) _ (Or.inl (by rfl)) (.int .i64 (m : Int)) (by rfl) ?_
  refine fl_op2 70 (by rfl) (by decide) (wanted_none (by rfl)) (by rw [hK.out]; rfl) (by rfl) (.tmp 68) (.tmp 69) (.slice A n c) (.int .i64 (m : Int)) (by rfl) (by rfl) (.slice A m c) (fun ρ h1 h2 kk w1 (hg : Grow _ w1) hb hf => by go_simp) ?_
  refine fl_op1 71 (by rfl) (by decide) (wanted_none (by rfl)) (by rw [hK.out]; rfl) (by rfl) (.tmp 70) (.slice A m c) (by rfl) (.string ⟨(l.take m).toArray⟩) (fun ρ h1 kk w1 (hg : Grow _ w1) hb hf => by have cv := conv_bytes w1 (c := c) (hlm7.below hg); go_simp) ?_
  refine fl_mv 72 (by rfl) (by decide) (wanted_none (by rfl)) (by rw [hK.out]; rfl) (by rfl) _ (Or.inl (by rfl)) (.slice Z n' c') (by rfl) ?_
  refine fl_op1 73 (by rfl) (by decide) (wanted_none (by rfl)) (by rw [hK.out]; rfl) (by rfl) (.tmp 72) (.slice Z n' c') (by rfl) (.string ⟨l'.toArray⟩) (fun ρ h1 kk w1 (hg : Grow _ w1) hb hf => by have cv := conv_bytes w1 (c := c') (hlb7.below hg); go_simp) ?_
  refine fl_op2 74 (by rfl) (by decide) (wanted_none (by rfl)) (by rw [hK.out]; rfl) (by rfl) (.tmp 71) (.tmp 73) (.string ⟨(l.take m).toArray⟩) (.string ⟨l'.toArray⟩) (by rfl) (by rfl) (.string ⟨(l.take m ++ l').toArray⟩) (fun ρ h1 h2 kk w1 (hg : Grow _ w1) hb hf => by have ha := bytes_append (l.take m) l'; first | (go_simp; done) | (go_simp; omega)) ?_
  refine fl_op2 75 (by rfl) (by decide) (wanted_none (by rfl)) (by rw [hK.out]; rfl) (by rfl) (.tmp 67) (.tmp 74) (.string ⟨(l.take m ++ l').toArray⟩) (.string ⟨(l.take m ++ l').toArray⟩) (by rfl) (by rfl) (.bool true) (fun ρ h1 h2 kk w1 (hg : Grow _ w1) hb hf => by go_simp) ?_
  refine fl_mv 76 (by rfl) (by decide) (wanted_none (by rfl)) (by rw [hK.out]; rfl) (by rfl) _ (Or.inl (by rfl)) (.bool true) (by rfl) ?_
  refine fl_mv 77 (by rfl) (by decide) (wanted_if hops 11 true (by rfl) 76 (by rfl) true (by rfl)) (by rw [hK.out]; rfl) (by rfl) _ (Or.inl (by rfl)) (.pointer (some ⟨d, 0, none⟩)) (by rfl) ?_
  refine fl_callAny 78 (by rfl) (by decide) (wanted_if hops 11 true (by rfl) 76 (by rfl) true (by rfl)) (fun _ => IsBytes (l.take m ++ l')) (by rw [hK.out]; rfl) 17 _ _ (by rfl) [.pointer (some ⟨d, 0, none⟩)] (by rfl) k17 (fun kk w1 (hg : Grow _ w1) hb hf => calls_behindAny (φ := fun _ => IsBytes (l.take m ++ l')) (by rfl) (by exact hLa w1 hg)) (fun v78 => ?_)
  refine fl_op1 79 (by rfl) (by decide) (wanted_if hops 11 true (by rfl) 76 (by rfl) true (by rfl)) (by rw [hK.out]; rfl) (by rfl) (.tmp 78) (v78) (by rfl) (.string ⟨(l.take m ++ l').toArray⟩) (fun ρ h1 kk w1 (hg : Grow _ w1) hb hf => by have cv := conv_is w1 (facts_take hf (by rw [hA'.out]; kernel_rfl)); go_simp) ?_
  refine fl_mv 80 (by rfl) (by decide) (wanted_if hops 11 true (by rfl) 76 (by rfl) true (by rfl)) (by rw [hK.out]; rfl) (by rfl) _ (Or.inl (by rfl)) (.pointer (some ⟨d, 0, none⟩)) (by rfl) ?_
  refine fl_callAny 81 (by rfl) (by decide) (wanted_if hops 11 true (by rfl) 76 (by rfl) true (by rfl)) (fun _ => IsBytes (l.take m ++ l')) (by rw [hK.out]; rfl) 14 _ _ (by rfl) [.pointer (some ⟨d, 0, none⟩)] (by rfl) k14 (fun kk w1 (hg : Grow _ w1) hb hf => calls_behindAny (φ := fun _ => IsBytes (l.take m ++ l')) (by rfl) (by exact All_is w1 d _ _ V (hD7 w1 hg))) (fun v81 => ?_)
  refine fl_op1 82 (by rfl) (by decide) (wanted_if hops 11 true (by rfl) 76 (by rfl) true (by rfl)) (by rw [hK.out]; rfl) (by rfl) (.tmp 81) (v81) (by rfl) (.string ⟨(l.take m ++ l').toArray⟩) (fun ρ h1 kk w1 (hg : Grow _ w1) hb hf => by have cv := conv_is w1 (facts_take hf (by rw [hA'.out]; kernel_rfl)); go_simp) ?_
  refine fl_op2 83 (by rfl) (by decide) (wanted_if hops 11 true (by rfl) 76 (by rfl) true (by rfl)) (by rw [hK.out]; rfl) (by rfl) (.tmp 79) (.tmp 82) (.string ⟨(l.take m ++ l').toArray⟩) (.string ⟨(l.take m ++ l').toArray⟩) (by rfl) (by rfl) (.bool true) (fun ρ h1 h2 kk w1 (hg : Grow _ w1) hb hf => by go_simp) ?_
  refine fl_pick 84 (by rfl) (by decide) (wanted_none (by rfl)) (by rw [hK.out]; rfl) (by rfl) _ _ _ (by rfl) true (by rfl) (.bool true) (by rfl) ?_
  refine fl_mv 85 (by rfl) (by decide) (wanted_none (by rfl)) (by rw [hK.out]; rfl) (by rfl) _ (Or.inl (by rfl)) (.bool true) (by rfl) ?_
  refine fl_call 86 (by rfl) (by decide) (wanted_if hops 20 true (by rfl) 85 (by rfl) true (by rfl)) (.bool true) (by rw [hK.out]; rfl) 8 _ _ (by rfl) [] (by rfl) k8 (fun kk w1 (hg : Grow _ w1) hb hf => calls_behind (by rfl) (by exact known_any w1)) ?_
  refine fl_pick 87 (by rfl) (by decide) (wanted_none (by rfl)) (by rw [hK.out]; rfl) (by rfl) _ _ _ (by rfl) true (by rfl) (.bool true) (by rfl) ?_
  refine fl_mv 6 (by rfl) (by decide) (wanted_none (by rfl)) (by rw [hK.out]; rfl) (by rfl) _ (Or.inr (by rfl)) (.bool true) (by rfl) ?_
  refine fl_end (fun _ _ w1 (hg : Grow _ w1) _ hfacts => hT _ _ ?_)
  clear hops hA' hK hT
  simp only [putsL, Act.put, List.setIfInBounds_toArray, List.set_cons_zero, List.set_cons_succ, List.drop_succ_cons, List.drop_zero]
  go_wp2_with fail
  go_ret
  exact ⟨rfl, below_trans hb7 hg hb7.size⟩
set_option maxRecDepth 100000 in
set_option maxHeartbeats 4000000 in
theorem cuts_sg (w : World) (A : Option Addr) (n c : Nat) (l : List UInt8) (hb : Bytes w w.heap.size A n l) (hnc : n ≤ c) (Z : Option Addr) (n' c' : Nat) (l' : List UInt8) (hb' : Bytes w w.heap.size Z n' l') (hnc' : n' ≤ c') (x : Int) (hx : -9223372036854775808 ≤ x ∧ x ≤ 9223372036854775807)
    (hn : n ≤ 200) (hn' : 200 < n') :
    Calls Try.prog 6 #[.slice A n c, .slice Z n' c', .int .i64 x] w fun e w' => e = .returned (.bool true) ∧ Grow w w' := by
  have hla := hb
  obtain ⟨lb, hlb⟩ : ∃ lb, Bytes w w.heap.size Z 200 lb := ⟨l'.take 200, by
    have := Reads.take hb' (k := 200) (by omega)
    unfold Bytes
    rw [u8s_take]; exact this⟩
  have hLA := hla.len
  have hLB := hlb.len
  have k14 : ∀ (vs : Array Value) (w : World), (callFunc 14 vs).run Try.prog w = .ok (.enter 14 vs) w := fun vs w => by go_simp
  have k17 : ∀ (vs : Array Value) (w : World), (callFunc 17 vs).run Try.prog w = .ok (.enter 17 vs) w := fun vs w => by go_simp
  have k8 : ∀ (vs : Array Value) (w : World), (callFunc 8 vs).run Try.prog w = .ok (.enter 8 vs) w := fun vs w => by go_simp
  go_enter Try.func6, Try.ntmps6
  go_wp2_with (go_at_call 10; refine (New_any _).mono ?_; rintro e w1 ⟨rfl, hD1, hg1⟩)
  obtain ⟨d, HD⟩ : ∃ d : Nat, Hid (d = w.heap.size) := ⟨_, rfl⟩
  rw [← HD.out] at hD1 ⊢
  have hs1 := hg1.size
  have hs0 : Solo (fun b => w.heap.size ≤ b) (DiskAt 45 d [] 0) w1 := Solo.make (V := New w w1) hD1 (fun b hb => by omega) (fun b hb => hb)
  clear hD1
  go_at_call 11
  refine (hs0.call (Append_yes _ d [] 0 A n c l (Reads.more (Reads.below hla hg1) hg1.size) (fits_of (by simp; omega)))).mono ?_
  rintro e w3 ⟨rfl, hj3, hs3⟩
  have hs3 : Solo (fun b => w.heap.size ≤ b) (DiskAt 45 d l 0) w3 := hs3
  have hb3 := Below.trans hg1 (hj3.below (fun _ h => h) hg1.size)
  clear hs0 hj3
  go_wp2_with (go_at_call 9; refine (within_nat _ x 0 n hx (by omega) (by omega) (by omega)).mono ?_; rintro e w4 ⟨m, hm0, hm1, rfl, rfl⟩)
  have hmA : m ≤ n := by omega
  clear hm0 hm1
  have hlm : (l.take m).length = m := by rw [List.length_take]; omega
  go_at_call 16
  refine (hs3.call (Cut_yes _ d l 0 m (by omega))).mono ?_
  rintro e w4 ⟨rfl, hj4, hs4⟩
  have hb4 := hb3.trans (hj4.below (fun _ h => h) hb3.size)
  clear hs3 hj4 hb3
  go_wp2_with fail
  go_at_call 15
  refine (solo_look hs4 fun V h1 => Waits_at _ d _ _ V h1 0 (by omega)).mono ?_
  rintro e w5 ⟨rfl, hg5⟩
  have hb5 := below_trans hb4 hg5 hb4.size
  have hs5 := hs4.grow (DiskAt.framed _ _ _ _) hg5
  clear hb4 hg5 hs4
  go_wp2_with fail
  go_at_call 11
  refine (hs5.call (Append_yes _ d (l.take m) m Z 200 c' lb (Reads.more (Reads.below hlb hb5) hb5.size) (fits_of (by omega)))).mono ?_
  rintro e w6 ⟨rfl, hj6, hs6⟩
  have hb6 := hb5.trans (hj6.below (fun _ h => h) hb5.size)
  clear hs5 hj6 hb5
  have hlX : (l.take m ++ lb).length = m + 200 := by rw [List.length_append]; omega
  go_wp2_with fail
  go_at_call 15
  refine (solo_look hs6 fun V h1 => Waits_at _ d _ _ V h1 (200 : Int) (by omega)).mono ?_
  rintro e w7 ⟨rfl, hg7⟩
  have hb7 := below_trans hb6 hg7 hb6.size
  have hs7 := hs6.grow (DiskAt.framed _ _ _ _) hg7
  clear hb6 hg7 hs6
  go_wp2_with fail
  go_at_call 16
  refine (hs7.call (Cut_no _ d (l.take m ++ lb) m _ (by omega) (by unfold cutB; rw [Bool.and_eq_false_iff]; exact .inr (decide_eq_false (by omega))))).mono ?_
  rintro e w8 ⟨rfl, hj8, hs8⟩
  have hb8 := hb7.trans (hj8.below (fun _ h => h) hb7.size)
  clear hs7 hj8 hb7
  go_wp2_with fail
  go_at_call 13
  refine (hs8.call (crash_at _ d (l.take m ++ lb) m 4611686018427387904 (by omega) (l.take m ++ lb) (m + 200) 0 ((cuts_plain hlX).resolve_right (by omega)))).mono ?_
  rintro e w9 ⟨rfl, hj9, hs9⟩
  have hb7 := hb8.trans (hj9.below (fun _ h => h) hb8.size)
  clear hs8 hj9 hb8
  obtain ⟨_, V, h1, hV⟩ := hs9
  have hD7 : ∀ w1, Grow w9 w1 → DiskAt 45 d (l.take m ++ lb) (m + 200) w1 V := fun w1 hg => DiskAt.framed _ _ _ _ w9 w1 V h1 fun b hb => hg.block b (hV b hb).2
  have hLa : ∀ w1, Grow w9 w1 → Calls Try.prog 17 #[.pointer (some ⟨d, 0, none⟩)] w1 fun e w' => ∃ v, e = .returned v ∧ Grow w1 w' ∧ IsBytes (l.take m ++ lb) v w' := fun w1 hg => by
    have := Lasts_is w1 d (l.take m ++ lb) (m + 200) V (hD7 w1 hg)
    rwa [List.take_of_length_le (by omega)] at this
  have hlb7 := Reads.more (Reads.below hlb hb7) hb7.size
  have hlm7 : Bytes w9 w9.heap.size A m (l.take m) := by
    have := Reads.take (Reads.more (Reads.below hla hb7) hb7.size) (k := m) (by omega)
    unfold Bytes
    rw [u8s_take]; exact this
  have hck : ¬ c < m := by omega
  have HLX := Lib.hid hlX
  have HLM := Lib.hid hlm
  clear hlX hlm
  go_wp2_with fail
  refine wp_region_flow 24 88 [(1, .inr (fun _ => IsBytes (l.take m ++ lb))), (13, .inr (fun _ => IsBytes (l.take m ++ lb))), (16, .inr (fun _ => IsBytes (l.take m ++ lb))), (21, .inl (.bool true))] rfl rfl (by kernel_rfl) (by kernel_rfl) (by kernel_rfl) ?_ ?_
  · intro x hx φ he
    simp only [List.mem_cons, List.not_mem_nil, or_false] at hx
    rcases hx with rfl | rfl | rfl | rfl <;> cases he
    all_goals first | exact lasts_quiet (lasting_bytes _) | fail
  intro ops' A' K' T hops hA' hK hT
  refine fl_mv 65 (by rfl) (by decide) (wanted_none (by rfl)) (by rw [hK.out]; rfl) (by rfl) _ (Or.inl (by rfl)) (.pointer (some ⟨d, 0, none⟩)) (by rfl) ?_
  refine fl_callAny 66 (by rfl) (by decide) (wanted_none (by rfl)) (fun _ => IsBytes (l.take m ++ lb)) (by rw [hK.out]; rfl) 14 _ _ (by rfl) [.pointer (some ⟨d, 0, none⟩)] (by rfl) k14 (fun kk w1 (hg : Grow _ w1) hb hf => calls_behindAny (φ := fun _ => IsBytes (l.take m ++ lb)) (by rfl) (by exact All_is w1 d _ _ V (hD7 w1 hg))) (fun v66 => ?_)
  refine fl_op1 67 (by rfl) (by decide) (wanted_none (by rfl)) (by rw [hK.out]; rfl) (by rfl) (.tmp 66) (v66) (by rfl) (.string ⟨(l.take m ++ lb).toArray⟩) (fun ρ h1 kk w1 (hg : Grow _ w1) hb hf => by have cv := conv_is w1 (facts_take hf (by rw [hA'.out]; kernel_rfl)); go_simp) ?_
  refine fl_mv 68 (by rfl) (by decide) (wanted_none (by rfl)) (by rw [hK.out]; rfl) (by rfl) _ (Or.inl (by rfl)) (.slice A n c) (by rfl) ?_
  refine fl_mv 69 (by rfl) (by decide) (wanted_none (by rfl)) (by rw [hK.out]; rfl) (by rfl) _ (Or.inl (by rfl)) (.int .i64 (m : Int)) (by rfl) ?_
  refine fl_op2 70 (by rfl) (by decide) (wanted_none (by rfl)) (by rw [hK.out]; rfl) (by rfl) (.tmp 68) (.tmp 69) (.slice A n c) (.int .i64 (m : Int)) (by rfl) (by rfl) (.slice A m c) (fun ρ h1 h2 kk w1 (hg : Grow _ w1) hb hf => by go_simp) ?_
  refine fl_op1 71 (by rfl) (by decide) (wanted_none (by rfl)) (by rw [hK.out]; rfl) (by rfl) (.tmp 70) (.slice A m c) (by rfl) (.string ⟨(l.take m).toArray⟩) (fun ρ h1 kk w1 (hg : Grow _ w1) hb hf => by have cv := conv_bytes w1 (c := c) (hlm7.below hg); go_simp) ?_
  refine fl_mv 72 (by rfl) (by decide) (wanted_none (by rfl)) (by rw [hK.out]; rfl) (by rfl) _ (Or.inl (by rfl)) (.slice Z 200 c') (by rfl) ?_
  refine fl_op1 73 (by rfl) (by decide) (wanted_none (by rfl)) (by rw [hK.out]; rfl) (by rfl) (.tmp 72) (.slice Z 200 c') (by rfl) (.string ⟨lb.toArray⟩) (fun ρ h1 kk w1 (hg : Grow _ w1) hb hf => by have cv := conv_bytes w1 (c := c') (hlb7.below hg); go_simp) ?_
  refine fl_op2 74 (by rfl) (by decide) (wanted_none (by rfl)) (by rw [hK.out]; rfl) (by rfl) (.tmp 71) (.tmp 73) (.string ⟨(l.take m).toArray⟩) (.string ⟨lb.toArray⟩) (by rfl) (by rfl) (.string ⟨(l.take m ++ lb).toArray⟩) (fun ρ h1 h2 kk w1 (hg : Grow _ w1) hb hf => by have ha := bytes_append (l.take m) lb; first | (go_simp; done) | (go_simp; omega)) ?_
  refine fl_op2 75 (by rfl) (by decide) (wanted_none (by rfl)) (by rw [hK.out]; rfl) (by rfl) (.tmp 67) (.tmp 74) (.string ⟨(l.take m ++ lb).toArray⟩) (.string ⟨(l.take m ++ lb).toArray⟩) (by rfl) (by rfl) (.bool true) (fun ρ h1 h2 kk w1 (hg : Grow _ w1) hb hf => by go_simp) ?_
  refine fl_mv 76 (by rfl) (by decide) (wanted_none (by rfl)) (by rw [hK.out]; rfl) (by rfl) _ (Or.inl (by rfl)) (.bool true) (by rfl) ?_
  refine fl_mv 77 (by rfl) (by decide) (wanted_if hops 11 true (by rfl) 76 (by rfl) true (by rfl)) (by rw [hK.out]; rfl) (by rfl) _ (Or.inl (by rfl)) (.pointer (some ⟨d, 0, none⟩)) (by rfl) ?_
  refine fl_callAny 78 (by rfl) (by decide) (wanted_if hops 11 true (by rfl) 76 (by rfl) true (by rfl)) (fun _ => IsBytes (l.take m ++ lb)) (by rw [hK.out]; rfl) 17 _ _ (by rfl) [.pointer (some ⟨d, 0, none⟩)] (by rfl) k17 (fun kk w1 (hg : Grow _ w1) hb hf => calls_behindAny (φ := fun _ => IsBytes (l.take m ++ lb)) (by rfl) (by exact hLa w1 hg)) (fun v78 => ?_)
  refine fl_op1 79 (by rfl) (by decide) (wanted_if hops 11 true (by rfl) 76 (by rfl) true (by rfl)) (by rw [hK.out]; rfl) (by rfl) (.tmp 78) (v78) (by rfl) (.string ⟨(l.take m ++ lb).toArray⟩) (fun ρ h1 kk w1 (hg : Grow _ w1) hb hf => by have cv := conv_is w1 (facts_take hf (by rw [hA'.out]; kernel_rfl)); go_simp) ?_
  refine fl_mv 80 (by rfl) (by decide) (wanted_if hops 11 true (by rfl) 76 (by rfl) true (by rfl)) (by rw [hK.out]; rfl) (by rfl) _ (Or.inl (by rfl)) (.pointer (some ⟨d, 0, none⟩)) (by rfl) ?_
  refine fl_callAny 81 (by rfl) (by decide) (wanted_if hops 11 true (by rfl) 76 (by rfl) true (by rfl)) (fun _ => IsBytes (l.take m ++ lb)) (by rw [hK.out]; rfl) 14 _ _ (by rfl) [.pointer (some ⟨d, 0, none⟩)] (by rfl) k14 (fun kk w1 (hg : Grow _ w1) hb hf => calls_behindAny (φ := fun _ => IsBytes (l.take m ++ lb)) (by rfl) (by exact All_is w1 d _ _ V (hD7 w1 hg))) (fun v81 => ?_)
  refine fl_op1 82 (by rfl) (by decide) (wanted_if hops 11 true (by rfl) 76 (by rfl) true (by rfl)) (by rw [hK.out]; rfl) (by rfl) (.tmp 81) (v81) (by rfl) (.string ⟨(l.take m ++ lb).toArray⟩) (fun ρ h1 kk w1 (hg : Grow _ w1) hb hf => by have cv := conv_is w1 (facts_take hf (by rw [hA'.out]; kernel_rfl)); go_simp) ?_
  refine fl_op2 83 (by rfl) (by decide) (wanted_if hops 11 true (by rfl) 76 (by rfl) true (by rfl)) (by rw [hK.out]; rfl) (by rfl) (.tmp 79) (.tmp 82) (.string ⟨(l.take m ++ lb).toArray⟩) (.string ⟨(l.take m ++ lb).toArray⟩) (by rfl) (by rfl) (.bool true) (fun ρ h1 h2 kk w1 (hg : Grow _ w1) hb hf => by go_simp) ?_
  refine fl_pick 84 (by rfl) (by decide) (wanted_none (by rfl)) (by rw [hK.out]; rfl) (by rfl) _ _ _ (by rfl) true (by rfl) (.bool true) (by rfl) ?_
  refine fl_mv 85 (by rfl) (by decide) (wanted_none (by rfl)) (by rw [hK.out]; rfl) (by rfl) _ (Or.inl (by rfl)) (.bool true) (by rfl) ?_
  refine fl_call 86 (by rfl) (by decide) (wanted_if hops 20 true (by rfl) 85 (by rfl) true (by rfl)) (.bool true) (by rw [hK.out]; rfl) 8 _ _ (by rfl) [] (by rfl) k8 (fun kk w1 (hg : Grow _ w1) hb hf => calls_behind (by rfl) (by exact known_any w1)) ?_
  refine fl_pick 87 (by rfl) (by decide) (wanted_none (by rfl)) (by rw [hK.out]; rfl) (by rfl) _ _ _ (by rfl) true (by rfl) (.bool true) (by rfl) ?_
  refine fl_mv 6 (by rfl) (by decide) (wanted_none (by rfl)) (by rw [hK.out]; rfl) (by rfl) _ (Or.inr (by rfl)) (.bool true) (by rfl) ?_
  refine fl_end (fun _ _ w1 (hg : Grow _ w1) _ hfacts => hT _ _ ?_)
  clear hops hA' hK hT
  simp only [putsL, Act.put, List.setIfInBounds_toArray, List.set_cons_zero, List.set_cons_succ, List.drop_succ_cons, List.drop_zero]
  go_wp2_with fail
  go_ret
  exact ⟨rfl, below_trans hb7 hg hb7.size⟩
end Go.Proofs.Ytedpcdliadfhgaa
