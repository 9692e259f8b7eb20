/- ledger.Match: its walk. -/
import Derived.Test.YtidkhokecekpgaaDoorGplain
import Derived.Test.YtidkhokecekpgaaDoorGbase
namespace Go.Proofs.YtidkhokecekpgaaDoor
open Go.RowKit Go.Hop
/-- is a label among them -/
def hasB (L : List Lb) (x : Lb) : Bool := L.any fun y => decide (y = x)
set_option maxRecDepth 100000 in
theorem IndexL_any (w : World) (V : Nat → Prop) (A : Option Addr) (n c : Nat) (L : List Lb) (x : Lb) (h : In w V 2 A n (lcells L)) (hn : n ≤ 1048576) :
    Calls Tryd.prog 46 #[.slice A n c, .agg #[.string x.1, .string x.2]] w fun e w' => ∃ z : Int, e = .returned (.int .i64 z) ∧ (0 ≤ z ↔ hasB L x = true) ∧ Grow w w' := by
  have hga : Grow w (w.alloc (.cells #[.string x.1, .string x.2] 36)) := (Below.refl _ _).alloc (Nat.le_refl _) _
  have hB : Blk (w.alloc (.cells #[.string x.1, .string x.2] 36)) w.heap.size 36 #[.string x.1, .string x.2] := Blk.made w _ _
  have hll := LIn.len h
  go_enter Tryd.func46, Tryd.ntmps46
  go_wp2_with fail
  go_loopw [8] (fun i wr => ∃ k : Nat, k ≤ n ∧ i = .int .i64 (k : Int) ∧ (∀ (j : Nat) (hj : j < L.length), j < k → L[j] ≠ x) ∧ Grow (w.alloc (.cells #[.string x.1, .string x.2] 36)) wr) (fun i _ => n - (intOf i).toNat)
  case atStart => exact ⟨0, by omega, rfl, fun j hj h0 => absurd h0 (by omega), Grow.refl _⟩
  case round =>
    obtain ⟨k, hkn, rfl, hno, hgr⟩ := hrel
    have hgw := hga.trans hgr
    by_cases hk : k < n
    · have hd : decide ((k : Int) < (n : Int)) = true := decide_eq_true (by omega)
      have hBr := hB.grow hgr
      obtain ⟨ad, hq, rfl, f0, f1⟩ := lab_at (h.grow hgw) hk
      have hk' : ¬ n ≤ k := by omega
      have HK : Hid (L[k] = x → hasB L x = true) := Lib.hid fun e => List.any_eq_true.2 ⟨L[k], List.getElem_mem hq, decide_eq_true e⟩
      have HN : Hid (L[k] ≠ x → ∀ (j : Nat) (hj : j < L.length), j < k + 1 → L[j] ≠ x) := Lib.hid fun h0 j hj hjk => by
        rcases Nat.lt_or_ge j k with h1 | h1
        · exact hno j hj h1
        · have : j = k := by omega
          subst this; exact h0
      obtain ⟨y, HY⟩ : ∃ y : Lb, Hid (y = L[k]) := ⟨L[k], Lib.hid rfl⟩
      rw [← HY.out] at f0 f1 HK HN
      obtain ⟨y1, y2⟩ := y
      clear hno HY
      by_cases h1 : y1.toList = x.1.toList
      · by_cases h2 : y2.toList = x.2.toList
        · have e1 : (x.1.toList == y1.toList) = true := by rw [h1]; simp
          have e2 : (x.2.toList == y2.toList) = true := by rw [h2]; simp
          have H1 := Lib.hid h1
          have H2 := Lib.hid h2
          clear h1 h2 HN
          go_wp2_with fail
          refine wp_region_flow 6 19 [] rfl rfl (by kernel_rfl) (by kernel_rfl) (by kernel_rfl) ?_ ?_
          · intro x hx φ he
            cases hx
          intro ops' A' K' T hops hA' hK hT
          refine fl_op1 11 (by rfl) (by decide) (wanted_none (by rfl)) (by rw [hK.out]; rfl) (by rfl) (.tmp 3) (.pointer (some ⟨w.heap.size, 0, none⟩)) (by rfl) (.agg #[.string x.1, .string x.2]) (fun ρ h1 kk w1 (hg : Grow _ w1) hb hf => by have q0 := (hBr.grow hg).cell 0; have q1 := (hBr.grow hg).cell 1; go_simp) ?_
          refine fl_mv 12 (by rfl) (by decide) (wanted_none (by rfl)) (by rw [hK.out]; rfl) (by rfl) _ (Or.inl (by rfl)) (.slice (some ad) n c) (by rfl) ?_
          refine fl_mv 13 (by rfl) (by decide) (wanted_none (by rfl)) (by rw [hK.out]; rfl) (by rfl) _ (Or.inl (by rfl)) (.int .i64 (k : Int)) (by rfl) ?_
          refine fl_op2 14 (by rfl) (by decide) (wanted_none (by rfl)) (by rw [hK.out]; rfl) (by rfl) (.tmp 12) (.tmp 13) (.slice (some ad) n c) (.int .i64 (k : Int)) (by rfl) (by rfl) (.pointer (some (ad.add (k * 2)))) (fun ρ h1 h2 kk w1 (hg : Grow _ w1) hb hf => by go_simp; try (intro hlt; omega)) ?_
          refine fl_op1 15 (by rfl) (by decide) (wanted_none (by rfl)) (by rw [hK.out]; rfl) (by rfl) (.tmp 14) (.pointer (some (ad.add (k * 2)))) (by rfl) (.agg #[.string y1, .string y2]) (fun ρ h1 kk w1 (hg : Grow _ w1) hb hf => by have q0 := f0 w1 hg; have q1 := f1 w1 hg; go_simp) ?_
          refine fl_op2 16 (by rfl) (by decide) (wanted_none (by rfl)) (by rw [hK.out]; rfl) (by rfl) (.tmp 11) (.tmp 15) (.agg #[.string x.1, .string x.2]) (.agg #[.string y1, .string y2]) (by rfl) (by rfl) (.bool true) (fun ρ h1 h2 kk w1 (hg : Grow _ w1) hb hf => by go_simp) ?_
          refine fl_end (fun _ _ w1 (hg : Grow _ w1) _ hfacts => hT _ _ ?_)
          clear hops hA' hK hT
          simp only [putsL, Act.put, List.setIfInBounds_toArray, List.set_cons_zero, List.set_cons_succ, List.drop_succ_cons, List.drop_zero]
          clear hfacts
          go_wp2_with fail
          go_ret
          exact ⟨(k : Int), rfl, ⟨fun _ => HK.out (Prod.ext (txt_eq.1 H1.out) (txt_eq.1 H2.out)), fun _ => by omega⟩, hgw.trans hg⟩
        · have e2 : (x.2.toList == y2.toList) = false := beq_eq_false_iff_ne.2 fun e => h2 e.symm
          have NO := HN.out fun e => h2 (by rw [← e])
          have NO := Lib.hid NO
          clear h2 HK HN
          go_wp2_with fail
          refine wp_region_flow 6 19 [] rfl rfl (by kernel_rfl) (by kernel_rfl) (by kernel_rfl) ?_ ?_
          · intro x hx φ he
            cases hx
          intro ops' A' K' T hops hA' hK hT
          refine fl_op1 11 (by rfl) (by decide) (wanted_none (by rfl)) (by rw [hK.out]; rfl) (by rfl) (.tmp 3) (.pointer (some ⟨w.heap.size, 0, none⟩)) (by rfl) (.agg #[.string x.1, .string x.2]) (fun ρ h1 kk w1 (hg : Grow _ w1) hb hf => by have q0 := (hBr.grow hg).cell 0; have q1 := (hBr.grow hg).cell 1; go_simp) ?_
          refine fl_mv 12 (by rfl) (by decide) (wanted_none (by rfl)) (by rw [hK.out]; rfl) (by rfl) _ (Or.inl (by rfl)) (.slice (some ad) n c) (by rfl) ?_
          refine fl_mv 13 (by rfl) (by decide) (wanted_none (by rfl)) (by rw [hK.out]; rfl) (by rfl) _ (Or.inl (by rfl)) (.int .i64 (k : Int)) (by rfl) ?_
          refine fl_op2 14 (by rfl) (by decide) (wanted_none (by rfl)) (by rw [hK.out]; rfl) (by rfl) (.tmp 12) (.tmp 13) (.slice (some ad) n c) (.int .i64 (k : Int)) (by rfl) (by rfl) (.pointer (some (ad.add (k * 2)))) (fun ρ h1 h2 kk w1 (hg : Grow _ w1) hb hf => by go_simp; try (intro hlt; omega)) ?_
          refine fl_op1 15 (by rfl) (by decide) (wanted_none (by rfl)) (by rw [hK.out]; rfl) (by rfl) (.tmp 14) (.pointer (some (ad.add (k * 2)))) (by rfl) (.agg #[.string y1, .string y2]) (fun ρ h1 kk w1 (hg : Grow _ w1) hb hf => by have q0 := f0 w1 hg; have q1 := f1 w1 hg; go_simp) ?_
          refine fl_op2 16 (by rfl) (by decide) (wanted_none (by rfl)) (by rw [hK.out]; rfl) (by rfl) (.tmp 11) (.tmp 15) (.agg #[.string x.1, .string x.2]) (.agg #[.string y1, .string y2]) (by rfl) (by rfl) (.bool false) (fun ρ h1 h2 kk w1 (hg : Grow _ w1) hb hf => by go_simp) ?_
          refine fl_end (fun _ _ w1 (hg : Grow _ w1) _ hfacts => hT _ _ ?_)
          clear hops hA' hK hT
          simp only [putsL, Act.put, List.setIfInBounds_toArray, List.set_cons_zero, List.set_cons_succ, List.drop_succ_cons, List.drop_zero]
          clear hfacts
          go_wp2_with fail
          go_roundw
          case rel => exact ⟨k + 1, by omega, by go_num, NO.out, hgr.trans hg⟩
          case measure => simp [intOf]; omega
      · have e1 : (x.1.toList == y1.toList) = false := beq_eq_false_iff_ne.2 fun e => h1 e.symm
        have NO := Lib.hid (HN.out fun e => h1 (by rw [← e]))
        clear h1 HK HN
        go_wp2_with fail
        refine wp_region_flow 6 19 [] rfl rfl (by kernel_rfl) (by kernel_rfl) (by kernel_rfl) ?_ ?_
        · intro x hx φ he
          cases hx
        intro ops' A' K' T hops hA' hK hT
        refine fl_op1 11 (by rfl) (by decide) (wanted_none (by rfl)) (by rw [hK.out]; rfl) (by rfl) (.tmp 3) (.pointer (some ⟨w.heap.size, 0, none⟩)) (by rfl) (.agg #[.string x.1, .string x.2]) (fun ρ h1 kk w1 (hg : Grow _ w1) hb hf => by have q0 := (hBr.grow hg).cell 0; have q1 := (hBr.grow hg).cell 1; go_simp) ?_
        refine fl_mv 12 (by rfl) (by decide) (wanted_none (by rfl)) (by rw [hK.out]; rfl) (by rfl) _ (Or.inl (by rfl)) (.slice (some ad) n c) (by rfl) ?_
        refine fl_mv 13 (by rfl) (by decide) (wanted_none (by rfl)) (by rw [hK.out]; rfl) (by rfl) _ (Or.inl (by rfl)) (.int .i64 (k : Int)) (by rfl) ?_
        refine fl_op2 14 (by rfl) (by decide) (wanted_none (by rfl)) (by rw [hK.out]; rfl) (by rfl) (.tmp 12) (.tmp 13) (.slice (some ad) n c) (.int .i64 (k : Int)) (by rfl) (by rfl) (.pointer (some (ad.add (k * 2)))) (fun ρ h1 h2 kk w1 (hg : Grow _ w1) hb hf => by go_simp; try (intro hlt; omega)) ?_
        refine fl_op1 15 (by rfl) (by decide) (wanted_none (by rfl)) (by rw [hK.out]; rfl) (by rfl) (.tmp 14) (.pointer (some (ad.add (k * 2)))) (by rfl) (.agg #[.string y1, .string y2]) (fun ρ h1 kk w1 (hg : Grow _ w1) hb hf => by have q0 := f0 w1 hg; have q1 := f1 w1 hg; go_simp) ?_
        refine fl_op2 16 (by rfl) (by decide) (wanted_none (by rfl)) (by rw [hK.out]; rfl) (by rfl) (.tmp 11) (.tmp 15) (.agg #[.string x.1, .string x.2]) (.agg #[.string y1, .string y2]) (by rfl) (by rfl) (.bool false) (fun ρ h1 h2 kk w1 (hg : Grow _ w1) hb hf => by go_simp) ?_
        refine fl_end (fun _ _ w1 (hg : Grow _ w1) _ hfacts => hT _ _ ?_)
        clear hops hA' hK hT
        simp only [putsL, Act.put, List.setIfInBounds_toArray, List.set_cons_zero, List.set_cons_succ, List.drop_succ_cons, List.drop_zero]
        clear hfacts
        go_wp2_with fail
        go_roundw
        case rel => exact ⟨k + 1, by omega, by go_num, NO.out, hgr.trans hg⟩
        case measure => simp [intOf]; omega
    · obtain rfl : k = n := by omega
      have hd : decide ((k : Int) < (k : Int)) = false := decide_eq_false (by omega)
      go_wp2_with fail
      go_ret
      refine ⟨-1, rfl, ⟨fun h => absurd h (by omega), fun h => ?_⟩, hgw⟩
      obtain ⟨y, hy, he⟩ := List.any_eq_true.1 h
      obtain ⟨j, hj, rfl⟩ := List.getElem_of_mem hy
      exact absurd (of_decide_eq_true he) (hno j hj (by omega))
theorem Contains_any (w : World) (V : Nat → Prop) (A : Option Addr) (n c : Nat) (L : List Lb) (x : Lb) (h : In w V 2 A n (lcells L)) (hn : n ≤ 1048576) :
    Calls Tryd.prog 30 #[.slice A n c, .agg #[.string x.1, .string x.2]] w fun e w' => e = .returned (.bool (hasB L x)) ∧ Grow w w' := by
  have hga : Grow w (w.alloc (.cells #[.string x.1, .string x.2] 36)) := (Below.refl _ _).alloc (Nat.le_refl _) _
  have hB : Blk (w.alloc (.cells #[.string x.1, .string x.2] 36)) w.heap.size 36 #[.string x.1, .string x.2] := Blk.made w _ _
  have hI := IndexL_any (w.alloc (.cells #[.string x.1, .string x.2] 36)) V A n c L x (h.grow hga) hn
  generalize hasB L x = r at hI ⊢
  go_enter Tryd.func30, Tryd.ntmps30
  go_wp2_with fail
  refine hI.mono ?_
  rintro e w2 ⟨z, rfl, hz, hg2⟩
  clear hI
  cases r with
  | true =>
    have h0 := hz.2 rfl
    have hd : decide ((0 : Int) ≤ z) = true := decide_eq_true h0
    clear hz
    go_wp2_with fail
    go_ret
    exact ⟨rfl, hga.trans hg2⟩
  | false =>
    have h0 : ¬ 0 ≤ z := fun h => by have := hz.1 h; cases this
    have hd : decide ((0 : Int) ≤ z) = false := decide_eq_false h0
    clear hz
    go_wp2_with fail
    go_ret
    exact ⟨rfl, hga.trans hg2⟩
theorem MatchF_any (w : World) (V : Nat → Prop) (A : Option Addr) (n c : Nat) (L : List Lb) (x : Lb) (b : Nat) (hb : Blk w b 37 #[.slice A n c]) (h : In w V 2 A n (lcells L)) (hn : n ≤ 1048576) :
    Calls Tryd.prog 29 #[.agg #[.string x.1, .string x.2], .pointer (some ⟨b, 0, none⟩)] w fun e w' => e = .returned (.bool (!hasB L x)) ∧ Grow w w' := by
  have hga : Grow w (w.alloc (.cells #[.string x.1, .string x.2] 36)) := (Below.refl _ _).alloc (Nat.le_refl _) _
  have c0 := (hb.grow hga).cell 0
  have hI := Contains_any (w.alloc (.cells #[.string x.1, .string x.2] 36)) V A n c L x (h.grow hga) hn
  generalize hasB L x = r at hI
  go_enter Tryd.func29, Tryd.ntmps29
  go_wp2_with fail
  refine hI.mono ?_
  rintro e w2 ⟨rfl, hg2⟩
  go_wp2_with fail
  go_ret
  exact ⟨rfl, hga.trans hg2⟩
theorem IndexFuncL_any (w : World) (V U : Nat → Prop) (A B : Option Addr) (n c m d : Nat) (L l : List Lb) (b : Nat) (hb : Blk w b 37 #[.slice A n c]) (h : In w V 2 A n (lcells L)) (hn : n ≤ 1048576) (hl : In w U 2 B m (lcells l)) (hm : m ≤ 1048576) :
    Calls Tryd.prog 45 #[.slice B m d, .func (.func 29) #[] #[.pointer (some ⟨b, 0, none⟩)]] w fun e w' => ∃ z : Int, e = .returned (.int .i64 z) ∧ (0 ≤ z ↔ (l.all fun x => hasB L x) = false) ∧ Grow w w' := by
  have hll := LIn.len hl
  go_enter Tryd.func45, Tryd.ntmps45
  go_wp2_with fail
  go_loopw [8] (fun i wr => ∃ k : Nat, k ≤ m ∧ i = .int .i64 (k : Int) ∧ (∀ (j : Nat) (hj : j < l.length), j < k → hasB L l[j] = true) ∧ Grow w wr) (fun i _ => m - (intOf i).toNat)
  case atStart => exact ⟨0, by omega, rfl, fun j hj h0 => absurd h0 (by omega), Grow.refl _⟩
  case round =>
    obtain ⟨k, hkm, rfl, hno, hgr⟩ := hrel
    by_cases hk : k < m
    · have hd : decide ((k : Int) < (m : Int)) = true := decide_eq_true (by omega)
      obtain ⟨ad, hq, rfl, f0, f1⟩ := lab_at (hl.grow hgr) hk
      have e0 := f0 wr (Grow.refl _)
      have e1 := f1 wr (Grow.refl _)
      have hk' : ¬ m ≤ k := by omega
      have HK : Hid (hasB L l[k] = false → (l.all fun x => hasB L x) = false) := Lib.hid fun e => by
        rw [List.all_eq_false]
        exact ⟨l[k], List.getElem_mem hq, by rw [e]; simp⟩
      have HN : Hid (hasB L l[k] = true → ∀ (j : Nat) (hj : j < l.length), j < k + 1 → hasB L l[j] = true) := Lib.hid fun h0 j hj hjk => by
        rcases Nat.lt_or_ge j k with h1 | h1
        · exact hno j hj h1
        · have : j = k := by omega
          subst this; exact h0
      have hc := MatchF_any wr V A n c L l[k] b (hb.grow hgr) (h.grow hgr) hn
      generalize l[k] = x at e0 e1 hc HK HN
      clear hno f0 f1
      cases hx : hasB L x with
      | true =>
        rw [hx] at hc
        have NO := Lib.hid (HN.out hx)
        clear hx HK HN
        go_wp2_with fail
        refine hc.mono ?_
        rintro e w2 ⟨rfl, hg2⟩
        go_wp2_with fail
        go_roundw
        case rel => exact ⟨k + 1, by omega, by go_num, NO.out, hgr.trans hg2⟩
        case measure => simp [intOf]; omega
      | false =>
        rw [hx] at hc
        have NO := Lib.hid (HK.out hx)
        clear hx HK HN
        go_wp2_with fail
        refine hc.mono ?_
        rintro e w2 ⟨rfl, hg2⟩
        go_wp2_with fail
        go_ret
        exact ⟨(k : Int), rfl, ⟨fun _ => NO.out, fun _ => by omega⟩, hgr.trans hg2⟩
    · obtain rfl : k = m := by omega
      have hd : decide ((k : Int) < (k : Int)) = false := decide_eq_false (by omega)
      go_wp2_with fail
      go_ret
      refine ⟨-1, rfl, ⟨fun h => absurd h (by omega), fun h => ?_⟩, hgr⟩
      obtain ⟨y, hy, he⟩ := List.all_eq_false.1 h
      obtain ⟨j, hj, rfl⟩ := List.getElem_of_mem hy
      exact absurd (hno j hj (by omega)) he
theorem ContainsFunc_any (w : World) (V U : Nat → Prop) (A B : Option Addr) (n c m d : Nat) (L l : List Lb) (b : Nat) (hb : Blk w b 37 #[.slice A n c]) (h : In w V 2 A n (lcells L)) (hn : n ≤ 1048576) (hl : In w U 2 B m (lcells l)) (hm : m ≤ 1048576) :
    Calls Tryd.prog 28 #[.slice B m d, .func (.func 29) #[] #[.pointer (some ⟨b, 0, none⟩)]] w fun e w' => e = .returned (.bool (!l.all fun x => hasB L x)) ∧ Grow w w' := by
  have hI := IndexFuncL_any w V U A B n c m d L l b hb h hn hl hm
  generalize (l.all fun x => hasB L x) = r at hI ⊢
  go_enter Tryd.func28, Tryd.ntmps28
  go_wp2_with fail
  refine hI.mono ?_
  rintro e w2 ⟨z, rfl, hz, hg2⟩
  clear hI
  cases r with
  | false =>
    have h0 := hz.2 rfl
    have hd : decide ((0 : Int) ≤ z) = true := decide_eq_true h0
    clear hz
    go_wp2_with fail
    go_ret
    exact ⟨rfl, hg2⟩
  | true =>
    have h0 : ¬ 0 ≤ z := fun h => by have := hz.1 h; cases this
    have hd : decide ((0 : Int) ≤ z) = false := decide_eq_false h0
    clear hz
    go_wp2_with fail
    go_ret
    exact ⟨rfl, hg2⟩
theorem match_is (s : ByteArray) (l : List Lb) : matchB s l = (decide (parseE s = 0) && l.all fun x => hasB (parseL s) x) := rfl
set_option maxRecDepth 20000 in
theorem Match_any (w : World) (s : ByteArray) (hs : s.size ≤ 1000000) (U : Nat → Prop) (B : Option Addr) (m d : Nat) (l : List Lb) (hl : In w U 2 B m (lcells l)) (hm : m ≤ 1048576) :
    Calls Tryd.prog 14 #[.string s, .slice B m d] w fun e w' => e = .returned (.bool (matchB s l)) ∧ Grow w w' := by
  have hP := Parse_any w s hs
  have hlen : (parseL s).length ≤ 1048576 := by
    unfold parseL
    split
    · unfold labelsOf; rw [List.length_map]; have := cutAll_len 44 s.data.toList; rw [data_len] at this; omega
    · simp
  rw [match_is]
  have hE : parseE s = 0 ∨ parseE s = 12 := by unfold parseE; split <;> simp
  generalize parseE s = E at hP hE ⊢
  generalize parseL s = L at hP hlen ⊢
  obtain ⟨n, HN⟩ : ∃ n : Nat, Hid (n = L.length) := ⟨_, rfl⟩
  rw [← HN.out] at hP hlen
  go_enter Tryd.func14, Tryd.ntmps14
  go_wp2_with fail
  refine hP.mono ?_
  rintro e w1 ⟨A, c, rfl, hI, hnc, hg1⟩
  clear hP
  rcases hE with rfl | rfl
  · obtain ⟨b, HB⟩ : ∃ b : Nat, Hid (b = w1.heap.size) := ⟨_, rfl⟩
    obtain ⟨w2, HW⟩ : ∃ w2 : World, Hid (w2 = w1.alloc (.cells #[.slice A n c] 37)) := ⟨_, rfl⟩
    have hg2 : Grow w1 w2 := by rw [HW.out]; exact (Below.refl _ _).alloc (Nat.le_refl _) _
    have hB2 : Blk w2 b 37 #[.slice A n c] := by rw [HW.out, HB.out]; exact Blk.made w1 _ _
    have hC := ContainsFunc_any w2 _ U A B n c m d L l b hB2 (hI.grow hg2) hlen ((hl.grow hg1).grow hg2) hm
    go_wp2_with fail
    rw [← HB.out, ← HW.out]
    refine hC.mono ?_
    rintro e w3 ⟨rfl, hg3⟩
    go_wp2_with fail
    go_ret
    exact ⟨by simp, (hg1.trans hg2).trans hg3⟩
  · go_wp2_with fail
    go_ret
    exact ⟨rfl, hg1.trans ((Below.refl _ _).alloc (Nat.le_refl _) _)⟩
end Go.Proofs.YtidkhokecekpgaaDoor
