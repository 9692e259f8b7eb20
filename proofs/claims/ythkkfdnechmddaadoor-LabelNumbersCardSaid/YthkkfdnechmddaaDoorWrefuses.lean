/- LabelRefuses: its walk. -/
import Derived.Test.YthkkfdnechmddaaDoorLabw
import Derived.Test.YthkkfdnechmddaaDoorWshards
namespace Go.Proofs.YthkkfdnechmddaaDoor
open Go.RowKit Go.Hop
theorem lab_build2 {w : World} {nm s : ByteArray} {o : Oper} {ρ : Operand → Value} {x y : Operand} (h1 : ρ x = .string nm) (h2 : ρ y = .string s) (ho : o.op = .build 25 #[(0, x), (1, y)]) :
    flowUpon Tryd.prog (fun u w' => u = .agg #[.string nm, .string s] ∧ Grow w w') ((execOp ρ o).run Tryd.prog w) := by
  obtain ⟨dst, op, ty, pos, after, guard⟩ := o
  simp only at ho
  subst ho
  refine flowUpon_value (u := .agg #[.string nm, .string s]) (w := w) ?_ ⟨rfl, Grow.refl _⟩
  go_simp
theorem kin (x : Int) {n : Nat} (hn : 0 < n) : ∃ k : Nat, k < n ∧ -(n : Int) < x.tmod n ∧ x.tmod n < n ∧ (x.tmod n + n).tmod n = (k : Int) := by
  have q1 := Int.tmod_lt_of_pos x (show (0 : Int) < n by omega)
  have q2 := Int.lt_tmod_of_pos x (show (0 : Int) < n by omega)
  refine ⟨((x.tmod n + n) % n).toNat, ?_, q2, q1, ?_⟩
  · have := Int.emod_lt_of_pos (x.tmod n + n) (show (0 : Int) < n by omega)
    have := Int.emod_nonneg (x.tmod n + n) (show (n : Int) ≠ 0 by omega)
    omega
  · have := Int.emod_nonneg (x.tmod n + n) (show (n : Int) ≠ 0 by omega)
    rw [Int.tmod_eq_emod_of_nonneg (by omega)]
    omega
theorem Made.right {l : List Lb} (h : Made l) (h0 : l ≠ []) : rightE l = 0 := right_ok (Nat.le_trans h.few (by omega)) ((fineB_is l).2 ⟨h.okL, h.sub, h0⟩)
/-- without one of them it is another text -/
theorem Made.less {l : List Lb} (h : Made l) {k : Nat} (hk : k < l.length) : textOf l ≠ textOf (l.take k ++ l.drop (k + 1)) ∧ rightE (l.take k ++ l.drop (k + 1)) = (if l.length = 1 then 1 else 0) := by
  have h0 : l ≠ [] := fun e => by rw [e] at hk; exact absurd hk (Nat.not_lt_zero _)
  have hr := h.right h0
  have hs : (l.take k ++ l.drop (k + 1)).Sublist l := by
    have := (List.Sublist.refl (l.take k)).append (List.drop_sublist 1 (l.drop k))
    rw [List.take_append_drop, List.drop_drop] at this
    exact this
  have hlen : (l.take k ++ l.drop (k + 1)).length = l.length - 1 := by rw [List.length_append, List.length_take, List.length_drop]; omega
  have hM : Made (l.take k ++ l.drop (k + 1)) := ⟨(hs.map _).nodup h.sub, fun d hd => h.all d (hs.subset hd), Nat.le_trans hs.length_le h.few⟩
  generalize l.take k ++ l.drop (k + 1) = q at hlen hM
  by_cases h1 : l.length = 1
  · have hq : q = [] := List.eq_nil_of_length_eq_zero (by omega)
    subst hq
    rw [if_pos h1]
    have hr2 : rightE [] = 1 := by decide +kernel
    refine ⟨fun e => ?_, hr2⟩
    rw [text_zero hr, text_not (by rw [hr2]; decide)] at e
    have hp := (parse_text hr).1
    rw [e] at hp
    exact absurd hp (by decide +kernel)
  · have hq : q ≠ [] := fun e => by rw [e] at hlen; rw [List.length_nil] at hlen; omega
    have hr2 := hM.right hq
    rw [if_neg h1]
    refine ⟨fun e => ?_, hr2⟩
    rw [text_zero hr, text_zero hr2] at e
    have := congrArg List.length (txt_inj hr hr2 e)
    rw [(can_by l).len, (can_by q).len] at this
    omega
theorem Made.twice {l : List Lb} (h : Made l) {k : Nat} (hk : k < l.length) (s : ByteArray) : rightE (l ++ [(l[k].1, s)]) = 1 := by
  refine right_bad (by rw [List.length_append]; have := h.few; simp; omega) (bad_two (i := k) (j := l.length) (by simp; omega) (by simp) hk ?_)
  rw [List.getElem_append_left hk, List.getElem_append_right (Nat.le_refl _)]
  simp
def OneStL (B m1 : Nat) (st : List (Nat × Nat)) : Stages where
  G := Just (FromB B)
  T := fun _ => Just (FromB B)
  I := fun _ _ => True
  muts := [m1]
  stage := fun j => if j = m1 then some 0 else st.lookup j
theorem oneStL_ok (B m1 : Nat) (st : List (Nat × Nat)) : (OneStL B m1 st).Ok := ⟨fun _ _ _ => Just.trans, fun _ _ h => Just.of_grow h, fun _ _ _ h => h, fun _ _ _ _ _ => trivial⟩
set_option maxRecDepth 100000 in
set_option maxHeartbeats 1000000 in
theorem refuses_any (w : World) (A0 : Option Addr) (n0 c0 : Nat) (l0 : List Int) (x1 : Int) (hl0 : Reads w w.heap.size 1 A0 n0 (l0.map (Value.int .i64))) (hx0 : ∀ z ∈ l0, -9223372036854775808 ≤ z ∧ z ≤ 9223372036854775807) (hn0 : n0 ≤ 9223372036854775807) (hx1 : -9223372036854775808 ≤ x1 ∧ x1 ≤ 9223372036854775807) :
    Calls Tryd.prog 7 #[.slice A0 n0 c0, .int .i64 x1] w fun e w' => e = .returned (.bool true) ∧ Grow w w' := by
  have hI0 : In w (fun b => b < w.heap.size) 1 A0 n0 (l0.map (Value.int .i64)) := Reads.in_ hl0 (Nat.le_refl _) fun _ h => h
  have hT0 := tape_made w A0 n0 c0 l0 hI0 hx0 hn0
  have hg0 : Grow w (w.alloc (.cells #[.slice A0 n0 c0, .int .i64 0] 32)) := (Below.refl _ _).alloc (Nat.le_refl _) _
  have hs0 := hg0.size
  go_enter Tryd.func7, Tryd.ntmps7
  go_wp2_with fail
  refine (Labels_any _ _ _ hT0 fun b hb => by omega).mono ?_
  rintro e w2 ⟨v, l, rfl, hO, hM, hT2, hj2⟩
  obtain ⟨A, c, rfl, hI, hnc, hcm⟩ := hO.in_
  have hg2 : Grow w w2 := Below.trans hg0 (hj2.below (B := w.heap.size) (fun b hb => by omega) hs0)
  have hs2 := hg2.size
  have hsm := hM.small
  have hfew := hM.few
  clear hO hT0 hT2 hj2 hI0 hl0
  obtain ⟨n, HN⟩ : ∃ n : Nat, Hid (n = l.length) := ⟨_, rfl⟩
  rw [← HN.out] at hI hnc hfew
  rw [show l.length = n from HN.out.symm]
  by_cases hn : n = 0
  · have hn0' : decide ((n : Int) = 0) = true := decide_eq_true (by omega)
    subst hn
    go_wp2_with fail
    refine (known_any w2).mono ?_
    rintro e w3 ⟨rfl, hg3⟩
    go_wp2_with fail
    go_ret
    exact ⟨rfl, below_trans hg2 hg3 hs2⟩
  have hn0' : decide ((n : Int) = 0) = false := decide_eq_false (by omega)
  obtain ⟨k, hkn, hq1, hq2, hk⟩ := kin x1 (n := n) (by omega)
  have hn1 : ¬ (n : Int) = 0 := by omega
  have hw : wrap64 (x1.tmod n + n) = x1.tmod n + n := by unfold wrap64; omega
  have hk' : (wrap64 (x1.tmod n + n)).tmod n = (k : Int) := by rw [hw]; exact hk
  clear hw hk hq1 hq2
  have hkc : ¬ n ≤ k := by omega
  obtain ⟨ad, hkl, rfl, hc0, _⟩ := lab_at hI hkn
  obtain ⟨d, HD⟩ : ∃ d : Lb, Hid (d = l[k]) := ⟨l[k], Lib.hid rfl⟩
  rw [← HD.out] at hc0
  obtain ⟨nm, HNM⟩ : ∃ nm : ByteArray, Hid (nm = d.1) := ⟨_, rfl⟩
  rw [← HNM.out] at hc0
  obtain ⟨other, HOT⟩ : ∃ other : ByteArray, Hid (other = { data := #[111, 116, 104, 101, 114] }) := ⟨_, rfl⟩
  obtain ⟨B, HBd⟩ : ∃ B : Nat, Hid (B = w2.heap.size) := ⟨_, rfl⟩
  have HB : ∀ w1, Just (FromB B) w2 w1 → B ≤ w1.heap.size := fun w1 h => HBd.out ▸ h.size
  have hDB : ∀ b, b < w2.heap.size → ¬ FromB B b := fun b hb h => by have h2 : B ≤ b := h; have := HBd.out; omega
  have hI' : In w2 (fun b => b < w2.heap.size) 2 (some ad) n (lcells l) := hI.mono fun b hb => hb.2
  have hIa : ∀ w1, Just (FromB B) w2 w1 → Reads w1 w1.heap.size 2 (some ad) n (lcells l) := fun w1 hj => (hI'.just hj hDB).reads
  have hadl : ad.block < w2.heap.size := by
    obtain ⟨ad', e, _, hb, _⟩ := hI.2 (by omega)
    injection e with e
    rw [e]; exact hb
  have hnm : ∀ w1, Just (FromB B) w2 w1 → w1.cell? (ad.add (k * 2)) = some (.string nm) := fun w1 hj => by
    have hI1 := hI'.just hj hDB
    obtain ⟨ad', hq', e, h0, _⟩ := lab_at hI1 hkn
    injection e with e
    subst e
    rw [HNM.out, HD.out]
    exact h0 w1 (Grow.refl _)
  have hone := lcells_one l
  clear hc0
  go_wp2_with fail
  refine wp_region_reg rfl ?_
  refine reg_flow (OneStL B 10 [(2, 0)]) (oneStL_ok B 10 _) 0 12 87 [(0, .inr (KF 0 (EmptyF B 25 2))), (2, .inr (KF 0 (OwnF B 25 2 n (lcells l)))), (8, .inl (.agg #[.string nm, .string other])), (9, .inr (KF 0 (ReadF 2 1 (lcell (nm, other))))), (10, .inr (KF 1 (OwnF B 25 2 (n + 1) (lcells l ++ lcell (nm, other)))))] rfl (by kernel_rfl) (by kernel_rfl) (by kernel_rfl) ?_ (Just.of_grow (Grow.refl _).drew) trivial ?_
  · intro x hx φ he
    simp only [List.mem_cons, List.not_mem_nil, or_false] at hx
    rcases hx with rfl | rfl | rfl | rfl | rfl <;> cases he
    all_goals first | exact lasts_quiet (lasting_bytes _) | exact kf_lasts (ownF_lasting _ _ _ _ _) _ | exact kf_lasts (emptyF_lasting _ _ _) _ | exact kf_lasts (readF_lasting _ _ _) _
  intro ops' A' K' T hops hA' hK hT
  refine fl_any 33 (by rfl) (by decide) (wanted_none (by rfl)) (KF 0 (EmptyF B 25 2)) (by rw [hK.out]; rfl) (fun kk w1 (hg : Just (FromB B) _ w1) hb hf => by refine upon_behindAny (φ := KF 0 (EmptyF B 25 2)) (by rfl) ?_; exact upon_imp (empty_made labelE (HB w1 hg) rfl) fun u w2 h => ⟨h.1, early_of h.2⟩) (fun v33 => ?_)
  refine fl_mv 34 (by rfl) (by decide) (wanted_none (by rfl)) (by rw [hK.out]; rfl) (by rfl) _ (Or.inl (by rfl)) (.slice (some ad) n c) (by rfl) ?_
  refine fl_any2 35 (by rfl) (by decide) (wanted_none (by rfl)) (KF 0 (OwnF B 25 2 n (lcells l))) (by rw [hK.out]; rfl) (.tmp 33) (.tmp 34) (v33) (.slice (some ad) n c) (by rfl) (by rfl) (fun ρ h1 h2 kk w1 (hg : Just (FromB B) _ w1) hb hf => by obtain rfl := before_some 0 (by rfl) hb; have hI := hb.1; refine upon_behindAny (φ := KF 0 (OwnF B 25 2 n (lcells l))) (by rfl) ?_; have q1 := (facts_take hf (by rw [hA'.out]; kernel_rfl)); have hu : EmptyF B 25 2 v33 w1 := q1; exact upon_imp (empty_app labelE hu h1 h2 (hIa w1 hg) hone (by omega) (HB w1 hg) rfl) fun u w2 h => ⟨h.1, early_of h.2⟩) (fun v35 => ?_)
  refine fl_mv 36 (by rfl) (by decide) (wanted_none (by rfl)) (by rw [hK.out]; rfl) (by rfl) _ (Or.inl (by rfl)) (.slice (some ad) n c) (by rfl) ?_
  refine fl_mv 37 (by rfl) (by decide) (wanted_none (by rfl)) (by rw [hK.out]; rfl) (by rfl) _ (Or.inl (by rfl)) (.int .i64 (k : Int)) (by rfl) ?_
  refine fl_op2 38 (by rfl) (by decide) (wanted_none (by rfl)) (by rw [hK.out]; rfl) (by rfl) (.tmp 36) (.tmp 37) (.slice (some ad) n c) (.int .i64 (k : Int)) (by rfl) (by rfl) (.pointer (some (ad.add (k * 2)))) (fun ρ h1 h2 kk w1 (hg : Just (FromB B) _ w1) hb hf => by go_simp; try (intro hlt; omega)) ?_
  refine fl_op1 39 (by rfl) (by decide) (wanted_none (by rfl)) (by rw [hK.out]; rfl) (by rfl) (.tmp 38) (.pointer (some (ad.add (k * 2)))) (by rfl) (.pointer (some (ad.add (k * 2)))) (fun ρ h1 kk w1 (hg : Just (FromB B) _ w1) hb hf => by go_simp) ?_
  refine fl_op1 40 (by rfl) (by decide) (wanted_none (by rfl)) (by rw [hK.out]; rfl) (by rfl) (.tmp 39) (.pointer (some (ad.add (k * 2)))) (by rfl) (.string nm) (fun ρ h1 kk w1 (hg : Just (FromB B) _ w1) hb hf => by have c := hnm w1 hg; go_simp) ?_
  refine fl_val 41 (by rfl) (by decide) (wanted_none (by rfl)) (.agg #[.string nm, .string other]) (by rw [hK.out]; rfl) (fun kk w1 (hg : Just (FromB B) _ w1) hb hf => by refine upon_behind (by rfl) ?_; exact lab_build2 (x := .tmp 40) (y := .const (.string { data := #[111, 116, 104, 101, 114] })) rfl (by rw [HOT.out]; rfl) rfl) ?_
  refine fl_any1 42 (by rfl) (by decide) (wanted_none (by rfl)) (KF 0 (ReadF 2 1 (lcell (nm, other)))) (by rw [hK.out]; rfl) (.tmp 41) (.agg #[.string nm, .string other]) (by rfl) (fun ρ h1 kk w1 (hg : Just (FromB B) _ w1) hb hf => by refine upon_behindAny (φ := KF 0 (ReadF 2 1 (lcell (nm, other)))) (by rfl) ?_; exact upon_imp (lread_made (a := (nm, other)) rfl h1) fun u w2 h => ⟨h.1, early_of h.2⟩) (fun v42 => ?_)
  refine fl_any2 43 (by rfl) (by decide) (wanted_none (by rfl)) (KF 1 (OwnF B 25 2 (n + 1) (lcells l ++ lcell (nm, other)))) (by rw [hK.out]; rfl) (.tmp 35) (.tmp 42) (v35) (v42) (by rfl) (by rfl) (fun ρ h1 h2 kk w1 (hg : Just (FromB B) _ w1) hb hf => by obtain rfl := before_some 0 (by rfl) hb; have hI := hb.1; refine upon_turnAny (φ := KF 1 (OwnF B 25 2 (n + 1) (lcells l ++ lcell (nm, other)))) 0 (by rfl) ?_; have q1 := (facts_take hf (by rw [hA'.out]; kernel_rfl)); have q2 := (facts_take (facts_pass hf) (by rw [hA'.out]; kernel_rfl)); have hr : ReadF 2 1 (lcell (nm, other)) v42 w1 := q1; have hu : OwnF B 25 2 n (lcells l) v35 w1 := q2; obtain ⟨A9, c9, hv9, hR9⟩ := hr; rw [hv9] at h2; exact two_app labelE hu h1 h2 hR9 (fun u hu => lcells_one [(nm, other)] u (by simpa [lcells] using hu)) (by omega) (HB w1 hg) rfl) (fun v43 => ?_)
  refine fl_mv 7 (by rfl) (by decide) (wanted_none (by rfl)) (by rw [hK.out]; rfl) (by rfl) _ (Or.inr (by rfl)) (v43) (by rfl) ?_
  refine fl_end (fun _ _ w1 (hg : Just (FromB B) _ w1) hend hfacts => hT _ _ ?_)
  clear hops hA' hK hT
  simp only [putsL, Act.put, List.setIfInBounds_toArray, List.set_cons_zero, List.set_cons_succ]
  have hF5 : OwnF B 25 2 (n + 1) (lcells l ++ lcell (nm, other)) v43 w1 := hfacts.1
  clear hend hfacts
  obtain ⟨w3, rfl⟩ : ∃ w3 : World, w3 = w1 := ⟨_, rfl⟩
  have hg3 : Grow w2 w3 := hg.below (B := w2.heap.size) (fun b hb => by have h2 : B ≤ b := hb; have := HBd.out; omega) (Nat.le_refl _)
  obtain ⟨A5, c5, rfl, hI5, hnc5, hcm5⟩ := hF5.in_
  have hIl := hI.grow hg3
  have hs3 := hg3.size
  have hI5' : In w3 (fun b => b < w3.heap.size) 2 A5 (n + 1) (lcells l ++ lcell (nm, other)) := hI5.mono fun b hb => hb.2
  clear hg HB hDB hI' hIa hnm hI hF5 hI5
  clear HBd
  refine reg_end ?_
  go_wp2_with fail
  obtain ⟨B, HBd⟩ : ∃ B : Nat, Hid (B = w3.heap.size) := ⟨_, rfl⟩
  have HB : ∀ w1, Just (FromB B) w3 w1 → B ≤ w1.heap.size := fun w1 h => HBd.out ▸ h.size
  have hDB : ∀ b, b < w3.heap.size → ¬ FromB B b := fun b hb h => by have h2 : B ≤ b := h; have := HBd.out; omega
  have hI' : In w3 (fun b => b < w3.heap.size) 2 (some ad) n (lcells l) := hIl.mono fun b hb => by have := hb.2; omega
  obtain ⟨k1, HK1⟩ : ∃ k1 : Nat, Hid (k1 = k + 1) := ⟨_, Lib.hid rfl⟩
  have hwk : IntKind.i64.wrap ((k : Int) + 1) = (k1 : Int) := by rw [HK1.out, IntKind.wrap_i64]; omega
  obtain ⟨A2, HA2⟩ : ∃ A2 : Option Addr, Hid (A2 = if c = k1 then some ad else (some ad).map (·.add (k1 * 2))) := ⟨_, rfl⟩
  have hIb : ∀ w1, Just (FromB B) w3 w1 → Reads w1 w1.heap.size 2 (some ad) k ((lcells l).take (k * 2)) := fun w1 hj => ((hI'.just hj hDB).take (by omega)).reads
  have hIc : ∀ w1, Just (FromB B) w3 w1 → Reads w1 w1.heap.size 2 A2 (n - k1) ((lcells l).drop (k1 * 2)) := fun w1 hj => by
    have := (hI'.just hj hDB).reads.cut (k := k1) (by have := HK1.out; omega) hnc
    rwa [← HA2.out] at this
  have hone1 : ∀ u ∈ (lcells l).take (k * 2), u.oneCell' = true := fun u hu => hone u (List.mem_of_mem_take hu)
  have hone2 : ∀ u ∈ (lcells l).drop (k1 * 2), u.oneCell' = true := fun u hu => hone u (List.mem_of_mem_drop hu)
  have hck : ¬ c < k := by omega
  have hck1 : ¬ n < k1 := by have := HK1.out; omega
  have hck2 : ¬ c < n := by omega
  refine wp_region_reg rfl ?_
  refine reg_flow (OneStL B 9 [(4, 0)]) (oneStL_ok B 9 _) 0 11 87 [(0, .inr (KF 0 (EmptyF B 25 2))), (4, .inr (KF 0 (OwnF B 25 2 k ((lcells l).take (k * 2))))), (9, .inr (KF 1 (OwnF B 25 2 (k + (n - k1)) ((lcells l).take (k * 2) ++ (lcells l).drop (k1 * 2)))))] rfl (by kernel_rfl) (by kernel_rfl) (by kernel_rfl) ?_ (Just.of_grow (Grow.refl _).drew) trivial ?_
  · intro x hx φ he
    simp only [List.mem_cons, List.not_mem_nil, or_false] at hx
    rcases hx with rfl | rfl | rfl <;> cases he
    all_goals first | exact lasts_quiet (lasting_bytes _) | exact kf_lasts (ownF_lasting _ _ _ _ _) _ | exact kf_lasts (emptyF_lasting _ _ _) _ | exact kf_lasts (readF_lasting _ _ _) _
  intro ops' A' K' T hops hA' hK hT
  refine fl_any 44 (by rfl) (by decide) (wanted_none (by rfl)) (KF 0 (EmptyF B 25 2)) (by rw [hK.out]; rfl) (fun kk w1 (hg : Just (FromB B) _ w1) hb hf => by refine upon_behindAny (φ := KF 0 (EmptyF B 25 2)) (by rfl) ?_; exact upon_imp (empty_made labelE (HB w1 hg) rfl) fun u w2 h => ⟨h.1, early_of h.2⟩) (fun v44 => ?_)
  refine fl_mv 45 (by rfl) (by decide) (wanted_none (by rfl)) (by rw [hK.out]; rfl) (by rfl) _ (Or.inl (by rfl)) (.slice (some ad) n c) (by rfl) ?_
  refine fl_mv 46 (by rfl) (by decide) (wanted_none (by rfl)) (by rw [hK.out]; rfl) (by rfl) _ (Or.inl (by rfl)) (.int .i64 (k : Int)) (by rfl) ?_
  refine fl_op2 47 (by rfl) (by decide) (wanted_none (by rfl)) (by rw [hK.out]; rfl) (by rfl) (.tmp 45) (.tmp 46) (.slice (some ad) n c) (.int .i64 (k : Int)) (by rfl) (by rfl) (.slice (some ad) k c) (fun ρ h1 h2 kk w1 (hg : Just (FromB B) _ w1) hb hf => by go_simp) ?_
  refine fl_any2 48 (by rfl) (by decide) (wanted_none (by rfl)) (KF 0 (OwnF B 25 2 k ((lcells l).take (k * 2)))) (by rw [hK.out]; rfl) (.tmp 44) (.tmp 47) (v44) (.slice (some ad) k c) (by rfl) (by rfl) (fun ρ h1 h2 kk w1 (hg : Just (FromB B) _ w1) hb hf => by obtain rfl := before_some 0 (by rfl) hb; have hI := hb.1; refine upon_behindAny (φ := KF 0 (OwnF B 25 2 k ((lcells l).take (k * 2)))) (by rfl) ?_; have q1 := (facts_take hf (by rw [hA'.out]; kernel_rfl)); have hu : EmptyF B 25 2 v44 w1 := q1; exact upon_imp (empty_app labelE hu h1 h2 (hIb w1 hg) hone1 (by omega) (HB w1 hg) rfl) fun u w2 h => ⟨h.1, early_of h.2⟩) (fun v48 => ?_)
  refine fl_mv 49 (by rfl) (by decide) (wanted_none (by rfl)) (by rw [hK.out]; rfl) (by rfl) _ (Or.inl (by rfl)) (.slice (some ad) n c) (by rfl) ?_
  refine fl_mv 50 (by rfl) (by decide) (wanted_none (by rfl)) (by rw [hK.out]; rfl) (by rfl) _ (Or.inl (by rfl)) (.int .i64 (k : Int)) (by rfl) ?_
  refine fl_op2 51 (by rfl) (by decide) (wanted_none (by rfl)) (by rw [hK.out]; rfl) (by rfl) (.tmp 50) (.const (.int .i64 1)) (.int .i64 (k : Int)) (.int .i64 1) (by rfl) (by rfl) (.int .i64 (k1 : Int)) (fun ρ h1 h2 kk w1 (hg : Just (FromB B) _ w1) hb hf => by go_simp) ?_
  refine fl_op2 52 (by rfl) (by decide) (wanted_none (by rfl)) (by rw [hK.out]; rfl) (by rfl) (.tmp 49) (.tmp 51) (.slice (some ad) n c) (.int .i64 (k1 : Int)) (by rfl) (by rfl) (.slice A2 (n - k1) (c - k1)) (fun ρ h1 h2 kk w1 (hg : Just (FromB B) _ w1) hb hf => by have hA := HA2.out; go_simp) ?_
  refine fl_any2 53 (by rfl) (by decide) (wanted_none (by rfl)) (KF 1 (OwnF B 25 2 (k + (n - k1)) ((lcells l).take (k * 2) ++ (lcells l).drop (k1 * 2)))) (by rw [hK.out]; rfl) (.tmp 48) (.tmp 52) (v48) (.slice A2 (n - k1) (c - k1)) (by rfl) (by rfl) (fun ρ h1 h2 kk w1 (hg : Just (FromB B) _ w1) hb hf => by obtain rfl := before_some 0 (by rfl) hb; have hI := hb.1; refine upon_turnAny (φ := KF 1 (OwnF B 25 2 (k + (n - k1)) ((lcells l).take (k * 2) ++ (lcells l).drop (k1 * 2)))) 0 (by rfl) ?_; have q1 := (facts_take hf (by rw [hA'.out]; kernel_rfl)); have hu : OwnF B 25 2 k ((lcells l).take (k * 2)) v48 w1 := q1; exact two_app labelE hu h1 h2 (hIc w1 hg) hone2 (by omega) (HB w1 hg) rfl) (fun v53 => ?_)
  refine fl_mv 8 (by rfl) (by decide) (wanted_none (by rfl)) (by rw [hK.out]; rfl) (by rfl) _ (Or.inr (by rfl)) (v53) (by rfl) ?_
  refine fl_end (fun _ _ w1 (hg : Just (FromB B) _ w1) hend hfacts => hT _ _ ?_)
  clear hops hA' hK hT
  simp only [putsL, Act.put, List.setIfInBounds_toArray, List.set_cons_zero, List.set_cons_succ]
  have hF6 : OwnF B 25 2 (k + (n - k1)) ((lcells l).take (k * 2) ++ (lcells l).drop (k1 * 2)) v53 w1 := hfacts.1
  clear hend hfacts
  obtain ⟨w4, rfl⟩ : ∃ w4 : World, w4 = w1 := ⟨_, rfl⟩
  have hg4 : Grow w3 w4 := hg.below (B := w3.heap.size) (fun b hb => by have h2 : B ≤ b := hb; have := HBd.out; omega) (Nat.le_refl _)
  obtain ⟨A6, c6, rfl, hI6, hnc6, hcm6⟩ := hF6.in_
  have hI6' : In w4 (fun b => b < w4.heap.size) 2 A6 (k + (n - k1)) (lcells (l.take k ++ l.drop k1)) := by
    have : lcells (l.take k ++ l.drop k1) = (lcells l).take (k * 2) ++ (lcells l).drop (k1 * 2) := by
      unfold lcells
      rw [List.flatMap_append, flat_take lcell 2 lcell_len, flat_drop lcell 2 lcell_len]
    rw [this]
    exact hI6.mono fun b hb => hb.2
  have hI5'' : In w4 (fun b => b < w3.heap.size) 2 A5 (n + 1) (lcells (l ++ [(nm, other)])) := by
    have : lcells (l ++ [(nm, other)]) = lcells l ++ lcell (nm, other) := by unfold lcells; rw [List.flatMap_append]; simp
    rw [this]
    exact hI5'.grow hg4
  have hIl4 := hI'.grow hg4
  have hnms : nm.size ≤ maxLen := by rw [HNM.out, HD.out]; exact (hsm _ (List.getElem_mem hkl)).1
  have hots : other.size ≤ maxLen := by rw [HOT.out]; unfold maxLen; decide +kernel
  have hsm5 : ∀ d ∈ l ++ [(nm, other)], d.1.size ≤ maxLen ∧ d.2.size ≤ maxLen := fun d hd => by
    rcases List.mem_append.1 hd with hd | hd
    · exact hsm d hd
    · rw [List.mem_singleton.1 hd]; exact ⟨hnms, hots⟩
  have hsm6 : ∀ d ∈ l.take k ++ l.drop k1, d.1.size ≤ maxLen ∧ d.2.size ≤ maxLen := fun d hd => by
    rcases List.mem_append.1 hd with hd | hd
    · exact hsm d (List.mem_of_mem_take hd)
    · exact hsm d (List.mem_of_mem_drop hd)
  have hT1 := Text_any w4 _ (some ad) n c l hIl4 hsm (by omega)
  have hT2 := fun w5 (hg : Grow w4 w5) => Text_any w5 _ A6 (k + (n - k1)) c6 _ (hI6'.grow hg) hsm6 (by omega)
  have hT3 := fun w5 (hg : Grow w4 w5) => Text_any w5 _ A5 (n + 1) c5 _ (hI5''.grow hg) hsm5 (by omega)
  have hkl' : k < l.length := hkl
  have hls := hM.less hkl'
  have htw := hM.twice hkl' other
  rw [← HK1.out, show l.length = n from HN.out.symm] at hls
  rw [show (l[k].1, other) = (nm, other) by rw [HNM.out, HD.out]] at htw
  rw [htw] at hT3
  obtain ⟨hne, hE2⟩ := hls
  have hr0 := hM.right (fun e => by rw [e] at hkl'; exact absurd hkl' (Nat.not_lt_zero _))
  obtain ⟨m, HM⟩ : ∃ m : Nat, Hid (m + 1 = n) := ⟨n - 1, Lib.hid (by omega)⟩
  have hlen6 : k + (n - k1) = m := by have := HK1.out; have := HM.out; omega
  obtain ⟨E2, HE2⟩ : ∃ E2 : Int, Hid (E2 = if n = 1 then 1 else 0) := ⟨_, rfl⟩
  rw [← HE2.out] at hE2
  rw [hlen6] at hT2
  rw [hE2] at hT2
  generalize textOf l = ta at hT1 hne
  generalize textOf (l.take k ++ l.drop k1) = tb at hT2 hne
  generalize textOf (l ++ [(nm, other)]) = tc at hT3
  clear hg HB hDB hI' hI6 hI5' hF6 hI6' hI5'' hIl4 hIl hIb hIc hsm hsm5 hsm6 hM hk' hE2 htw
  have hg24 := below_trans hg2 (hg3.trans hg4) hs2
  clear hg2 hg3 hg4
  rw [hlen6]
  refine reg_end ?_
  go_wp2_with fail
  refine hT1.mono ?_
  rintro e w5 ⟨rfl, hg5⟩
  clear hT1
  go_wp2_with fail
  refine (hT2 w5 hg5).mono ?_
  rintro e w6 ⟨rfl, hg6⟩
  clear hT2
  have hg46 := hg5.trans hg6
  clear hg5 hg6
  go_wp2_with fail
  refine (hT3 w6 hg46).mono ?_
  rintro e w7 ⟨rfl, hg7⟩
  have hg47 := hg46.trans hg7
  clear hT3 hg46 hg7
  have hg27 := below_trans hg24 hg47 hg24.size
  have hsz7 := hg27.size
  clear hg24 hg47
  have hne1 := str_eqb hne
  clear hne
  by_cases h1 : n = 1
  · obtain rfl : m = 0 := by have := HM.out; omega
    obtain rfl : E2 = 1 := by rw [HE2.out, if_pos h1]
    go_wp2_with fail
    refine (known_any w7).mono ?_
    rintro e w8 ⟨rfl, hg8⟩
    go_wp2_with fail
    go_ret
    exact ⟨rfl, below_trans hg27 hg8 hsz7⟩
  · obtain rfl : E2 = 0 := by rw [HE2.out, if_neg h1]
    have hp3 : 0 < m := by have := HM.out; omega
    have hp2 : decide ((0 : Int) < (m : Int)) = true := decide_eq_true (by omega)
    go_wp2_with fail
    refine (known_any w7).mono ?_
    rintro e w8 ⟨rfl, hg8⟩
    go_wp2_with fail
    go_ret
    exact ⟨rfl, below_trans hg27 hg8 hsz7⟩
end Go.Proofs.YthkkfdnechmddaaDoor
