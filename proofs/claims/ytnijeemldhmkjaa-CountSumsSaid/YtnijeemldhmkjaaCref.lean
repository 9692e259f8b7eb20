/- The answer's sums in memory: where a text stands; Get. -/
import Derived.Test.YtnijeemldhmkjaaCsum
namespace Go.Proofs.Ytnijeemldhmkjaa
open Go.RowKit Go.Hop
/-- the answer's sums: their block, their row's -/
def RSums (r : Nat) (q : Sm) : Thing := fun w V => V r ∧ Right q ∧ q.length ≤ 1048576 ∧ ∃ v, Blk w r 58 #[v] ∧ Own w (fun b => V b ∧ b ≠ r) 34 2 v q.length (dcells q)
theorem RSums.framed (r : Nat) (q : Sm) : Framed (RSums r q) := fun w w' V h hk => by
  obtain ⟨h1, h2, h3, v, h4, h5⟩ := h
  exact ⟨h1, h2, h3, v, (hk r h1).trans h4, h5.keep fun b hb => hk b hb.1⟩
theorem RSums.wide {r : Nat} {q : Sm} {w : World} {V V' : Nat → Prop} (h : RSums r q w V) (hV : ∀ b, V b → V' b) : RSums r q w V' := by
  obtain ⟨h1, h2, h3, v, h4, h5⟩ := h
  exact ⟨hV r h1, h2, h3, v, h4, h5.mono fun b hb => ⟨hV b hb.1, hb.2⟩⟩
theorem del_at {w : World} {V : Nat → Prop} {A : Option Addr} {n : Nat} {q : List Dl} (h : In w V 2 A n (dcells q)) {k : Nat} (hk : k < n) :
    ∃ (ad : Addr) (hq : k < q.length), A = some ad ∧ (∀ w1, Grow w w1 → w1.cell? (ad.add (k * 2)) = some (.string q[k].1)) ∧ ∀ w1, Grow w w1 → w1.cell? ⟨(ad.add (k * 2)).block, (ad.add (k * 2)).off + 1, none⟩ = some (.int .u64 ((q[k].2 : Nat) : Int)) := by
  obtain ⟨ad, hq, e, _, hb, e0, e12⟩ := In.rec_ (cells := dcell) h (by omega) dcell_len hk
  exact ⟨ad, hq, e, fun w1 hg => (hg.cell (by rw [block_add]; exact hb)).trans (e0 _ rfl), fun w1 hg => (hg.cell (p := ⟨(ad.add (k * 2)).block, (ad.add (k * 2)).off + 1, none⟩) (show (ad.add (k * 2)).block < _ by rw [block_add]; exact hb)).trans (e12 0 _ rfl)⟩
theorem cutA_at {q : Sm} {x : ByteArray} {k : Nat} (h : k < (cutA q x).length) (hk : k < q.length) : slt q[k].1 x = true := by
  have hm : (cutA q x)[k]? = some q[k] := by
    have : ∀ (a b : Sm) (j : Nat), j < a.length → (a ++ b)[j]? = a[j]? := fun a b j hj => by rw [List.getElem?_append_left hj]
    have := this (cutA q x) (cutB q x) k h
    rw [cut_all] at this
    rw [← this, List.getElem?_eq_getElem hk]
  exact cutA_lt _ (List.mem_of_getElem? hm)
theorem cutB_at {q : Sm} (hs : Srt q) {x : ByteArray} (hk : (cutA q x).length < q.length) : slt q[(cutA q x).length].1 x = false := by
  have hm : (cutB q x)[0]? = some q[(cutA q x).length] := by
    have : ∀ a b : Sm, (a ++ b)[a.length]? = b[0]? := fun a b => by rw [List.getElem?_append_right (Nat.le_refl _), Nat.sub_self]
    have := this (cutA q x) (cutB q x)
    rw [cut_all] at this
    rw [← this, List.getElem?_eq_getElem hk]
  exact cutB_ge hs _ (List.mem_of_getElem? hm)
theorem cutA_le (q : Sm) (x : ByteArray) : (cutA q x).length ≤ q.length := by
  have := congrArg List.length (cut_all q x)
  rw [List.length_append] at this
  omega
set_option maxRecDepth 100000 in
theorem rAt_any (w : World) (r : Nat) (q : Sm) (V : Nat → Prop) (h : RSums r q w V) (x : ByteArray) :
    Calls Try.prog 37 #[.pointer (some ⟨r, 0, none⟩), .string x] w fun e w' => e = .returned (.tuple #[.int .i64 ((cutA q x).length : Int), .bool (lk q x).isSome]) ∧ Grow w w' := by
  obtain ⟨h1, h2, h3, v, hB0, hO0⟩ := h
  obtain ⟨A, c, rfl, hI0, hnc, hcm⟩ := hO0.in_
  have hcut := Lib.hid (cut_at h2.srt x)
  obtain ⟨C, HC⟩ : ∃ C : Nat, Hid (C = (cutA q x).length) := ⟨_, rfl⟩
  obtain ⟨I, HI⟩ : ∃ I : Bool, Hid (I = (lk q x).isSome) := ⟨_, rfl⟩
  have hle : C ≤ q.length := by rw [HC.out]; exact cutA_le q x
  rw [← HC.out, ← HI.out]
  go_enter Try.func37, Try.ntmps37
  go_wp2_with fail
  go_loopw [6] (fun i wr => ∃ k : Nat, k ≤ C ∧ i = .int .i64 (k : Int) ∧ Grow w wr) (fun i _ => C - (intOf i).toNat)
  case atStart => exact ⟨0, by omega, rfl, Grow.refl _⟩
  case round =>
    obtain ⟨k, hkc, rfl, hgr⟩ := hrel
    have hB := hB0.grow hgr
    have c0 := hB.cell 0
    by_cases hk : k < C
    · have hkl : k < q.length := by omega
      have hkt : decide (k < q.length) = true := decide_eq_true hkl
      obtain ⟨ad, hqk, rfl, he0, _⟩ := del_at (hI0.grow hgr) hkl
      have hlt := cutA_at (x := x) (HC.out ▸ hk) hqk
      generalize q[k] = dk at he0 hlt
      have e0 := he0 _ (Grow.refl _)
      unfold slt at hlt
      clear hcut hle
      go_wp2_with fail
      go_roundw
      case rel => exact ⟨k + 1, by omega, by go_num, hgr⟩
      case measure => simp [intOf]; omega
    · obtain rfl : k = C := by omega
      by_cases hkl : k < q.length
      · have hkt : decide (k < q.length) = true := decide_eq_true hkl
        obtain ⟨ad, hqk, rfl, he0, _⟩ := del_at (hI0.grow hgr) hkl
        have hlt : slt q[k].1 x = false := by have e := HC.out; subst e; exact cutB_at h2.srt hqk
        have hin : I = decide (q[k].1 = x) := by
          rw [HI.out, Bool.eq_iff_iff, hcut.out, decide_eq_true_eq, ← HC.out, List.getElem?_eq_getElem hqk]
          constructor
          · rintro ⟨d, hd, rfl⟩; injection hd with hd; rw [hd]
          · intro e; exact ⟨_, rfl, e⟩
        generalize q[k] = dk at he0 hlt hin
        have e0 := he0 _ (Grow.refl _)
        unfold slt at hlt
        clear hcut hle HI HC
        by_cases hx : dk.1 = x
        · obtain rfl : I = true := hin.trans (decide_eq_true hx)
          clear hin
          have hx' : (dk.1.toList == x.toList) = true := beq_iff_eq.2 (txt_eq.2 hx)
          have HX := Lib.hid hx
          clear hx
          go_wp2_with fail
          refine wp_region_flow 22 48 [] rfl rfl (by kernel_rfl) (by kernel_rfl) (by kernel_rfl) ?_ ?_
          · intro x hx φ he
            cases hx
          intro ops' A' K' T hops hA' hK hT
          refine fl_mv 28 (by rfl) (by decide) (wanted_none (by rfl)) (by rw [hK.out]; rfl) (by rfl) _ (Or.inl (by rfl)) (.int .i64 (k : Int)) (by rfl) ?_
          refine fl_mv 29 (by rfl) (by decide) (wanted_none (by rfl)) (by rw [hK.out]; rfl) (by rfl) _ (Or.inl (by rfl)) (.int .i64 (k : Int)) (by rfl) ?_
          refine fl_mv 30 (by rfl) (by decide) (wanted_none (by rfl)) (by rw [hK.out]; rfl) (by rfl) _ (Or.inl (by rfl)) (.pointer (some ⟨r, 0, none⟩)) (by rfl) ?_
          refine fl_op1 31 (by rfl) (by decide) (wanted_none (by rfl)) (by rw [hK.out]; rfl) (by rfl) (.tmp 30) (.pointer (some ⟨r, 0, none⟩)) (by rfl) (.pointer (some ⟨r, 0, none⟩)) (fun ρ h1 kk w1 (hg : Grow _ w1) hb hf => by go_simp) ?_
          refine fl_op1 32 (by rfl) (by decide) (wanted_none (by rfl)) (by rw [hK.out]; rfl) (by rfl) (.tmp 31) (.pointer (some ⟨r, 0, none⟩)) (by rfl) (.pointer (some ⟨r, 0, none⟩)) (fun ρ h1 kk w1 (hg : Grow _ w1) hb hf => by go_simp) ?_
          refine fl_op1 33 (by rfl) (by decide) (wanted_none (by rfl)) (by rw [hK.out]; rfl) (by rfl) (.tmp 32) (.pointer (some ⟨r, 0, none⟩)) (by rfl) (.slice (some ad) q.length c) (fun ρ h1 kk w1 (hg : Grow _ w1) hb hf => by have c0 := (hB.grow hg).cell 0; go_simp) ?_
          refine fl_op1 34 (by rfl) (by decide) (wanted_none (by rfl)) (by rw [hK.out]; rfl) (by rfl) (.tmp 33) (.slice (some ad) q.length c) (by rfl) (.int .i64 (q.length : Int)) (fun ρ h1 kk w1 (hg : Grow _ w1) hb hf => by go_simp) ?_
          refine fl_op2 35 (by rfl) (by decide) (wanted_none (by rfl)) (by rw [hK.out]; rfl) (by rfl) (.tmp 29) (.tmp 34) (.int .i64 (k : Int)) (.int .i64 (q.length : Int)) (by rfl) (by rfl) (.bool true) (fun ρ h1 h2 kk w1 (hg : Grow _ w1) hb hf => by go_simp; try omega) ?_
          refine fl_mv 36 (by rfl) (by decide) (wanted_none (by rfl)) (by rw [hK.out]; rfl) (by rfl) _ (Or.inl (by rfl)) (.bool true) (by rfl) ?_
          refine fl_mv 37 (by rfl) (by decide) (wanted_if hops 8 true (by rfl) 36 (by rfl) true (by rfl)) (by rw [hK.out]; rfl) (by rfl) _ (Or.inl (by rfl)) (.pointer (some ⟨r, 0, none⟩)) (by rfl) ?_
          refine fl_op1 38 (by rfl) (by decide) (wanted_if hops 8 true (by rfl) 36 (by rfl) true (by rfl)) (by rw [hK.out]; rfl) (by rfl) (.tmp 37) (.pointer (some ⟨r, 0, none⟩)) (by rfl) (.pointer (some ⟨r, 0, none⟩)) (fun ρ h1 kk w1 (hg : Grow _ w1) hb hf => by go_simp) ?_
          refine fl_op1 39 (by rfl) (by decide) (wanted_if hops 8 true (by rfl) 36 (by rfl) true (by rfl)) (by rw [hK.out]; rfl) (by rfl) (.tmp 38) (.pointer (some ⟨r, 0, none⟩)) (by rfl) (.pointer (some ⟨r, 0, none⟩)) (fun ρ h1 kk w1 (hg : Grow _ w1) hb hf => by go_simp) ?_
          refine fl_op1 40 (by rfl) (by decide) (wanted_if hops 8 true (by rfl) 36 (by rfl) true (by rfl)) (by rw [hK.out]; rfl) (by rfl) (.tmp 39) (.pointer (some ⟨r, 0, none⟩)) (by rfl) (.slice (some ad) q.length c) (fun ρ h1 kk w1 (hg : Grow _ w1) hb hf => by have c0 := (hB.grow hg).cell 0; go_simp) ?_
          refine fl_mv 41 (by rfl) (by decide) (wanted_if hops 8 true (by rfl) 36 (by rfl) true (by rfl)) (by rw [hK.out]; rfl) (by rfl) _ (Or.inl (by rfl)) (.int .i64 (k : Int)) (by rfl) ?_
          refine fl_op2 42 (by rfl) (by decide) (wanted_if hops 8 true (by rfl) 36 (by rfl) true (by rfl)) (by rw [hK.out]; rfl) (by rfl) (.tmp 40) (.tmp 41) (.slice (some ad) q.length c) (.int .i64 (k : Int)) (by rfl) (by rfl) (.pointer (some (ad.add (k * 2)))) (fun ρ h1 h2 kk w1 (hg : Grow _ w1) hb hf => by go_simp; try (intro hlt; omega)) ?_
          refine fl_op1 43 (by rfl) (by decide) (wanted_if hops 8 true (by rfl) 36 (by rfl) true (by rfl)) (by rw [hK.out]; rfl) (by rfl) (.tmp 42) (.pointer (some (ad.add (k * 2)))) (by rfl) (.pointer (some (ad.add (k * 2)))) (fun ρ h1 kk w1 (hg : Grow _ w1) hb hf => by go_simp) ?_
          refine fl_op1 44 (by rfl) (by decide) (wanted_if hops 8 true (by rfl) 36 (by rfl) true (by rfl)) (by rw [hK.out]; rfl) (by rfl) (.tmp 43) (.pointer (some (ad.add (k * 2)))) (by rfl) (.string dk.1) (fun ρ h1 kk w1 (hg : Grow _ w1) hb hf => by have c1 := he0 w1 hg; go_simp) ?_
          refine fl_mv 45 (by rfl) (by decide) (wanted_if hops 8 true (by rfl) 36 (by rfl) true (by rfl)) (by rw [hK.out]; rfl) (by rfl) _ (Or.inl (by rfl)) (.string x) (by rfl) ?_
          refine fl_op2 46 (by rfl) (by decide) (wanted_if hops 8 true (by rfl) 36 (by rfl) true (by rfl)) (by rw [hK.out]; rfl) (by rfl) (.tmp 44) (.tmp 45) (.string dk.1) (.string x) (by rfl) (by rfl) (.bool true) (fun ρ h1 h2 kk w1 (hg : Grow _ w1) hb hf => by go_simp) ?_
          refine fl_pick 47 (by rfl) (by decide) (wanted_none (by rfl)) (by rw [hK.out]; rfl) (by rfl) _ _ _ (by rfl) true (by rfl) (.bool true) (by rfl) ?_
          refine fl_mv 4 (by rfl) (by decide) (wanted_none (by rfl)) (by rw [hK.out]; rfl) (by rfl) _ (Or.inr (by rfl)) (.int .i64 (k : Int)) (by rfl) ?_
          refine fl_mv 5 (by rfl) (by decide) (wanted_none (by rfl)) (by rw [hK.out]; rfl) (by rfl) _ (Or.inr (by rfl)) (.bool true) (by rfl) ?_
          refine fl_end (fun _ _ w1 (hg : Grow _ w1) _ hfacts => hT _ _ ?_)
          clear hops hA' hK hT
          simp only [putsL, Act.put, List.setIfInBounds_toArray, List.set_cons_zero, List.set_cons_succ, List.drop_succ_cons, List.drop_zero]
          clear hfacts
          go_wp2_with fail
          go_ret2
          exact ⟨rfl, hgr.trans hg⟩
        · obtain rfl : I = false := hin.trans (decide_eq_false hx)
          clear hin
          have hx' : (dk.1.toList == x.toList) = false := beq_eq_false_iff_ne.2 fun e => hx (txt_eq.1 e)
          go_wp2_with fail
          refine wp_region_flow 22 48 [] rfl rfl (by kernel_rfl) (by kernel_rfl) (by kernel_rfl) ?_ ?_
          · intro x hx φ he
            cases hx
          intro ops' A' K' T hops hA' hK hT
          refine fl_mv 28 (by rfl) (by decide) (wanted_none (by rfl)) (by rw [hK.out]; rfl) (by rfl) _ (Or.inl (by rfl)) (.int .i64 (k : Int)) (by rfl) ?_
          refine fl_mv 29 (by rfl) (by decide) (wanted_none (by rfl)) (by rw [hK.out]; rfl) (by rfl) _ (Or.inl (by rfl)) (.int .i64 (k : Int)) (by rfl) ?_
          refine fl_mv 30 (by rfl) (by decide) (wanted_none (by rfl)) (by rw [hK.out]; rfl) (by rfl) _ (Or.inl (by rfl)) (.pointer (some ⟨r, 0, none⟩)) (by rfl) ?_
          refine fl_op1 31 (by rfl) (by decide) (wanted_none (by rfl)) (by rw [hK.out]; rfl) (by rfl) (.tmp 30) (.pointer (some ⟨r, 0, none⟩)) (by rfl) (.pointer (some ⟨r, 0, none⟩)) (fun ρ h1 kk w1 (hg : Grow _ w1) hb hf => by go_simp) ?_
          refine fl_op1 32 (by rfl) (by decide) (wanted_none (by rfl)) (by rw [hK.out]; rfl) (by rfl) (.tmp 31) (.pointer (some ⟨r, 0, none⟩)) (by rfl) (.pointer (some ⟨r, 0, none⟩)) (fun ρ h1 kk w1 (hg : Grow _ w1) hb hf => by go_simp) ?_
          refine fl_op1 33 (by rfl) (by decide) (wanted_none (by rfl)) (by rw [hK.out]; rfl) (by rfl) (.tmp 32) (.pointer (some ⟨r, 0, none⟩)) (by rfl) (.slice (some ad) q.length c) (fun ρ h1 kk w1 (hg : Grow _ w1) hb hf => by have c0 := (hB.grow hg).cell 0; go_simp) ?_
          refine fl_op1 34 (by rfl) (by decide) (wanted_none (by rfl)) (by rw [hK.out]; rfl) (by rfl) (.tmp 33) (.slice (some ad) q.length c) (by rfl) (.int .i64 (q.length : Int)) (fun ρ h1 kk w1 (hg : Grow _ w1) hb hf => by go_simp) ?_
          refine fl_op2 35 (by rfl) (by decide) (wanted_none (by rfl)) (by rw [hK.out]; rfl) (by rfl) (.tmp 29) (.tmp 34) (.int .i64 (k : Int)) (.int .i64 (q.length : Int)) (by rfl) (by rfl) (.bool true) (fun ρ h1 h2 kk w1 (hg : Grow _ w1) hb hf => by go_simp; try omega) ?_
          refine fl_mv 36 (by rfl) (by decide) (wanted_none (by rfl)) (by rw [hK.out]; rfl) (by rfl) _ (Or.inl (by rfl)) (.bool true) (by rfl) ?_
          refine fl_mv 37 (by rfl) (by decide) (wanted_if hops 8 true (by rfl) 36 (by rfl) true (by rfl)) (by rw [hK.out]; rfl) (by rfl) _ (Or.inl (by rfl)) (.pointer (some ⟨r, 0, none⟩)) (by rfl) ?_
          refine fl_op1 38 (by rfl) (by decide) (wanted_if hops 8 true (by rfl) 36 (by rfl) true (by rfl)) (by rw [hK.out]; rfl) (by rfl) (.tmp 37) (.pointer (some ⟨r, 0, none⟩)) (by rfl) (.pointer (some ⟨r, 0, none⟩)) (fun ρ h1 kk w1 (hg : Grow _ w1) hb hf => by go_simp) ?_
          refine fl_op1 39 (by rfl) (by decide) (wanted_if hops 8 true (by rfl) 36 (by rfl) true (by rfl)) (by rw [hK.out]; rfl) (by rfl) (.tmp 38) (.pointer (some ⟨r, 0, none⟩)) (by rfl) (.pointer (some ⟨r, 0, none⟩)) (fun ρ h1 kk w1 (hg : Grow _ w1) hb hf => by go_simp) ?_
          refine fl_op1 40 (by rfl) (by decide) (wanted_if hops 8 true (by rfl) 36 (by rfl) true (by rfl)) (by rw [hK.out]; rfl) (by rfl) (.tmp 39) (.pointer (some ⟨r, 0, none⟩)) (by rfl) (.slice (some ad) q.length c) (fun ρ h1 kk w1 (hg : Grow _ w1) hb hf => by have c0 := (hB.grow hg).cell 0; go_simp) ?_
          refine fl_mv 41 (by rfl) (by decide) (wanted_if hops 8 true (by rfl) 36 (by rfl) true (by rfl)) (by rw [hK.out]; rfl) (by rfl) _ (Or.inl (by rfl)) (.int .i64 (k : Int)) (by rfl) ?_
          refine fl_op2 42 (by rfl) (by decide) (wanted_if hops 8 true (by rfl) 36 (by rfl) true (by rfl)) (by rw [hK.out]; rfl) (by rfl) (.tmp 40) (.tmp 41) (.slice (some ad) q.length c) (.int .i64 (k : Int)) (by rfl) (by rfl) (.pointer (some (ad.add (k * 2)))) (fun ρ h1 h2 kk w1 (hg : Grow _ w1) hb hf => by go_simp; try (intro hlt; omega)) ?_
          refine fl_op1 43 (by rfl) (by decide) (wanted_if hops 8 true (by rfl) 36 (by rfl) true (by rfl)) (by rw [hK.out]; rfl) (by rfl) (.tmp 42) (.pointer (some (ad.add (k * 2)))) (by rfl) (.pointer (some (ad.add (k * 2)))) (fun ρ h1 kk w1 (hg : Grow _ w1) hb hf => by go_simp) ?_
          refine fl_op1 44 (by rfl) (by decide) (wanted_if hops 8 true (by rfl) 36 (by rfl) true (by rfl)) (by rw [hK.out]; rfl) (by rfl) (.tmp 43) (.pointer (some (ad.add (k * 2)))) (by rfl) (.string dk.1) (fun ρ h1 kk w1 (hg : Grow _ w1) hb hf => by have c1 := he0 w1 hg; go_simp) ?_
          refine fl_mv 45 (by rfl) (by decide) (wanted_if hops 8 true (by rfl) 36 (by rfl) true (by rfl)) (by rw [hK.out]; rfl) (by rfl) _ (Or.inl (by rfl)) (.string x) (by rfl) ?_
          refine fl_op2 46 (by rfl) (by decide) (wanted_if hops 8 true (by rfl) 36 (by rfl) true (by rfl)) (by rw [hK.out]; rfl) (by rfl) (.tmp 44) (.tmp 45) (.string dk.1) (.string x) (by rfl) (by rfl) (.bool false) (fun ρ h1 h2 kk w1 (hg : Grow _ w1) hb hf => by go_simp) ?_
          refine fl_pick 47 (by rfl) (by decide) (wanted_none (by rfl)) (by rw [hK.out]; rfl) (by rfl) _ _ _ (by rfl) true (by rfl) (.bool false) (by rfl) ?_
          refine fl_mv 4 (by rfl) (by decide) (wanted_none (by rfl)) (by rw [hK.out]; rfl) (by rfl) _ (Or.inr (by rfl)) (.int .i64 (k : Int)) (by rfl) ?_
          refine fl_mv 5 (by rfl) (by decide) (wanted_none (by rfl)) (by rw [hK.out]; rfl) (by rfl) _ (Or.inr (by rfl)) (.bool false) (by rfl) ?_
          refine fl_end (fun _ _ w1 (hg : Grow _ w1) _ hfacts => hT _ _ ?_)
          clear hops hA' hK hT
          simp only [putsL, Act.put, List.setIfInBounds_toArray, List.set_cons_zero, List.set_cons_succ, List.drop_succ_cons, List.drop_zero]
          clear hfacts
          go_wp2_with fail
          go_ret2
          exact ⟨rfl, hgr.trans hg⟩
      · have hkt : decide (k < q.length) = false := decide_eq_false hkl
        obtain rfl : I = false := by
          rw [HI.out]
          cases hl : (lk q x).isSome with
          | false => rfl
          | true =>
            obtain ⟨d, hd, _⟩ := hcut.out.1 hl
            rw [← HC.out, List.getElem?_eq_none (by omega)] at hd
            cases hd
        clear hcut hle HI HC
        go_wp2_with fail
        refine wp_region_flow 22 48 [] rfl rfl (by kernel_rfl) (by kernel_rfl) (by kernel_rfl) ?_ ?_
        · intro x hx φ he
          cases hx
        intro ops' A' K' T hops hA' hK hT
        refine fl_mv 28 (by rfl) (by decide) (wanted_none (by rfl)) (by rw [hK.out]; rfl) (by rfl) _ (Or.inl (by rfl)) (.int .i64 (k : Int)) (by rfl) ?_
        refine fl_mv 29 (by rfl) (by decide) (wanted_none (by rfl)) (by rw [hK.out]; rfl) (by rfl) _ (Or.inl (by rfl)) (.int .i64 (k : Int)) (by rfl) ?_
        refine fl_mv 30 (by rfl) (by decide) (wanted_none (by rfl)) (by rw [hK.out]; rfl) (by rfl) _ (Or.inl (by rfl)) (.pointer (some ⟨r, 0, none⟩)) (by rfl) ?_
        refine fl_op1 31 (by rfl) (by decide) (wanted_none (by rfl)) (by rw [hK.out]; rfl) (by rfl) (.tmp 30) (.pointer (some ⟨r, 0, none⟩)) (by rfl) (.pointer (some ⟨r, 0, none⟩)) (fun ρ h1 kk w1 (hg : Grow _ w1) hb hf => by go_simp) ?_
        refine fl_op1 32 (by rfl) (by decide) (wanted_none (by rfl)) (by rw [hK.out]; rfl) (by rfl) (.tmp 31) (.pointer (some ⟨r, 0, none⟩)) (by rfl) (.pointer (some ⟨r, 0, none⟩)) (fun ρ h1 kk w1 (hg : Grow _ w1) hb hf => by go_simp) ?_
        refine fl_op1 33 (by rfl) (by decide) (wanted_none (by rfl)) (by rw [hK.out]; rfl) (by rfl) (.tmp 32) (.pointer (some ⟨r, 0, none⟩)) (by rfl) (.slice A q.length c) (fun ρ h1 kk w1 (hg : Grow _ w1) hb hf => by have c0 := (hB.grow hg).cell 0; go_simp) ?_
        refine fl_op1 34 (by rfl) (by decide) (wanted_none (by rfl)) (by rw [hK.out]; rfl) (by rfl) (.tmp 33) (.slice A q.length c) (by rfl) (.int .i64 (q.length : Int)) (fun ρ h1 kk w1 (hg : Grow _ w1) hb hf => by go_simp) ?_
        refine fl_op2 35 (by rfl) (by decide) (wanted_none (by rfl)) (by rw [hK.out]; rfl) (by rfl) (.tmp 29) (.tmp 34) (.int .i64 (k : Int)) (.int .i64 (q.length : Int)) (by rfl) (by rfl) (.bool false) (fun ρ h1 h2 kk w1 (hg : Grow _ w1) hb hf => by go_simp) ?_
        refine fl_mv 36 (by rfl) (by decide) (wanted_none (by rfl)) (by rw [hK.out]; rfl) (by rfl) _ (Or.inl (by rfl)) (.bool false) (by rfl) ?_
        refine fl_skip 37 (by rfl) (by decide) (wanted_if hops 8 true (by rfl) 36 (by rfl) false (by rfl)) (by rfl) ?_
        refine fl_skip 38 (by rfl) (by decide) (wanted_if hops 8 true (by rfl) 36 (by rfl) false (by rfl)) (by rfl) ?_
        refine fl_skip 39 (by rfl) (by decide) (wanted_if hops 8 true (by rfl) 36 (by rfl) false (by rfl)) (by rfl) ?_
        refine fl_skip 40 (by rfl) (by decide) (wanted_if hops 8 true (by rfl) 36 (by rfl) false (by rfl)) (by rfl) ?_
        refine fl_skip 41 (by rfl) (by decide) (wanted_if hops 8 true (by rfl) 36 (by rfl) false (by rfl)) (by rfl) ?_
        refine fl_skip 42 (by rfl) (by decide) (wanted_if hops 8 true (by rfl) 36 (by rfl) false (by rfl)) (by rfl) ?_
        refine fl_skip 43 (by rfl) (by decide) (wanted_if hops 8 true (by rfl) 36 (by rfl) false (by rfl)) (by rfl) ?_
        refine fl_skip 44 (by rfl) (by decide) (wanted_if hops 8 true (by rfl) 36 (by rfl) false (by rfl)) (by rfl) ?_
        refine fl_skip 45 (by rfl) (by decide) (wanted_if hops 8 true (by rfl) 36 (by rfl) false (by rfl)) (by rfl) ?_
        refine fl_skip 46 (by rfl) (by decide) (wanted_if hops 8 true (by rfl) 36 (by rfl) false (by rfl)) (by rfl) ?_
        refine fl_pick 47 (by rfl) (by decide) (wanted_none (by rfl)) (by rw [hK.out]; rfl) (by rfl) _ _ _ (by rfl) false (by rfl) (.bool false) (by rfl) ?_
        refine fl_mv 4 (by rfl) (by decide) (wanted_none (by rfl)) (by rw [hK.out]; rfl) (by rfl) _ (Or.inr (by rfl)) (.int .i64 (k : Int)) (by rfl) ?_
        refine fl_mv 5 (by rfl) (by decide) (wanted_none (by rfl)) (by rw [hK.out]; rfl) (by rfl) _ (Or.inr (by rfl)) (.bool false) (by rfl) ?_
        refine fl_end (fun _ _ w1 (hg : Grow _ w1) _ hfacts => hT _ _ ?_)
        clear hops hA' hK hT
        simp only [putsL, Act.put, List.setIfInBounds_toArray, List.set_cons_zero, List.set_cons_succ, List.drop_succ_cons, List.drop_zero]
        clear hfacts
        go_wp2_with fail
        go_ret2
        exact ⟨rfl, hgr.trans hg⟩
end Go.Proofs.Ytnijeemldhmkjaa
