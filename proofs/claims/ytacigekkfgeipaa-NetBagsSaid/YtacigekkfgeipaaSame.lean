/- Both nets hold the same. -/
import Derived.Test.YtacigekkfgeipaaInts
namespace Go.Proofs.Ytacigekkfgeipaa
open Go.RowKit Go.Hop
theorem conv_bin (w : World) {V : Nat → Prop} {A : Option Addr} {n c : Nat} {l : List UInt8} (h : BIn w V A n l) : (convert 23 9 (.slice A n c)).run Try.prog w = .ok (.string ⟨l.toArray⟩) w :=
  run_conv_bytes 23 9 5 Try.underlying23 Try.underlying5 Try.underlying9 w (B := w.heap.size) (In.reads h)
theorem rec3 {α : Type} {cells : α → List Value} {q : List α} {w : World} {V : Nat → Prop} {A : Option Addr} {n : Nat} (h : In w V 3 A n (q.flatMap cells)) (hl : ∀ a, (cells a).length = 3) {k : Nat} (hk : k < n) :
    ∃ (ad : Addr) (hq : k < q.length), A = some ad ∧ (∀ u, (cells q[k])[0]? = some u → ∀ w1, Grow w w1 → w1.cell? (ad.add (k * 3)) = some u) ∧ (∀ u, (cells q[k])[1]? = some u → ∀ w1, Grow w w1 → w1.cell? ⟨(ad.add (k * 3)).block, (ad.add (k * 3)).off + 1, none⟩ = some u) ∧ ∀ u, (cells q[k])[2]? = some u → ∀ w1, Grow w w1 → w1.cell? ⟨(ad.add (k * 3)).block, (ad.add (k * 3)).off + 2, none⟩ = some u := by
  obtain ⟨ad, hq, e, _, hb, e0, e1⟩ := h.rec_ (by omega) hl hk
  exact ⟨ad, hq, e, fun u hu w1 hg => (hg.cell (by rw [block_add]; exact hb)).trans (e0 u hu), fun u hu w1 hg => (hg.cell (p := ⟨(ad.add (k * 3)).block, (ad.add (k * 3)).off + 1, none⟩) (by show (ad.add (k * 3)).block < _; rw [block_add]; exact hb)).trans (e1 0 u hu), fun u hu w1 hg => (hg.cell (p := ⟨(ad.add (k * 3)).block, (ad.add (k * 3)).off + 2, none⟩) (by show (ad.add (k * 3)).block < _; rw [block_add]; exact hb)).trans (e1 1 u hu)⟩
set_option maxRecDepth 20000 in
theorem same_any (w : World) (g r : Nat) (nodes nodes' : Int) (l : List Lb) (P P' : Nat → Bool) (V U : Nat → Prop) (hQ : NetAt g nodes l P w V) (hR : RNetAt r nodes' l P' w U) :
    Calls Try.prog 23 #[.pointer (some ⟨g, 0, none⟩), .pointer (some ⟨r, 0, none⟩)] w fun e w' => e = .returned (.bool true) ∧ Grow w w' := by
  obtain ⟨_, A0, c0, D, h64, _, _, hB0, hI0, hnc, hcm, _⟩ := hR
  go_enter Try.func23, Try.ntmps23
  go_wp2_with fail
  go_at_call 16
  refine (All_any w g nodes l P V hQ).mono ?_
  rintro e wa ⟨u, rfl, ⟨A, n, cn, q, rfl, hL, habs, hncn, hcmn⟩, hg1⟩
  obtain rfl : n = l.length := by rw [← hL.len, ← habs, List.length_map]
  have hB := hB0.grow hg1
  have hI := hI0.grow hg1
  have c1 : wa.cell? ⟨r, 1, none⟩ = some (.slice A0 l.length c0) := hB.cell 1
  clear hQ
  go_wp2_with fail
  clear c1
  go_loopw [19] (fun i wr => ∃ k : Nat, k ≤ l.length ∧ i = .int .i64 k ∧ Grow wa wr) (fun i _ => l.length - (intOf i).toNat)
  case atStart => exact ⟨0, by omega, rfl, Grow.refl _⟩
  case round =>
    obtain ⟨k, hkn, rfl, hgr⟩ := hrel
    by_cases hk : k < l.length
    · obtain ⟨ad, hq, rfl, e0, e1, e2⟩ := rec3 (hL.grow hgr).row lt_len hk
      obtain ⟨ar, hq', rfl, f0, f1, f2⟩ := rec3 (hI.grow hgr) rcell_len hk
      have hBr := hB.grow hgr
      have hbs := (hL.all _ (List.getElem_mem hq)).bs.grow hgr
      have hab : l[k] = q[k].abs := by
        have h3 : (q.map Lt.abs)[k]? = some q[k].abs := by rw [List.getElem?_map, List.getElem?_eq_getElem hq]; rfl
        rw [habs, List.getElem?_eq_getElem hk] at h3
        injection h3
      rw [hab] at f0 f1 f2
      have e0 := e0 _ rfl
      have e1 := e1 _ rfl
      have e2 := e2 _ rfl
      have f0 := f0 _ rfl
      have f1 := f1 _ rfl
      have f2 := f2 _ rfl
      clear hab
      generalize q[k] = b at e0 e1 e2 f0 f1 f2 hbs
      obtain ⟨f, t, Ab, mb, cb, bs⟩ := b
      dsimp only [Lt.abs] at e0 e1 e2 f0 f1 f2 hbs
      go_wp2_with fail
      refine wp_region_flow 47 70 [] rfl rfl (by kernel_rfl) (by kernel_rfl) (by kernel_rfl) ?_ ?_
      · intro x hx φ he
        cases hx
      intro ops' A' K' T hops hA' hK hT
      refine fl_mv 22 (by rfl) (by decide) (wanted_none (by rfl)) (by rw [hK.out]; rfl) (by rfl) _ (Or.inl (by rfl)) (.slice (some ad) l.length cn) (by rfl) ?_
      refine fl_mv 23 (by rfl) (by decide) (wanted_none (by rfl)) (by rw [hK.out]; rfl) (by rfl) _ (Or.inl (by rfl)) (.int .i64 (k : Int)) (by rfl) ?_
      refine fl_op2 24 (by rfl) (by decide) (wanted_none (by rfl)) (by rw [hK.out]; rfl) (by rfl) (.tmp 22) (.tmp 23) (.slice (some ad) l.length cn) (.int .i64 (k : Int)) (by rfl) (by rfl) (.pointer (some (ad.add (k * 3)))) (fun ρ h1 h2 kk w1 (hg : Grow _ w1) hb hf => by go_simp) ?_
      refine fl_op1 25 (by rfl) (by decide) (wanted_none (by rfl)) (by rw [hK.out]; rfl) (by rfl) (.tmp 24) (.pointer (some (ad.add (k * 3)))) (by rfl) (.pointer (some (ad.add (k * 3)))) (fun ρ h1 kk w1 (hg : Grow _ w1) hb hf => by go_simp) ?_
      refine fl_op1 26 (by rfl) (by decide) (wanted_none (by rfl)) (by rw [hK.out]; rfl) (by rfl) (.tmp 25) (.pointer (some (ad.add (k * 3)))) (by rfl) (.int .i64 f) (fun ρ h1 kk w1 (hg : Grow _ w1) hb hf => by have c := e0 _ hg; go_simp) ?_
      refine fl_mv 27 (by rfl) (by decide) (wanted_none (by rfl)) (by rw [hK.out]; rfl) (by rfl) _ (Or.inl (by rfl)) (.pointer (some ⟨r, 0, none⟩)) (by rfl) ?_
      refine fl_op1 28 (by rfl) (by decide) (wanted_none (by rfl)) (by rw [hK.out]; rfl) (by rfl) (.tmp 27) (.pointer (some ⟨r, 0, none⟩)) (by rfl) (.pointer (some ⟨r, 0, none⟩)) (fun ρ h1 kk w1 (hg : Grow _ w1) hb hf => by go_simp) ?_
      refine fl_op1 29 (by rfl) (by decide) (wanted_none (by rfl)) (by rw [hK.out]; rfl) (by rfl) (.tmp 28) (.pointer (some ⟨r, 0, none⟩)) (by rfl) (.pointer (some ⟨r, 1, none⟩)) (fun ρ h1 kk w1 (hg : Grow _ w1) hb hf => by go_simp) ?_
      refine fl_op1 30 (by rfl) (by decide) (wanted_none (by rfl)) (by rw [hK.out]; rfl) (by rfl) (.tmp 29) (.pointer (some ⟨r, 1, none⟩)) (by rfl) (.slice (some ar) l.length c0) (fun ρ h1 kk w1 (hg : Grow _ w1) hb hf => by have c : w1.cell? ⟨r, 1, none⟩ = some (.slice (some ar) l.length c0) := (hBr.grow hg).cell 1; go_simp) ?_
      refine fl_mv 31 (by rfl) (by decide) (wanted_none (by rfl)) (by rw [hK.out]; rfl) (by rfl) _ (Or.inl (by rfl)) (.int .i64 (k : Int)) (by rfl) ?_
      refine fl_op2 32 (by rfl) (by decide) (wanted_none (by rfl)) (by rw [hK.out]; rfl) (by rfl) (.tmp 30) (.tmp 31) (.slice (some ar) l.length c0) (.int .i64 (k : Int)) (by rfl) (by rfl) (.pointer (some (ar.add (k * 3)))) (fun ρ h1 h2 kk w1 (hg : Grow _ w1) hb hf => by go_simp) ?_
      refine fl_op1 33 (by rfl) (by decide) (wanted_none (by rfl)) (by rw [hK.out]; rfl) (by rfl) (.tmp 32) (.pointer (some (ar.add (k * 3)))) (by rfl) (.pointer (some (ar.add (k * 3)))) (fun ρ h1 kk w1 (hg : Grow _ w1) hb hf => by go_simp) ?_
      refine fl_op1 34 (by rfl) (by decide) (wanted_none (by rfl)) (by rw [hK.out]; rfl) (by rfl) (.tmp 33) (.pointer (some (ar.add (k * 3)))) (by rfl) (.int .i64 f) (fun ρ h1 kk w1 (hg : Grow _ w1) hb hf => by have c := f0 _ hg; go_simp) ?_
      refine fl_op2 35 (by rfl) (by decide) (wanted_none (by rfl)) (by rw [hK.out]; rfl) (by rfl) (.tmp 26) (.tmp 34) (.int .i64 f) (.int .i64 f) (by rfl) (by rfl) (.bool false) (fun ρ h1 h2 kk w1 (hg : Grow _ w1) hb hf => by go_simp) ?_
      refine fl_mv 36 (by rfl) (by decide) (wanted_none (by rfl)) (by rw [hK.out]; rfl) (by rfl) _ (Or.inl (by rfl)) (.bool false) (by rfl) ?_
      refine fl_mv 37 (by rfl) (by decide) (wanted_if hops 14 false (by rfl) 36 (by rfl) false (by rfl)) (by rw [hK.out]; rfl) (by rfl) _ (Or.inl (by rfl)) (.slice (some ad) l.length cn) (by rfl) ?_
      refine fl_mv 38 (by rfl) (by decide) (wanted_if hops 14 false (by rfl) 36 (by rfl) false (by rfl)) (by rw [hK.out]; rfl) (by rfl) _ (Or.inl (by rfl)) (.int .i64 (k : Int)) (by rfl) ?_
      refine fl_op2 39 (by rfl) (by decide) (wanted_if hops 14 false (by rfl) 36 (by rfl) false (by rfl)) (by rw [hK.out]; rfl) (by rfl) (.tmp 37) (.tmp 38) (.slice (some ad) l.length cn) (.int .i64 (k : Int)) (by rfl) (by rfl) (.pointer (some (ad.add (k * 3)))) (fun ρ h1 h2 kk w1 (hg : Grow _ w1) hb hf => by go_simp) ?_
      refine fl_op1 40 (by rfl) (by decide) (wanted_if hops 14 false (by rfl) 36 (by rfl) false (by rfl)) (by rw [hK.out]; rfl) (by rfl) (.tmp 39) (.pointer (some (ad.add (k * 3)))) (by rfl) (.pointer (some ⟨(ad.add (k * 3)).block, (ad.add (k * 3)).off + 1, none⟩)) (fun ρ h1 kk w1 (hg : Grow _ w1) hb hf => by go_simp) ?_
      refine fl_op1 41 (by rfl) (by decide) (wanted_if hops 14 false (by rfl) 36 (by rfl) false (by rfl)) (by rw [hK.out]; rfl) (by rfl) (.tmp 40) (.pointer (some ⟨(ad.add (k * 3)).block, (ad.add (k * 3)).off + 1, none⟩)) (by rfl) (.int .i64 t) (fun ρ h1 kk w1 (hg : Grow _ w1) hb hf => by have c := e1 _ hg; go_simp) ?_
      refine fl_mv 42 (by rfl) (by decide) (wanted_if hops 14 false (by rfl) 36 (by rfl) false (by rfl)) (by rw [hK.out]; rfl) (by rfl) _ (Or.inl (by rfl)) (.pointer (some ⟨r, 0, none⟩)) (by rfl) ?_
      refine fl_op1 43 (by rfl) (by decide) (wanted_if hops 14 false (by rfl) 36 (by rfl) false (by rfl)) (by rw [hK.out]; rfl) (by rfl) (.tmp 42) (.pointer (some ⟨r, 0, none⟩)) (by rfl) (.pointer (some ⟨r, 0, none⟩)) (fun ρ h1 kk w1 (hg : Grow _ w1) hb hf => by go_simp) ?_
      refine fl_op1 44 (by rfl) (by decide) (wanted_if hops 14 false (by rfl) 36 (by rfl) false (by rfl)) (by rw [hK.out]; rfl) (by rfl) (.tmp 43) (.pointer (some ⟨r, 0, none⟩)) (by rfl) (.pointer (some ⟨r, 1, none⟩)) (fun ρ h1 kk w1 (hg : Grow _ w1) hb hf => by go_simp) ?_
      refine fl_op1 45 (by rfl) (by decide) (wanted_if hops 14 false (by rfl) 36 (by rfl) false (by rfl)) (by rw [hK.out]; rfl) (by rfl) (.tmp 44) (.pointer (some ⟨r, 1, none⟩)) (by rfl) (.slice (some ar) l.length c0) (fun ρ h1 kk w1 (hg : Grow _ w1) hb hf => by have c : w1.cell? ⟨r, 1, none⟩ = some (.slice (some ar) l.length c0) := (hBr.grow hg).cell 1; go_simp) ?_
      refine fl_mv 46 (by rfl) (by decide) (wanted_if hops 14 false (by rfl) 36 (by rfl) false (by rfl)) (by rw [hK.out]; rfl) (by rfl) _ (Or.inl (by rfl)) (.int .i64 (k : Int)) (by rfl) ?_
      refine fl_op2 47 (by rfl) (by decide) (wanted_if hops 14 false (by rfl) 36 (by rfl) false (by rfl)) (by rw [hK.out]; rfl) (by rfl) (.tmp 45) (.tmp 46) (.slice (some ar) l.length c0) (.int .i64 (k : Int)) (by rfl) (by rfl) (.pointer (some (ar.add (k * 3)))) (fun ρ h1 h2 kk w1 (hg : Grow _ w1) hb hf => by go_simp) ?_
      refine fl_op1 48 (by rfl) (by decide) (wanted_if hops 14 false (by rfl) 36 (by rfl) false (by rfl)) (by rw [hK.out]; rfl) (by rfl) (.tmp 47) (.pointer (some (ar.add (k * 3)))) (by rfl) (.pointer (some ⟨(ar.add (k * 3)).block, (ar.add (k * 3)).off + 1, none⟩)) (fun ρ h1 kk w1 (hg : Grow _ w1) hb hf => by go_simp) ?_
      refine fl_op1 49 (by rfl) (by decide) (wanted_if hops 14 false (by rfl) 36 (by rfl) false (by rfl)) (by rw [hK.out]; rfl) (by rfl) (.tmp 48) (.pointer (some ⟨(ar.add (k * 3)).block, (ar.add (k * 3)).off + 1, none⟩)) (by rfl) (.int .i64 t) (fun ρ h1 kk w1 (hg : Grow _ w1) hb hf => by have c := f1 _ hg; go_simp) ?_
      refine fl_op2 50 (by rfl) (by decide) (wanted_if hops 14 false (by rfl) 36 (by rfl) false (by rfl)) (by rw [hK.out]; rfl) (by rfl) (.tmp 41) (.tmp 49) (.int .i64 t) (.int .i64 t) (by rfl) (by rfl) (.bool false) (fun ρ h1 h2 kk w1 (hg : Grow _ w1) hb hf => by go_simp) ?_
      refine fl_pick 51 (by rfl) (by decide) (wanted_none (by rfl)) (by rw [hK.out]; rfl) (by rfl) _ _ _ (by rfl) false (by rfl) (.bool false) (by rfl) ?_
      refine fl_mv 52 (by rfl) (by decide) (wanted_none (by rfl)) (by rw [hK.out]; rfl) (by rfl) _ (Or.inl (by rfl)) (.bool false) (by rfl) ?_
      refine fl_mv 53 (by rfl) (by decide) (wanted_if hops 30 false (by rfl) 52 (by rfl) false (by rfl)) (by rw [hK.out]; rfl) (by rfl) _ (Or.inl (by rfl)) (.slice (some ad) l.length cn) (by rfl) ?_
      refine fl_mv 54 (by rfl) (by decide) (wanted_if hops 30 false (by rfl) 52 (by rfl) false (by rfl)) (by rw [hK.out]; rfl) (by rfl) _ (Or.inl (by rfl)) (.int .i64 (k : Int)) (by rfl) ?_
      refine fl_op2 55 (by rfl) (by decide) (wanted_if hops 30 false (by rfl) 52 (by rfl) false (by rfl)) (by rw [hK.out]; rfl) (by rfl) (.tmp 53) (.tmp 54) (.slice (some ad) l.length cn) (.int .i64 (k : Int)) (by rfl) (by rfl) (.pointer (some (ad.add (k * 3)))) (fun ρ h1 h2 kk w1 (hg : Grow _ w1) hb hf => by go_simp) ?_
      refine fl_op1 56 (by rfl) (by decide) (wanted_if hops 30 false (by rfl) 52 (by rfl) false (by rfl)) (by rw [hK.out]; rfl) (by rfl) (.tmp 55) (.pointer (some (ad.add (k * 3)))) (by rfl) (.pointer (some ⟨(ad.add (k * 3)).block, (ad.add (k * 3)).off + 2, none⟩)) (fun ρ h1 kk w1 (hg : Grow _ w1) hb hf => by go_simp) ?_
      refine fl_op1 57 (by rfl) (by decide) (wanted_if hops 30 false (by rfl) 52 (by rfl) false (by rfl)) (by rw [hK.out]; rfl) (by rfl) (.tmp 56) (.pointer (some ⟨(ad.add (k * 3)).block, (ad.add (k * 3)).off + 2, none⟩)) (by rfl) (.slice Ab mb cb) (fun ρ h1 kk w1 (hg : Grow _ w1) hb hf => by have c := e2 _ hg; go_simp) ?_
      refine fl_op1 58 (by rfl) (by decide) (wanted_if hops 30 false (by rfl) 52 (by rfl) false (by rfl)) (by rw [hK.out]; rfl) (by rfl) (.tmp 57) (.slice Ab mb cb) (by rfl) (.string ⟨bs.toArray⟩) (fun ρ h1 kk w1 (hg : Grow _ w1) hb hf => by have cv := conv_bin w1 (c := cb) (In.grow hbs hg); go_simp) ?_
      refine fl_mv 59 (by rfl) (by decide) (wanted_if hops 30 false (by rfl) 52 (by rfl) false (by rfl)) (by rw [hK.out]; rfl) (by rfl) _ (Or.inl (by rfl)) (.pointer (some ⟨r, 0, none⟩)) (by rfl) ?_
      refine fl_op1 60 (by rfl) (by decide) (wanted_if hops 30 false (by rfl) 52 (by rfl) false (by rfl)) (by rw [hK.out]; rfl) (by rfl) (.tmp 59) (.pointer (some ⟨r, 0, none⟩)) (by rfl) (.pointer (some ⟨r, 0, none⟩)) (fun ρ h1 kk w1 (hg : Grow _ w1) hb hf => by go_simp) ?_
      refine fl_op1 61 (by rfl) (by decide) (wanted_if hops 30 false (by rfl) 52 (by rfl) false (by rfl)) (by rw [hK.out]; rfl) (by rfl) (.tmp 60) (.pointer (some ⟨r, 0, none⟩)) (by rfl) (.pointer (some ⟨r, 1, none⟩)) (fun ρ h1 kk w1 (hg : Grow _ w1) hb hf => by go_simp) ?_
      refine fl_op1 62 (by rfl) (by decide) (wanted_if hops 30 false (by rfl) 52 (by rfl) false (by rfl)) (by rw [hK.out]; rfl) (by rfl) (.tmp 61) (.pointer (some ⟨r, 1, none⟩)) (by rfl) (.slice (some ar) l.length c0) (fun ρ h1 kk w1 (hg : Grow _ w1) hb hf => by have c : w1.cell? ⟨r, 1, none⟩ = some (.slice (some ar) l.length c0) := (hBr.grow hg).cell 1; go_simp) ?_
      refine fl_mv 63 (by rfl) (by decide) (wanted_if hops 30 false (by rfl) 52 (by rfl) false (by rfl)) (by rw [hK.out]; rfl) (by rfl) _ (Or.inl (by rfl)) (.int .i64 (k : Int)) (by rfl) ?_
      refine fl_op2 64 (by rfl) (by decide) (wanted_if hops 30 false (by rfl) 52 (by rfl) false (by rfl)) (by rw [hK.out]; rfl) (by rfl) (.tmp 62) (.tmp 63) (.slice (some ar) l.length c0) (.int .i64 (k : Int)) (by rfl) (by rfl) (.pointer (some (ar.add (k * 3)))) (fun ρ h1 h2 kk w1 (hg : Grow _ w1) hb hf => by go_simp) ?_
      refine fl_op1 65 (by rfl) (by decide) (wanted_if hops 30 false (by rfl) 52 (by rfl) false (by rfl)) (by rw [hK.out]; rfl) (by rfl) (.tmp 64) (.pointer (some (ar.add (k * 3)))) (by rfl) (.pointer (some ⟨(ar.add (k * 3)).block, (ar.add (k * 3)).off + 2, none⟩)) (fun ρ h1 kk w1 (hg : Grow _ w1) hb hf => by go_simp) ?_
      refine fl_op1 66 (by rfl) (by decide) (wanted_if hops 30 false (by rfl) 52 (by rfl) false (by rfl)) (by rw [hK.out]; rfl) (by rfl) (.tmp 65) (.pointer (some ⟨(ar.add (k * 3)).block, (ar.add (k * 3)).off + 2, none⟩)) (by rfl) (.string ⟨bs.toArray⟩) (fun ρ h1 kk w1 (hg : Grow _ w1) hb hf => by have c := f2 _ hg; go_simp) ?_
      refine fl_op2 67 (by rfl) (by decide) (wanted_if hops 30 false (by rfl) 52 (by rfl) false (by rfl)) (by rw [hK.out]; rfl) (by rfl) (.tmp 58) (.tmp 66) (.string ⟨bs.toArray⟩) (.string ⟨bs.toArray⟩) (by rfl) (by rfl) (.bool false) (fun ρ h1 h2 kk w1 (hg : Grow _ w1) hb hf => by go_simp) ?_
      refine fl_pick 68 (by rfl) (by decide) (wanted_none (by rfl)) (by rw [hK.out]; rfl) (by rfl) _ _ _ (by rfl) false (by rfl) (.bool false) (by rfl) ?_
      refine fl_end (fun _ _ w1 (hg : Grow _ w1) _ hfacts => hT _ _ ?_)
      clear hops hA' hK hT
      simp only [putsL, Act.put, List.setIfInBounds_toArray, List.set_cons_zero, List.set_cons_succ, List.drop_succ_cons, List.drop_zero]
      go_wp2_with fail
      go_roundw
      case rel => exact ⟨k + 1, by omega, by go_num, hgr.trans hg⟩
      case measure => simp [intOf]; omega
    · obtain rfl : k = l.length := by omega
      go_wp2_with fail
      go_ret
      exact ⟨rfl, hg1.trans hgr⟩
end Go.Proofs.Ytacigekkfgeipaa
