/- The answer's Drop, Twice. -/
import Derived.Test.YtacigekkfgeipaaRo
namespace Go.Proofs.Ytacigekkfgeipaa
open Go.RowKit Go.Hop
theorem nodeB_off {n i : Int} (h : nodeB n i = false) (hi : ¬ i < 0) : n ≤ i := by
  unfold nodeB at h
  rw [decide_eq_true (show 0 ≤ i by omega), Bool.true_and] at h
  have := of_decide_eq_false h
  omega
theorem rDrop_no (w : World) (g : Nat) (nodes : Int) (l : List Lb) (P : Nat → Bool) (i : Int) (h : nodeB (l.length : Int) i = false) :
    Turns Try.prog 19 #[.pointer (some ⟨g, 0, none⟩), .int .i64 i] (fun e => e = .returned (.int .i64 23)) (RNetAt g nodes l P) (RNetAt g nodes l P) w := by
  intro V hQ hV
  have hQ' := hQ
  obtain ⟨h1, A0, c0, D, h64, hN, hInv, hB, hI, hnc, hcm, h9⟩ := hQ
  have c1 : w.cell? ⟨g, 1, none⟩ = some (.slice A0 l.length c0) := hB.cell 1
  by_cases hi : i < 0
  · go_enter Try.func19, Try.ntmps19
    go_wp2_with fail
    go_ret
    exact ⟨rfl, hQ'.wide (fun _ => .inl), Just.of_grow (Grow.refl w)⟩
  · have hl := nodeB_off h hi
    go_enter Try.func19, Try.ntmps19
    go_wp2_with fail
    go_ret
    exact ⟨rfl, hQ'.wide (fun _ => .inl), Just.of_grow (Grow.refl w)⟩
theorem rTwice_no (w : World) (g : Nat) (nodes : Int) (l : List Lb) (P : Nat → Bool) (i : Int) (h : nodeB (l.length : Int) i = false) :
    Turns Try.prog 20 #[.pointer (some ⟨g, 0, none⟩), .int .i64 i] (fun e => e = .returned (.int .i64 23)) (RNetAt g nodes l P) (RNetAt g nodes l P) w := by
  intro V hQ hV
  have hQ' := hQ
  obtain ⟨h1, A0, c0, D, h64, hN, hInv, hB, hI, hnc, hcm, h9⟩ := hQ
  have c1 : w.cell? ⟨g, 1, none⟩ = some (.slice A0 l.length c0) := hB.cell 1
  by_cases hi : i < 0
  · go_enter Try.func20, Try.ntmps20
    go_wp2_with fail
    go_ret
    exact ⟨rfl, hQ'.wide (fun _ => .inl), Just.of_grow (Grow.refl w)⟩
  · have hl := nodeB_off h hi
    go_enter Try.func20, Try.ntmps20
    go_wp2_with fail
    go_ret
    exact ⟨rfl, hQ'.wide (fun _ => .inl), Just.of_grow (Grow.refl w)⟩
theorem rDrop_yes (w : World) (g : Nat) (nodes : Int) (l : List Lb) (P : Nat → Bool) (i : Nat) (h : i < l.length) :
    Turns Try.prog 19 #[.pointer (some ⟨g, 0, none⟩), .int .i64 (i : Int)] (fun e => e = .returned (.int .i64 0)) (RNetAt g nodes l P) (RNetAt g nodes (minus l i) P) w := by
  intro V hQ hV
  have hQ' := hQ
  obtain ⟨h1, A0, c0, D, h64, hN, hInv, hB, hI, hnc, hcm, h9⟩ := hQ
  have c1 : w.cell? ⟨g, 1, none⟩ = some (.slice A0 l.length c0) := hB.cell 1
  have hs := rOut_any w g nodes l P i h V hQ' hV
  have hl : ¬ (l.length : Int) ≤ (i : Int) := by omega
  have hi0 : ¬ (i : Int) < 0 := by omega
  go_enter Try.func19, Try.ntmps19
  go_wp2_with fail
  refine hs.mono ?_
  rintro e w2 ⟨rfl, hN2, hj2⟩
  go_wp2_with fail
  go_ret
  exact ⟨rfl, hN2, hj2⟩
theorem rTwice_yes (w : World) (g : Nat) (nodes : Int) (l : List Lb) (P : Nat → Bool) (i : Nat) (h : i < l.length) :
    Turns Try.prog 20 #[.pointer (some ⟨g, 0, none⟩), .int .i64 (i : Int)] (fun e => e = .returned (.int .i64 (sendE nodes l l[i].1 l[i].2.1))) (RNetAt g nodes l P) (RNetAt g nodes (sendL nodes l l[i]) P) w := by
  intro V hQ hV
  have hQ' := hQ
  obtain ⟨h1, A0, c0, D, h64, hN, hInv, hB, hI, hnc, hcm, h9⟩ := hQ
  have c1 : w.cell? ⟨g, 1, none⟩ = some (.slice A0 l.length c0) := hB.cell 1
  have hl : ¬ (l.length : Int) ≤ (i : Int) := by omega
  have hi0 : ¬ (i : Int) < 0 := by omega
  obtain ⟨ad, hkq, rfl, _, _, e0, e12⟩ := hI.rec_ (by omega) rcell_len h
  have e0 := e0 _ rfl
  have e1 := e12 0 _ rfl
  have e2 := e12 1 _ rfl
  clear e12
  generalize l[i] = la at e0 e1 e2 ⊢
  obtain ⟨f, t, bs⟩ := la
  dsimp only at e0 e1 e2 ⊢
  have hs := rSend_any w g nodes l P f t bs V hQ' hV
  go_enter Try.func20, Try.ntmps20
  go_wp2_with fail
  refine hs.mono ?_
  rintro e w2 ⟨rfl, hN2, hj2⟩
  go_wp2_with fail
  go_ret
  exact ⟨rfl, hN2, hj2⟩
end Go.Proofs.Ytacigekkfgeipaa
