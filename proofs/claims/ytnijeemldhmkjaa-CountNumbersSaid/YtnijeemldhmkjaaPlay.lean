/- Play: its walk. -/
import Derived.Test.YtnijeemldhmkjaaBoth
namespace Go.Proofs.Ytnijeemldhmkjaa
open Go.RowKit Go.Hop
theorem Both.made {w w1 : World} {s : Nat} (h : SAt (fun b => w.heap.size ≤ b) s [] w1) (hg : Grow w w1) : Both w.heap.size s w1.heap.size [] [] (w1.alloc (.cells #[.slice none 0 0] 58)) := by
  obtain ⟨V, h1, h2⟩ := h
  have hga : Grow w1 (w1.alloc (.cells #[.slice none 0 0] 58)) := (Below.refl _ _).alloc (Nat.le_refl _) _
  have hs := hg.size
  refine ⟨V, fun x => x = w1.heap.size, SumsAt.framed s [] w1 _ V h1 fun x hx => hga.block x (h2 x hx).2, ⟨rfl, right_nil, by simp, _, Blk.made w1 _ _, Own.nil⟩, fun x hx e => ?_, fun x hx => ⟨(h2 x hx).1, by have := (h2 x hx).2; simp; omega⟩, fun x hx => ⟨by omega, by simp; omega⟩⟩
  have := (h2 x hx).2; omega
set_option maxRecDepth 100000 in
set_option maxHeartbeats 2000000 in
theorem play_any (w : World) (A : Option Addr) (c0 : Nat) (rq : List Rr) (D : Nat → Prop) (hRI : RowsIn w D A rq) (hDw : ∀ b, D b → b < w.heap.size) (N : Nat) (hN' : N = rq.length) :
    Calls Try.prog 16 #[.slice A N c0] w fun e w' => e = .returned (.bool true) ∧ Grow w w' := by
  have HN := Lib.hid hN'
  clear hN'
  obtain ⟨B, HB⟩ : ∃ B : Nat, Hid (B = w.heap.size) := ⟨_, rfl⟩
  have hDB : ∀ b, D b → b < B := fun b hb => by rw [HB.out]; exact hDw b hb
  have k11 : ∀ (vs : Array Value) (w : World), (callFunc 11 vs).run Try.prog w = .ok (.enter 11 vs) w := fun vs w => by go_simp
  have k24 : ∀ (vs : Array Value) (w : World), (callFunc 24 vs).run Try.prog w = .ok (.enter 24 vs) w := fun vs w => by go_simp
  have k25 : ∀ (vs : Array Value) (w : World), (callFunc 25 vs).run Try.prog w = .ok (.enter 25 vs) w := fun vs w => by go_simp
  have k10 : ∀ (vs : Array Value) (w : World), (callFunc 10 vs).run Try.prog w = .ok (.enter 10 vs) w := fun vs w => by go_simp
  have k26 : ∀ (vs : Array Value) (w : World), (callFunc 26 vs).run Try.prog w = .ok (.enter 26 vs) w := fun vs w => by go_simp
  have k15 : ∀ (vs : Array Value) (w : World), (callFunc 15 vs).run Try.prog w = .ok (.enter 15 vs) w := fun vs w => by go_simp
  have k27 : ∀ (vs : Array Value) (w : World), (callFunc 27 vs).run Try.prog w = .ok (.enter 27 vs) w := fun vs w => by go_simp
  go_enter Try.func16, Try.ntmps16
  go_wp2_with fail
  refine (New_at w).mono ?_
  rintro e w1 ⟨s, rfl, hS1, hg1⟩
  have hB0 := Both.made hS1 hg1
  have hga : Grow w1 (w1.alloc (.cells #[.slice none 0 0] 58)) := (Below.refl _ _).alloc (Nat.le_refl _) _
  have hg2 := below_trans hg1 hga hg1.size
  obtain ⟨r, HR⟩ : ∃ r : Nat, Hid (r = w1.heap.size) := ⟨_, rfl⟩
  rw [← HR.out, ← HB.out] at hB0
  go_wp2_with fail
  rw [← HR.out]
  generalize w1.alloc (.cells #[.slice none 0 0] 58) = w2 at hB0 hg2 ⊢
  clear hS1 hg1 hga HR
  go_loopw [5] (fun i wr => ∃ (k : Nat) (Q : Sm), k ≤ 60 ∧ i = .int .i64 (k : Int) ∧ Both B s r Q Q wr ∧ Q.length ≤ 16 ∧ Just (FromB B) w wr) (fun i _ => 60 - (intOf i).toNat)
  case atStart => exact ⟨0, [], by omega, rfl, hB0, by simp, Just.of_grow hg2⟩
  case round =>
    clear hB0 hg2
    obtain ⟨k, Q, hk60, rfl, hBo, hq, hj⟩ := hrel
    have hfin : ∀ w8, Grow wr w8 → Grow w w8 := fun w8 hg => Below.trans (hj.below (B := w.heap.size) (fun b hb => by have : B ≤ b := hb; have := HB.out; omega) (Nat.le_refl _)) (hg.mono hj.size)
    by_cases hk : k < N
    · have hkt : decide (k < N) = true := decide_eq_true hk
      have hkt2 : decide ((k : Int) < (N : Int)) = true := decide_eq_true (by omega)
      by_cases h60 : k < 60
      · have h6t : decide ((k : Int) < 60) = true := decide_eq_true (by omega)
        have hkN2 : ¬ N ≤ k := by omega
        have hkl : k < rq.length := by have := HN.out; omega
        have hRr := hRI.just hj fun b hb h => by have : B ≤ b := h; have := hDB b hb; omega
        obtain ⟨ad, rfl, _⟩ := row_at hRr hkl
        have hri := hRr.all _ (List.getElem_mem hkl)
        have hc : ∀ w1, Just (FromB B) wr w1 → w1.cell? (ad.add k) = some rq[k].val := fun w1 hj2 => by
          have hR1 := hRr.just hj2 fun b hb h => by have : B ≤ b := h; have := hDB b hb; omega
          obtain ⟨ad', e, h⟩ := row_at hR1 hkl
          injection e with e
          subst e
          exact h w1 (Grow.refl _)
        generalize rq[k] = b at hri hc
        obtain ⟨A9, c9, l9⟩ := b
        obtain ⟨hi9, hok9, hsm9⟩ := hri
        dsimp only at hi9 hok9 hsm9
        obtain ⟨n9, HN9⟩ : ∃ n9, Hid (n9 = l9.length) := ⟨_, rfl⟩
        rw [← HN9.out] at hi9 hsm9
        have hc9 : ∀ w1, Just (FromB B) wr w1 → w1.cell? (ad.add k) = some (.slice A9 n9 c9) := fun w1 hj2 => by rw [hc w1 hj2, HN9.out]; rfl
        have hr9 : ∀ w1, Just (FromB B) wr w1 → In w1 D 2 A9 n9 (dcells l9) := fun w1 hj2 => hi9.just hj2 fun b hb h => by have : B ≤ b := h; have := hDB b hb; omega
        have hD9 : ∀ w1, Just (FromB B) wr w1 → ∀ b, D b → b < w1.heap.size := fun w1 hj2 b hb => by have := hDw b hb; have := hj.size; have := hj2.size; omega
        obtain ⟨E, HE⟩ : ∃ E : Int, Hid (E = mayE Q l9) := ⟨_, rfl⟩
        obtain ⟨Q2, HQ2⟩ : ∃ Q2, Hid (Q2 = addM Q l9) := ⟨_, rfl⟩
        have hsrt : Srt Q := by
          obtain ⟨V1, V2, h1, _⟩ := hBo
          exact h1.2.1.srt
        have hq2 : Q2.length ≤ 16 := by rw [HQ2.out]; exact addM_length hsrt hq l9
        have hB1 := hBo
        clear hc hi9 hRr hsrt
        go_wp2_with fail
        refine wp_region_reg rfl ?_
        refine reg_flow (PlSt B s r Q Q2) plSt_ok 0 44 113 [(8, .inl (.int .i64 E)), (14, .inl (.int .i64 E)), (20, .inl (.bool true)), (29, .inl (.int .i64 E)), (35, .inl (.int .i64 E)), (41, .inl (.bool true))] rfl (by kernel_rfl) (by kernel_rfl) (by kernel_rfl) ?_ (Just.of_grow (Grow.refl _).drew) (hB1.grow (Grow.refl _).drew) ?_
        · intro x hx φ he
          simp only [List.mem_cons, List.not_mem_nil, or_false] at hx
          rcases hx with rfl | rfl | rfl | rfl | rfl | rfl <;> cases he
        intro ops' A' K' T hops hA' hK hT
        refine fl_mv 22 (by rfl) (by decide) (wanted_none (by rfl)) (by rw [hK.out]; rfl) (by rfl) _ (Or.inl (by rfl)) (.pointer (some ⟨s, 0, none⟩)) (by rfl) ?_
        refine fl_op2 23 (by rfl) (by decide) (wanted_none (by rfl)) (by rw [hK.out]; rfl) (by rfl) (.tmp 22) (.const (.pointer none)) (.pointer (some ⟨s, 0, none⟩)) (.pointer none) (by rfl) (by rfl) (.bool false) (fun ρ h1 h2 kk w1 (hg : Just (FromB B) _ w1) hb hf => by go_simp) ?_
        refine fl_mv 24 (by rfl) (by decide) (wanted_none (by rfl)) (by rw [hK.out]; rfl) (by rfl) _ (Or.inl (by rfl)) (.bool false) (by rfl) ?_
        refine fl_mv 25 (by rfl) (by decide) (wanted_if hops 2 false (by rfl) 24 (by rfl) false (by rfl)) (by rw [hK.out]; rfl) (by rfl) _ (Or.inl (by rfl)) (.pointer (some ⟨s, 0, none⟩)) (by rfl) ?_
        refine fl_mv 26 (by rfl) (by decide) (wanted_if hops 2 false (by rfl) 24 (by rfl) false (by rfl)) (by rw [hK.out]; rfl) (by rfl) _ (Or.inl (by rfl)) (.slice (some ad) N c0) (by rfl) ?_
        refine fl_mv 27 (by rfl) (by decide) (wanted_if hops 2 false (by rfl) 24 (by rfl) false (by rfl)) (by rw [hK.out]; rfl) (by rfl) _ (Or.inl (by rfl)) (.int .i64 (k : Int)) (by rfl) ?_
        refine fl_op2 28 (by rfl) (by decide) (wanted_if hops 2 false (by rfl) 24 (by rfl) false (by rfl)) (by rw [hK.out]; rfl) (by rfl) (.tmp 26) (.tmp 27) (.slice (some ad) N c0) (.int .i64 (k : Int)) (by rfl) (by rfl) (.pointer (some (ad.add k))) (fun ρ h1 h2 kk w1 (hg : Just (FromB B) _ w1) hb hf => by go_simp; try (intro hlt; omega)) ?_
        refine fl_op1 29 (by rfl) (by decide) (wanted_if hops 2 false (by rfl) 24 (by rfl) false (by rfl)) (by rw [hK.out]; rfl) (by rfl) (.tmp 28) (.pointer (some (ad.add k))) (by rfl) (.slice A9 n9 c9) (fun ρ h1 kk w1 (hg : Just (FromB B) _ w1) hb hf => by have c := hc9 w1 hg; go_simp) ?_
        refine fl_call 30 (by rfl) (by decide) (wanted_if hops 2 false (by rfl) 24 (by rfl) false (by rfl)) (.int .i64 E) (by rw [hK.out]; rfl) 11 _ _ (by rfl) [.pointer (some ⟨s, 0, none⟩), .slice A9 n9 c9] (by rfl) k11 (fun kk w1 (hg : Just (FromB B) _ w1) hb hf => calls_behind (by rfl) (by obtain rfl := before_some 0 (by rfl) hb; have hI := hb.1; exact (Both_may1 (show Both B s r Q Q w1 from hI) (hr9 w1 hg) hok9 hsm9 hq HE.out))) ?_
        refine fl_mv 31 (by rfl) (by decide) (wanted_if hops 2 false (by rfl) 24 (by rfl) false (by rfl)) (by rw [hK.out]; rfl) (by rfl) _ (Or.inl (by rfl)) (.pointer (some ⟨r, 0, none⟩)) (by rfl) ?_
        refine fl_mv 32 (by rfl) (by decide) (wanted_if hops 2 false (by rfl) 24 (by rfl) false (by rfl)) (by rw [hK.out]; rfl) (by rfl) _ (Or.inl (by rfl)) (.slice (some ad) N c0) (by rfl) ?_
        refine fl_mv 33 (by rfl) (by decide) (wanted_if hops 2 false (by rfl) 24 (by rfl) false (by rfl)) (by rw [hK.out]; rfl) (by rfl) _ (Or.inl (by rfl)) (.int .i64 (k : Int)) (by rfl) ?_
        refine fl_op2 34 (by rfl) (by decide) (wanted_if hops 2 false (by rfl) 24 (by rfl) false (by rfl)) (by rw [hK.out]; rfl) (by rfl) (.tmp 32) (.tmp 33) (.slice (some ad) N c0) (.int .i64 (k : Int)) (by rfl) (by rfl) (.pointer (some (ad.add k))) (fun ρ h1 h2 kk w1 (hg : Just (FromB B) _ w1) hb hf => by go_simp; try (intro hlt; omega)) ?_
        refine fl_op1 35 (by rfl) (by decide) (wanted_if hops 2 false (by rfl) 24 (by rfl) false (by rfl)) (by rw [hK.out]; rfl) (by rfl) (.tmp 34) (.pointer (some (ad.add k))) (by rfl) (.slice A9 n9 c9) (fun ρ h1 kk w1 (hg : Just (FromB B) _ w1) hb hf => by have c := hc9 w1 hg; go_simp) ?_
        refine fl_call 36 (by rfl) (by decide) (wanted_if hops 2 false (by rfl) 24 (by rfl) false (by rfl)) (.int .i64 E) (by rw [hK.out]; rfl) 24 _ _ (by rfl) [.pointer (some ⟨r, 0, none⟩), .slice A9 n9 c9] (by rfl) k24 (fun kk w1 (hg : Just (FromB B) _ w1) hb hf => calls_behind (by rfl) (by obtain rfl := before_some 0 (by rfl) hb; have hI := hb.1; exact (Both_may2 (show Both B s r Q Q w1 from hI) (hr9 w1 hg) (hD9 w1 hg) hok9 hsm9 hq HE.out))) ?_
        refine fl_op2 37 (by rfl) (by decide) (wanted_if hops 2 false (by rfl) 24 (by rfl) false (by rfl)) (by rw [hK.out]; rfl) (by rfl) (.tmp 30) (.tmp 36) (.int .i64 E) (.int .i64 E) (by rfl) (by rfl) (.bool false) (fun ρ h1 h2 kk w1 (hg : Just (FromB B) _ w1) hb hf => by go_simp) ?_
        refine fl_pick 38 (by rfl) (by decide) (wanted_none (by rfl)) (by rw [hK.out]; rfl) (by rfl) _ _ _ (by rfl) false (by rfl) (.bool false) (by rfl) ?_
        refine fl_mv 39 (by rfl) (by decide) (wanted_none (by rfl)) (by rw [hK.out]; rfl) (by rfl) _ (Or.inl (by rfl)) (.bool false) (by rfl) ?_
        refine fl_mv 40 (by rfl) (by decide) (wanted_if hops 17 false (by rfl) 39 (by rfl) false (by rfl)) (by rw [hK.out]; rfl) (by rfl) _ (Or.inl (by rfl)) (.pointer (some ⟨s, 0, none⟩)) (by rfl) ?_
        refine fl_mv 41 (by rfl) (by decide) (wanted_if hops 17 false (by rfl) 39 (by rfl) false (by rfl)) (by rw [hK.out]; rfl) (by rfl) _ (Or.inl (by rfl)) (.pointer (some ⟨r, 0, none⟩)) (by rfl) ?_
        refine fl_call 42 (by rfl) (by decide) (wanted_if hops 17 false (by rfl) 39 (by rfl) false (by rfl)) (.bool true) (by rw [hK.out]; rfl) 25 _ _ (by rfl) [.pointer (some ⟨s, 0, none⟩), .pointer (some ⟨r, 0, none⟩)] (by rfl) k25 (fun kk w1 (hg : Just (FromB B) _ w1) hb hf => calls_behind (by rfl) (by obtain rfl := before_some 0 (by rfl) hb; have hI := hb.1; exact (Both_same (show Both B s r Q Q w1 from hI) hq))) ?_
        refine fl_op1 43 (by rfl) (by decide) (wanted_if hops 17 false (by rfl) 39 (by rfl) false (by rfl)) (by rw [hK.out]; rfl) (by rfl) (.tmp 42) (.bool true) (by rfl) (.bool false) (fun ρ h1 kk w1 (hg : Just (FromB B) _ w1) hb hf => by go_simp) ?_
        refine fl_pick 44 (by rfl) (by decide) (wanted_none (by rfl)) (by rw [hK.out]; rfl) (by rfl) _ _ _ (by rfl) false (by rfl) (.bool false) (by rfl) ?_
        refine fl_mv 45 (by rfl) (by decide) (wanted_none (by rfl)) (by rw [hK.out]; rfl) (by rfl) _ (Or.inl (by rfl)) (.bool false) (by rfl) ?_
        refine fl_mv 46 (by rfl) (by decide) (wanted_if hops 23 false (by rfl) 45 (by rfl) false (by rfl)) (by rw [hK.out]; rfl) (by rfl) _ (Or.inl (by rfl)) (.pointer (some ⟨s, 0, none⟩)) (by rfl) ?_
        refine fl_mv 47 (by rfl) (by decide) (wanted_if hops 23 false (by rfl) 45 (by rfl) false (by rfl)) (by rw [hK.out]; rfl) (by rfl) _ (Or.inl (by rfl)) (.slice (some ad) N c0) (by rfl) ?_
        refine fl_mv 48 (by rfl) (by decide) (wanted_if hops 23 false (by rfl) 45 (by rfl) false (by rfl)) (by rw [hK.out]; rfl) (by rfl) _ (Or.inl (by rfl)) (.int .i64 (k : Int)) (by rfl) ?_
        refine fl_op2 49 (by rfl) (by decide) (wanted_if hops 23 false (by rfl) 45 (by rfl) false (by rfl)) (by rw [hK.out]; rfl) (by rfl) (.tmp 47) (.tmp 48) (.slice (some ad) N c0) (.int .i64 (k : Int)) (by rfl) (by rfl) (.pointer (some (ad.add k))) (fun ρ h1 h2 kk w1 (hg : Just (FromB B) _ w1) hb hf => by go_simp; try (intro hlt; omega)) ?_
        refine fl_op1 50 (by rfl) (by decide) (wanted_if hops 23 false (by rfl) 45 (by rfl) false (by rfl)) (by rw [hK.out]; rfl) (by rfl) (.tmp 49) (.pointer (some (ad.add k))) (by rfl) (.slice A9 n9 c9) (fun ρ h1 kk w1 (hg : Just (FromB B) _ w1) hb hf => by have c := hc9 w1 hg; go_simp) ?_
        refine fl_call 51 (by rfl) (by decide) (wanted_if hops 23 false (by rfl) 45 (by rfl) false (by rfl)) (.int .i64 E) (by rw [hK.out]; rfl) 10 _ _ (by rfl) [.pointer (some ⟨s, 0, none⟩), .slice A9 n9 c9] (by rfl) k10 (fun kk w1 (hg : Just (FromB B) _ w1) hb hf => calls_turn 0 (by rfl) (by obtain rfl := before_some 0 (by rfl) hb; have hI := hb.1; exact (Both_add1 (show Both B s r Q Q w1 from hI) (hr9 w1 hg) hDB hok9 hsm9 hq HE.out HQ2.out))) ?_
        refine fl_mv 52 (by rfl) (by decide) (wanted_if hops 23 false (by rfl) 45 (by rfl) false (by rfl)) (by rw [hK.out]; rfl) (by rfl) _ (Or.inl (by rfl)) (.pointer (some ⟨r, 0, none⟩)) (by rfl) ?_
        refine fl_mv 53 (by rfl) (by decide) (wanted_if hops 23 false (by rfl) 45 (by rfl) false (by rfl)) (by rw [hK.out]; rfl) (by rfl) _ (Or.inl (by rfl)) (.slice (some ad) N c0) (by rfl) ?_
        refine fl_mv 54 (by rfl) (by decide) (wanted_if hops 23 false (by rfl) 45 (by rfl) false (by rfl)) (by rw [hK.out]; rfl) (by rfl) _ (Or.inl (by rfl)) (.int .i64 (k : Int)) (by rfl) ?_
        refine fl_op2 55 (by rfl) (by decide) (wanted_if hops 23 false (by rfl) 45 (by rfl) false (by rfl)) (by rw [hK.out]; rfl) (by rfl) (.tmp 53) (.tmp 54) (.slice (some ad) N c0) (.int .i64 (k : Int)) (by rfl) (by rfl) (.pointer (some (ad.add k))) (fun ρ h1 h2 kk w1 (hg : Just (FromB B) _ w1) hb hf => by go_simp; try (intro hlt; omega)) ?_
        refine fl_op1 56 (by rfl) (by decide) (wanted_if hops 23 false (by rfl) 45 (by rfl) false (by rfl)) (by rw [hK.out]; rfl) (by rfl) (.tmp 55) (.pointer (some (ad.add k))) (by rfl) (.slice A9 n9 c9) (fun ρ h1 kk w1 (hg : Just (FromB B) _ w1) hb hf => by have c := hc9 w1 hg; go_simp) ?_
        refine fl_call 57 (by rfl) (by decide) (wanted_if hops 23 false (by rfl) 45 (by rfl) false (by rfl)) (.int .i64 E) (by rw [hK.out]; rfl) 26 _ _ (by rfl) [.pointer (some ⟨r, 0, none⟩), .slice A9 n9 c9] (by rfl) k26 (fun kk w1 (hg : Just (FromB B) _ w1) hb hf => calls_turn 1 (by rfl) (by obtain rfl := before_some 1 (by rfl) hb; have hI := hb.1; exact (Both_add2 (show Both B s r Q2 Q w1 from hI) (hr9 w1 hg) hDB (hD9 w1 hg) hok9 hsm9 hq HE.out HQ2.out))) ?_
        refine fl_op2 58 (by rfl) (by decide) (wanted_if hops 23 false (by rfl) 45 (by rfl) false (by rfl)) (by rw [hK.out]; rfl) (by rfl) (.tmp 51) (.tmp 57) (.int .i64 E) (.int .i64 E) (by rfl) (by rfl) (.bool false) (fun ρ h1 h2 kk w1 (hg : Just (FromB B) _ w1) hb hf => by go_simp) ?_
        refine fl_pick 59 (by rfl) (by decide) (wanted_none (by rfl)) (by rw [hK.out]; rfl) (by rfl) _ _ _ (by rfl) false (by rfl) (.bool false) (by rfl) ?_
        refine fl_mv 60 (by rfl) (by decide) (wanted_none (by rfl)) (by rw [hK.out]; rfl) (by rfl) _ (Or.inl (by rfl)) (.bool false) (by rfl) ?_
        refine fl_mv 61 (by rfl) (by decide) (wanted_if hops 38 false (by rfl) 60 (by rfl) false (by rfl)) (by rw [hK.out]; rfl) (by rfl) _ (Or.inl (by rfl)) (.pointer (some ⟨s, 0, none⟩)) (by rfl) ?_
        refine fl_mv 62 (by rfl) (by decide) (wanted_if hops 38 false (by rfl) 60 (by rfl) false (by rfl)) (by rw [hK.out]; rfl) (by rfl) _ (Or.inl (by rfl)) (.pointer (some ⟨r, 0, none⟩)) (by rfl) ?_
        refine fl_call 63 (by rfl) (by decide) (wanted_if hops 38 false (by rfl) 60 (by rfl) false (by rfl)) (.bool true) (by rw [hK.out]; rfl) 25 _ _ (by rfl) [.pointer (some ⟨s, 0, none⟩), .pointer (some ⟨r, 0, none⟩)] (by rfl) k25 (fun kk w1 (hg : Just (FromB B) _ w1) hb hf => calls_behind (by rfl) (by obtain rfl := before_some 2 (by rfl) hb; have hI := hb.1; exact (Both_same (show Both B s r Q2 Q2 w1 from hI) hq2))) ?_
        refine fl_op1 64 (by rfl) (by decide) (wanted_if hops 38 false (by rfl) 60 (by rfl) false (by rfl)) (by rw [hK.out]; rfl) (by rfl) (.tmp 63) (.bool true) (by rfl) (.bool false) (fun ρ h1 kk w1 (hg : Just (FromB B) _ w1) hb hf => by go_simp) ?_
        refine fl_pick 65 (by rfl) (by decide) (wanted_none (by rfl)) (by rw [hK.out]; rfl) (by rfl) _ _ _ (by rfl) false (by rfl) (.bool false) (by rfl) ?_
        refine fl_end (fun _ _ w1 (hg : Just (FromB B) _ w1) hend hfacts => hT _ _ ?_)
        clear hops hA' hK hT
        simp only [putsL, Act.put, List.setIfInBounds_toArray, List.set_cons_zero, List.set_cons_succ]
        refine reg_end ?_
        have hB2 : Both B s r Q2 Q2 w1 := hend
        have hj2 := hj.trans hg
        have hr1 := hr9 w1 hg
        have hcx := hc9 w1 hg
        clear hend hfacts hBo hB1 HE hfin
        go_wp2_with fail
        go_loopw [71] (fun i wz => ∃ j : Nat, j ≤ n9 ∧ i = .int .i64 (j : Int) ∧ Grow w1 wz) (fun i _ => n9 - (intOf i).toNat)
        case atStart => exact ⟨0, by omega, rfl, Grow.refl _⟩
        case round =>
          obtain ⟨j, hjn, rfl, hgz⟩ := hrel
          by_cases hj9 : j < n9
          · have hjt : decide (j < n9) = true := decide_eq_true hj9
            have hjt2 : decide ((j : Int) < (n9 : Int)) = true := decide_eq_true (by omega)
            obtain ⟨a9, hq9, rfl, e0, e1⟩ := del_at (hr1.grow hgz) hj9
            have hdk := (hok9 _ (List.getElem_mem hq9)).1
            generalize l9[j] = dk at e0 e1 hdk
            have f0 := e0 _ (Grow.refl _)
            have f1 := e1 _ (Grow.refl _)
            have hga : Grow wr (wr.alloc (.cells #[.string dk.1, .int .u64 (dk.2 : Int)] 34)) := (Below.refl _ wr).alloc (Nat.le_refl _) _
            have hBd0 := Blk.made wr 34 #[.string dk.1, .int .u64 (dk.2 : Int)]
            have hB3 := hB2.grow (below_trans hgz hga hgz.size)
            have hgwa := below_trans hgz hga hgz.size
            obtain ⟨G, HG⟩ : ∃ G : Nat, Hid (G = gt Q2 dk.1) := ⟨_, rfl⟩
            obtain ⟨x, HX⟩ : ∃ x : Nat, Hid (x = wr.heap.size) := ⟨_, rfl⟩
            have hBd : Blk (wr.alloc (.cells #[.string dk.1, .int .u64 (dk.2 : Int)] 34)) x 34 #[.string dk.1, .int .u64 (dk.2 : Int)] := by rw [HX.out]; exact hBd0
            clear hBd0 hga e0 e1
            go_wp2_with fail
            rw [← HX.out]
            generalize wr.alloc (.cells #[.string dk.1, .int .u64 (dk.2 : Int)] 34) = wa at hB3 hgwa hBd ⊢
            refine wp_region_flow 9 113 [(3, .inl (.int .u64 (G : Int))), (7, .inl (.int .u64 (G : Int)))] rfl rfl (by kernel_rfl) (by kernel_rfl) (by kernel_rfl) ?_ ?_
            · intro x hx φ he
              simp only [List.mem_cons, List.not_mem_nil, or_false] at hx
              rcases hx with rfl | rfl <;> cases he
            intro ops' A' K' T hops hA' hK hT
            refine fl_mv 75 (by rfl) (by decide) (wanted_none (by rfl)) (by rw [hK.out]; rfl) (by rfl) _ (Or.inl (by rfl)) (.pointer (some ⟨s, 0, none⟩)) (by rfl) ?_
            refine fl_op1 76 (by rfl) (by decide) (wanted_none (by rfl)) (by rw [hK.out]; rfl) (by rfl) (.tmp 7) (.pointer (some ⟨x, 0, none⟩)) (by rfl) (.pointer (some ⟨x, 0, none⟩)) (fun ρ h1 kk w1 (hg : Grow _ w1) hb hf => by go_simp) ?_
            refine fl_op1 77 (by rfl) (by decide) (wanted_none (by rfl)) (by rw [hK.out]; rfl) (by rfl) (.tmp 76) (.pointer (some ⟨x, 0, none⟩)) (by rfl) (.string dk.1) (fun ρ h1 kk w1 (hg : Grow _ w1) hb hf => by have c := (hBd.grow hg).cell 0; go_simp) ?_
            refine fl_call 78 (by rfl) (by decide) (wanted_none (by rfl)) (.int .u64 (G : Int)) (by rw [hK.out]; rfl) 15 _ _ (by rfl) [.pointer (some ⟨s, 0, none⟩), .string dk.1] (by rfl) k15 (fun kk w1 (hg : Grow _ w1) hb hf => calls_behind (by rfl) (by exact (Both_get1 (hB3.grow hg) dk.1 hdk HG.out))) ?_
            refine fl_mv 79 (by rfl) (by decide) (wanted_none (by rfl)) (by rw [hK.out]; rfl) (by rfl) _ (Or.inl (by rfl)) (.pointer (some ⟨r, 0, none⟩)) (by rfl) ?_
            refine fl_op1 80 (by rfl) (by decide) (wanted_none (by rfl)) (by rw [hK.out]; rfl) (by rfl) (.tmp 7) (.pointer (some ⟨x, 0, none⟩)) (by rfl) (.pointer (some ⟨x, 0, none⟩)) (fun ρ h1 kk w1 (hg : Grow _ w1) hb hf => by go_simp) ?_
            refine fl_op1 81 (by rfl) (by decide) (wanted_none (by rfl)) (by rw [hK.out]; rfl) (by rfl) (.tmp 80) (.pointer (some ⟨x, 0, none⟩)) (by rfl) (.string dk.1) (fun ρ h1 kk w1 (hg : Grow _ w1) hb hf => by have c := (hBd.grow hg).cell 0; go_simp) ?_
            refine fl_call 82 (by rfl) (by decide) (wanted_none (by rfl)) (.int .u64 (G : Int)) (by rw [hK.out]; rfl) 27 _ _ (by rfl) [.pointer (some ⟨r, 0, none⟩), .string dk.1] (by rfl) k27 (fun kk w1 (hg : Grow _ w1) hb hf => calls_behind (by rfl) (by exact (Both_get2 (hB3.grow hg) dk.1 HG.out))) ?_
            refine fl_op2 83 (by rfl) (by decide) (wanted_none (by rfl)) (by rw [hK.out]; rfl) (by rfl) (.tmp 78) (.tmp 82) (.int .u64 (G : Int)) (.int .u64 (G : Int)) (by rfl) (by rfl) (.bool false) (fun ρ h1 h2 kk w1 (hg : Grow _ w1) hb hf => by go_simp) ?_
            refine fl_end (fun _ _ w1 (hg : Grow _ w1) _ hfacts => hT _ _ ?_)
            clear hops hA' hK hT
            simp only [putsL, Act.put, List.setIfInBounds_toArray, List.set_cons_zero, List.set_cons_succ, List.drop_succ_cons, List.drop_zero]
            clear hfacts
            have hgf := below_trans hgwa hg hgwa.size
            clear hB3 hgwa hBd f0 f1
            go_wp2_with fail
            go_roundw
            case rel => exact ⟨j + 1, by omega, by go_num, hgf⟩
            case measure => simp [intOf]; omega
          · obtain rfl : j = n9 := by omega
            have hjt : decide (j < j) = false := decide_eq_false (by omega)
            have hjt2 : decide ((j : Int) < (j : Int)) = false := decide_eq_false (by omega)
            have hB4 := hB2.grow hgz
            have hj4 := hj2.trans (Just.of_grow hgz)
            clear hB2 hr1 hcx hgz hr9 hc9 hj2
            by_cases h9 : k % 9 = 0
            · have h9' : ((k : Int) % 9 == 0) = true := beq_iff_eq.2 (by omega)
              clear h9
              go_wp2_with fail
              refine (Both_copy hB4).mono ?_
              rintro e w5 ⟨cp, rfl, hC5, hg5⟩
              have hB5 := hB4.grow hg5
              have hs5 := hg5.size
              go_wp2_with fail
              refine (Both_same_copy hB5 hC5 hq2).mono ?_
              rintro e w6 ⟨rfl, hg6⟩
              have hC6 := hC5.grow hg6
              have hB6 := hB5.grow hg6
              have hs6 := hg6.size
              have hadd := Add_laid hC6 (fun b hb => by omega) #[.string { data := #[99, 111, 112, 121] }, .int .u64 1] 1 [({ data := #[99, 111, 112, 121] }, 1)] rfl rfl (by intro d hd; rw [List.mem_singleton.1 hd]; exact small_of (by decide +kernel) (by omega)) (by omega) (by omega)
              generalize mayE Q2 [({ data := #[99, 111, 112, 121] }, 1)] = E9 at hadd
              generalize addM Q2 [({ data := #[99, 111, 112, 121] }, 1)] = Q9 at hadd
              clear hC5 hB5
              go_wp2_with fail
              refine hadd.mono ?_
              rintro e w7 ⟨rfl, hC7, hj7⟩
              clear hadd hB6
              have hs7 := hj7.size
              have hB7 : Both B s r Q2 Q2 w7 := hB4.keep (fun x _ hx => (hj7.block x (by omega) (fun h => by have := hx; omega)).trans ((below_trans hg5 hg6 hs5).block x hx)) (by omega)
              have hj8 : Just (FromB B) w w7 := (hj4.trans (Just.of_grow (below_trans hg5 hg6 hs5))).trans (hj7.imp fun x hx => by show B ≤ x; have := HB.out; have := hj4.size; omega)
              clear hB4 hC6 hC7 hj7 hj4
              go_wp2_with fail
              refine (Both_same hB7 hq2).mono ?_
              rintro e w8 ⟨rfl, hg8⟩
              have hB8 := hB7.grow hg8
              have hj9' := hj8.trans (Just.of_grow hg8)
              clear hB7 hj8
              go_wp2_with fail
              go_roundw
              case rel => exact ⟨k + 1, Q2, by omega, by go_num, hB8, hq2, hj9'⟩
              case measure => simp [intOf]; omega
            · have h9' : ((k : Int) % 9 == 0) = false := beq_eq_false_iff_ne.2 (by omega)
              clear h9
              go_wp2_with fail
              go_roundw
              case rel => exact ⟨k + 1, Q2, by omega, by go_num, hB4, hq2, hj4⟩
              case measure => simp [intOf]; omega
      · have h6t : decide ((k : Int) < 60) = false := decide_eq_false (by omega)
        go_wp2_with fail
        refine (Both_same hBo hq).mono ?_
        rintro e w8 ⟨rfl, hg8⟩
        go_wp2_with fail
        go_ret
        exact ⟨rfl, hfin _ hg8⟩
    · have hkt : decide (k < N) = false := decide_eq_false hk
      have hkt2 : decide ((k : Int) < (N : Int)) = false := decide_eq_false (by omega)
      go_wp2_with fail
      refine (Both_same hBo hq).mono ?_
      rintro e w8 ⟨rfl, hg8⟩
      go_wp2_with fail
      go_ret
      exact ⟨rfl, hfin _ hg8⟩
end Go.Proofs.Ytnijeemldhmkjaa
