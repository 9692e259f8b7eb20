/- What the disk's functions compute: those that read. -/
import Derived.Test.YtdpcokekilklfaaDisk
namespace Go.Proofs.Ytdpcokekilklfaa
open Go.RowKit Go.Hop
theorem Cut_any (w : World) (d : Nat) (l : List UInt8) (k : Nat) (n : Int) (hn : -9223372036854775808 ≤ n ∧ n ≤ 9223372036854775807) :
    Turns Try.prog 22 #[.pointer (some ⟨d, 0, none⟩), .int .i64 n] (fun e => e = .returned (.bool (cutB l n))) (DiskAt 44 d l k) (DiskAt 44 d (cutL l n) (cutK l k n)) w := by
  unfold cutL cutK
  cases hc : cutB l n with
  | false => exact Cut_no w d l k n hn hc
  | true =>
    obtain ⟨m, rfl, hm⟩ := cut_of hc
    exact Cut_yes w d l k m hm
theorem Append_any (w : World) (d : Nat) (l : List UInt8) (k : Nat) (A : Option Addr) (n c : Nat) (b : List UInt8) (hb : Bytes w w.heap.size A n b) :
    Turns Try.prog 25 #[.pointer (some ⟨d, 0, none⟩), .slice A n c] (fun e => e = .returned (.int .i64 (appE l b))) (DiskAt 44 d l k) (DiskAt 44 d (appL l b) k) w := by
  unfold appE appL
  cases hc : fits l b with
  | false => exact Append_no w d l k A n c b hb hc
  | true => exact Append_yes w d l k A n c b hb hc
theorem Waits_any (w : World) (d : Nat) (l : List UInt8) (k : Nat) (V : Nat → Prop) (hD : DiskAt 44 d l k w V) :
    Calls Try.prog 26 #[.pointer (some ⟨d, 0, none⟩)] w fun e w' => e = .returned (.int .i64 ((l.length : Int) - (k : Int))) ∧ Grow w w' := by
  obtain ⟨hd, hk, hl, v, hB, hO⟩ := hD
  obtain ⟨A1, c1, rfl, hR, hnc, hm⟩ := hO.reads
  have hsub : IntKind.i64.wrap ((l.length : Int) - (k : Int)) = (l.length : Int) - (k : Int) := by rw [IntKind.wrap_i64]; omega
  go_enter Try.func26, Try.ntmps26
  go_wp2_with fail
  refine wp_region_flow 11 13 [] rfl rfl (by kernel_rfl) (by kernel_rfl) (by kernel_rfl) ?_ ?_
  · intro x hx φ he
    cases hx
  intro ops' A' K' T hops hA' hK hT
  refine fl_mv 3 (by rfl) (by decide) (wanted_none (by rfl)) (by rw [hK.out]; rfl) (by rfl) _ (Or.inl (by rfl)) (.pointer (some ⟨d, 0, none⟩)) (by rfl) ?_
  refine fl_op1 4 (by rfl) (by decide) (wanted_none (by rfl)) (by rw [hK.out]; rfl) (by rfl) (.tmp 3) (.pointer (some ⟨d, 0, none⟩)) (by rfl) (.pointer (some ⟨d, 0, none⟩)) (fun ρ h1 kk w1 (hg : Grow _ w1) hb hf => by go_simp) ?_
  refine fl_op1 5 (by rfl) (by decide) (wanted_none (by rfl)) (by rw [hK.out]; rfl) (by rfl) (.tmp 4) (.pointer (some ⟨d, 0, none⟩)) (by rfl) (.pointer (some ⟨d, 0, none⟩)) (fun ρ h1 kk w1 (hg : Grow _ w1) hb hf => by go_simp) ?_
  refine fl_op1 6 (by rfl) (by decide) (wanted_none (by rfl)) (by rw [hK.out]; rfl) (by rfl) (.tmp 5) (.pointer (some ⟨d, 0, none⟩)) (by rfl) (.slice A1 l.length c1) (fun ρ h1 kk w1 (hg : Grow _ w1) hb hf => by have c := (hB.grow hg).cell 0; go_simp) ?_
  refine fl_op1 7 (by rfl) (by decide) (wanted_none (by rfl)) (by rw [hK.out]; rfl) (by rfl) (.tmp 6) (.slice A1 l.length c1) (by rfl) (.int .i64 (l.length : Int)) (fun ρ h1 kk w1 (hg : Grow _ w1) hb hf => by go_simp) ?_
  refine fl_mv 8 (by rfl) (by decide) (wanted_none (by rfl)) (by rw [hK.out]; rfl) (by rfl) _ (Or.inl (by rfl)) (.pointer (some ⟨d, 0, none⟩)) (by rfl) ?_
  refine fl_op1 9 (by rfl) (by decide) (wanted_none (by rfl)) (by rw [hK.out]; rfl) (by rfl) (.tmp 8) (.pointer (some ⟨d, 0, none⟩)) (by rfl) (.pointer (some ⟨d, 0, none⟩)) (fun ρ h1 kk w1 (hg : Grow _ w1) hb hf => by go_simp) ?_
  refine fl_op1 10 (by rfl) (by decide) (wanted_none (by rfl)) (by rw [hK.out]; rfl) (by rfl) (.tmp 9) (.pointer (some ⟨d, 0, none⟩)) (by rfl) (.pointer (some ⟨d, 1, none⟩)) (fun ρ h1 kk w1 (hg : Grow _ w1) hb hf => by go_simp) ?_
  refine fl_op1 11 (by rfl) (by decide) (wanted_none (by rfl)) (by rw [hK.out]; rfl) (by rfl) (.tmp 10) (.pointer (some ⟨d, 1, none⟩)) (by rfl) (.int .i64 (k : Int)) (fun ρ h1 kk w1 (hg : Grow _ w1) hb hf => by have c := (hB.grow hg).cell 1; go_simp) ?_
  refine fl_op2 12 (by rfl) (by decide) (wanted_none (by rfl)) (by rw [hK.out]; rfl) (by rfl) (.tmp 7) (.tmp 11) (.int .i64 (l.length : Int)) (.int .i64 (k : Int)) (by rfl) (by rfl) (.int .i64 ((l.length : Int) - (k : Int))) (fun ρ h1 h2 kk w1 (hg : Grow _ w1) hb hf => by go_simp) ?_
  refine fl_mv 2 (by rfl) (by decide) (wanted_none (by rfl)) (by rw [hK.out]; rfl) (by rfl) _ (Or.inr (by rfl)) (.int .i64 ((l.length : Int) - (k : Int))) (by rfl) ?_
  refine fl_end (fun _ _ w1 (hg : Grow _ w1) _ hfacts => hT _ _ ?_)
  clear hops hA' hK hT
  simp only [putsL, Act.put, List.setIfInBounds_toArray, List.set_cons_zero, List.set_cons_succ, List.drop_succ_cons, List.drop_zero]

  go_wp2_with fail
  go_ret
  exact ⟨rfl, hg⟩
theorem All_any (w : World) (d : Nat) (l : List UInt8) (k : Nat) (V : Nat → Prop) (hD : DiskAt 44 d l k w V) :
    Calls Try.prog 21 #[.pointer (some ⟨d, 0, none⟩)] w fun e w' => ∃ v, e = .returned v ∧ Own w' (New w w') 5 1 v l.length (u8s l) ∧ Grow w w' := by
  obtain ⟨hd, hk, hl, v, hB, hO⟩ := hD
  obtain ⟨A1, c1, rfl, hR, hnc, hm⟩ := hO.reads
  have c0 := hB.cell 0
  go_enter Try.func21, Try.ntmps21
  go_wp2_with (go_at_call 38; refine (clone_any _ A1 l.length c1 l hR (by omega)).mono ?_; rintro e w1 ⟨v1, rfl, hO1, hg1⟩)
  go_ret
  exact ⟨v1, rfl, hO1, hg1⟩
theorem New_any (w : World) :
    Calls Try.prog 8 #[] w fun e w' => e = .returned (.pointer (some ⟨w.heap.size, 0, none⟩)) ∧ DiskAt 44 w.heap.size [] 0 w' (New w w') ∧ Grow w w' := by
  go_enter Try.func8, Try.ntmps8
  go_wp2_with fail
  go_ret
  exact ⟨rfl, ⟨⟨Nat.le_refl _, by simp⟩, Nat.le_refl _, by simp, _, Blk.made w _ _, Own.nil⟩, (Below.refl w.heap.size w).alloc (Nat.le_refl _) _⟩
theorem Of_no (w : World) (A : Option Addr) (n c : Nat) (hn : 1048576 < n) :
    Calls Try.prog 30 #[.slice A n c] w fun e w' => e = .returned (.pointer none) ∧ w = w' := by
  go_enter Try.func30, Try.ntmps30
  go_wp2_with fail
  go_ret
  exact ⟨rfl, rfl⟩
theorem Of_yes (w : World) (A : Option Addr) (n c : Nat) (l : List UInt8) (h : Bytes w w.heap.size A n l) (hn : n ≤ 1048576) :
    Calls Try.prog 30 #[.slice A n c] w fun e w' => ∃ d, e = .returned (.pointer (some ⟨d, 0, none⟩)) ∧ DiskAt 44 d l n w' (New w w') ∧ Grow w w' := by
  have hl := h.len
  go_enter Try.func30, Try.ntmps30
  go_wp2_with (go_at_call 38; refine (clone_any _ A n c l h (by omega)).mono ?_; rintro e w1 ⟨v1, rfl, hO1, hg1⟩; obtain ⟨A1, c1, rfl, hR, _, _⟩ := hO1.reads)
  go_ret
  have hs := hg1.size
  have hga : Grow w1 (w1.alloc (.cells #[.slice A1 n c1, .int .i64 (n : Int)] 44)) := (Below.refl w1.heap.size w1).alloc (Nat.le_refl _) _
  refine ⟨w1.heap.size, rfl, ⟨⟨hs, by simp⟩, by omega, by omega, _, Blk.made w1 _ _, ?_⟩, hg1.trans hga⟩
  rw [hl]
  exact (hO1.grow (fun b hb => hb.2) hga).mono fun b hb => ⟨⟨hb.1, by have := hb.2; simp; omega⟩, by have := hb.2; omega⟩
end Go.Proofs.Ytdpcokekilklfaa
