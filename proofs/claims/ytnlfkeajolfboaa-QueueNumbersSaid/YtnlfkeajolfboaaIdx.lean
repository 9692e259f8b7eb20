/- slices.IndexFunc of batches, by their seq. -/
import Derived.Test.YtnlfkeajolfboaaAdd2
namespace Go.Proofs.Ytnlfkeajolfboaa
open Go.RowKit Go.Hop
theorem done1_any (w : World) (sq s : Int) (sl : Value) (y : Nat) (hs1 : sl.oneCell' = true) (hy : Blk w y 2 #[.int .i64 s]) :
    Calls Try.prog 19 #[.agg #[.int .i64 sq, sl], .pointer (some ⟨y, 0, none⟩)] w fun e w' => e = .returned (.bool (sq == s)) ∧ Grow w w' := by
  have hga : Grow w (w.alloc (.cells #[.int .i64 sq, sl] 32)) := (Below.refl w.heap.size w).alloc (Nat.le_refl _) _
  have c0 := (hy.grow hga).cell 0
  go_enter Try.func19, Try.ntmps19
  go_wp2_with fail
  go_ret
  exact ⟨rfl, hga⟩
/-- the first place of a seq, or -1 -/
def Idx (q : List Bat) (s r : Int) : Prop := (r = -1 ∧ ∀ b ∈ q, b.seq ≠ s) ∨ ∃ (i : Nat) (h : i < q.length), r = (i : Int) ∧ q[i].seq = s ∧ ∀ (j : Nat) (hj : j < q.length), j < i → q[j].seq ≠ s
theorem indexFunc_any (w : World) (V D : Nat → Prop) (A : Option Addr) (n c : Nat) (q : List Bat) (h : Bats w V D A n q) (hn : n ≤ 1024) (s : Int) (y : Nat) (hy : Blk w y 2 #[.int .i64 s]) :
    Calls Try.prog 18 #[.slice A n c, .func (.func 19) #[] #[.pointer (some ⟨y, 0, none⟩)]] w fun e w' => ∃ r, e = .returned (.int .i64 r) ∧ Idx q s r ∧ Grow w w' := by
  have hql := h.len
  go_enter Try.func18, Try.ntmps18
  go_wp2_with fail
  go_loopw [8] (fun i wr => ∃ k : Nat, k ≤ n ∧ i = .int .i64 k ∧ (∀ (j : Nat) (hj : j < q.length), j < k → q[j].seq ≠ s) ∧ Grow w wr) (fun i _ => n - (intOf i).toNat)
  case atStart => exact ⟨0, by omega, rfl, fun j hj h0 => absurd h0 (by omega), Grow.refl _⟩
  case round =>
    obtain ⟨k, hkn, rfl, hne, hg⟩ := hrel
    by_cases hk : k < n
    · obtain ⟨ad, hkq, rfl, hV, hB, e0, e1⟩ := (h.row.grow hg).rec_ (by omega) bat_len hk
      have e0 := e0 _ rfl
      have e1 := e1 0 _ rfl
      have hkne : q[k].seq ≠ s → ∀ (j : Nat) (hj : j < q.length), j < k + 1 → q[j].seq ≠ s := fun h0 j hj hjk => by
        rcases Nat.lt_or_ge j k with h1 | h1
        · exact hne j hj h1
        · have : j = k := by omega
          subst this; exact h0
      have hke : q[k].seq = s → Idx q s (k : Int) := fun h0 => .inr ⟨k, hkq, rfl, h0, hne⟩
      have HE := Lib.hid hke
      have HN := Lib.hid hkne
      clear hke hkne hne
      generalize q[k].seq = sq at e0 HE HN
      generalize q[k].c = cc at e1
      by_cases hs : sq = s
      · have hb : (sq == s) = true := by rw [hs]; exact beq_self_eq_true s
        have HI := HE.out hs
        clear hs HE HN
        go_wp2_with (go_at_call 19; refine (done1_any _ sq s _ y rfl (hy.grow hg)).mono ?_; rintro e w2 ⟨rfl, hg2⟩)
        go_ret
        exact ⟨_, rfl, HI, hg.trans hg2⟩
      · have hb : (sq == s) = false := beq_eq_false_iff_ne.2 hs
        have HI := Lib.hid (HN.out hs)
        clear hs HE HN
        go_wp2_with (go_at_call 19; refine (done1_any _ sq s _ y rfl (hy.grow hg)).mono ?_; rintro e w2 ⟨rfl, hg2⟩)
        go_roundw
        case rel => exact ⟨k + 1, by omega, by go_num, HI.out, hg.trans hg2⟩
        case measure => simp [intOf]; omega
    · obtain rfl : k = n := by omega
      go_wp2_with fail
      go_ret
      refine ⟨_, rfl, .inl ⟨rfl, fun b hb => ?_⟩, hg⟩
      obtain ⟨i, hi, rfl⟩ := List.mem_iff_getElem.1 hb
      exact hne i hi (by omega)
end Go.Proofs.Ytnlfkeajolfboaa
