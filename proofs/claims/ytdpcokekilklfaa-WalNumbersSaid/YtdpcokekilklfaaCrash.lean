/- What the disk's functions compute: a crash. -/
import Derived.Test.YtdpcokekilklfaaDisk2
namespace Go.Proofs.Ytdpcokekilklfaa
open Go.RowKit Go.Hop
theorem keepN_is {l : List UInt8} {k : Nat} (hk : k ≤ l.length) (keep : Int) : (keepN l k keep : Int) = max 0 (min keep ((l.length : Int) - (k : Int))) ∧ k + keepN l k keep ≤ l.length := by
  unfold keepN; omega
theorem Cut_at (w : World) (d : Nat) (l : List UInt8) (k m : Nat) (n : Int) (hn : n = (m : Int)) (hm : m ≤ l.length) :
    Turns Try.prog 22 #[.pointer (some ⟨d, 0, none⟩), .int .i64 n] (fun e => e = .returned (.bool true)) (DiskAt 44 d l k) (DiskAt 44 d (l.take m) m) w := hn ▸ Cut_yes w d l k m hm
set_option maxRecDepth 20000 in
theorem Crash_any (w : World) (d : Nat) (l : List UInt8) (k : Nat) (keep : Int) (hkeep : -9223372036854775808 ≤ keep ∧ keep ≤ 9223372036854775807) :
    Turns Try.prog 13 #[.pointer (some ⟨d, 0, none⟩), .int .i64 keep] (fun e => e = .returned (.int .i64 ((l.length : Int) - (k : Int) - (keepN l k keep : Int)))) (DiskAt 44 d l k) (DiskAt 44 d (l.take (k + keepN l k keep)) (k + keepN l k keep)) w := by
  intro V hD hV
  have hD' := hD
  obtain ⟨hd, hk, hl, v, hB, hO⟩ := hD
  have hW : ∀ w1, Grow w w1 → DiskAt 44 d l k w1 V := fun w1 hg => DiskAt.framed _ d l k w w1 V hD' fun b hb => hg.block b (hV b hb)
  obtain ⟨hm, hle⟩ := keepN_is hk keep
  generalize keepN l k keep = m at hm hle
  obtain ⟨W, hWd⟩ : ∃ W : Int, W = (l.length : Int) - (k : Int) := ⟨_, rfl⟩
  have hWa : ∀ w1, Grow w w1 → Calls Try.prog 26 #[.pointer (some ⟨d, 0, none⟩)] w1 fun e w' => e = .returned (.int .i64 W) ∧ Grow w1 w' := fun w1 hg => hWd ▸ Waits_any w1 d l k V (hW w1 hg)
  rw [← hWd] at hm ⊢
  have hWl : 0 ≤ W ∧ W ≤ 1048576 := by omega
  have hmW : (m : Int) ≤ W := by omega
  clear hWd
  by_cases h0 : keep ≤ 0
  · obtain rfl : m = 0 := by omega
    go_enter Try.func13, Try.ntmps13
    go_wp2_with (first
      | (go_at_call 26; refine (hWa _ (hg1.trans hg2)).mono ?_; fail)
      | (go_at_call 26; refine (hWa _ hg1).mono ?_; rintro e w2 ⟨rfl, hg2⟩; have c1 := (hB.grow (hg1.trans hg2)).cell 1)
      | (go_at_call 26; refine (hWa _ (Grow.refl w)).mono ?_; rintro e w1 ⟨rfl, hg1⟩))
    all_goals
        go_at_call 22
        refine (Cut_at w2 d l k (k + 0) _ (by push_cast; omega) (by omega) V (hW w2 (hg1.trans hg2)) (fun b hb => Nat.lt_of_lt_of_le (hV b hb) (hg1.trans hg2).size)).mono ?_
        rintro e w3 ⟨rfl, hD3, hj3⟩
        go_wp2_with fail
        go_ret
        refine ⟨ret_int (by omega), hD3.wide (fun b hb => ?_), (Just.of_grow (hg1.trans hg2)).trans hj3⟩
        rcases hb with hb | hb
        · exact .inl hb
        · exact .inr ⟨Nat.le_trans (hg1.trans hg2).size hb.1, hb.2⟩
  · by_cases h1 : keep < W
    · obtain rfl : keep = (m : Int) := by omega
      clear hm
      go_enter Try.func13, Try.ntmps13
      go_wp2_with (first
        | (go_at_call 26; refine (hWa _ (hg1.trans hg2)).mono ?_; fail)
        | (go_at_call 26; refine (hWa _ hg1).mono ?_; rintro e w2 ⟨rfl, hg2⟩; have c1 := (hB.grow (hg1.trans hg2)).cell 1)
        | (go_at_call 26; refine (hWa _ (Grow.refl w)).mono ?_; rintro e w1 ⟨rfl, hg1⟩))
      all_goals
        go_at_call 22
        refine (Cut_at w2 d l k (k + m) _ (by push_cast; omega) (by omega) V (hW w2 (hg1.trans hg2)) (fun b hb => Nat.lt_of_lt_of_le (hV b hb) (hg1.trans hg2).size)).mono ?_
        rintro e w3 ⟨rfl, hD3, hj3⟩
        go_wp2_with fail
        go_ret
        refine ⟨ret_int (by omega), hD3.wide (fun b hb => ?_), (Just.of_grow (hg1.trans hg2)).trans hj3⟩
        rcases hb with hb | hb
        · exact .inl hb
        · exact .inr ⟨Nat.le_trans (hg1.trans hg2).size hb.1, hb.2⟩
    · obtain rfl : W = (m : Int) := by omega
      clear hm
      go_enter Try.func13, Try.ntmps13
      go_wp2_with (first
        | (go_at_call 26; refine (hWa _ (hg1.trans hg2)).mono ?_; fail)
        | (go_at_call 26; refine (hWa _ hg1).mono ?_; rintro e w2 ⟨rfl, hg2⟩; have c1 := (hB.grow (hg1.trans hg2)).cell 1)
        | (go_at_call 26; refine (hWa _ (Grow.refl w)).mono ?_; rintro e w1 ⟨rfl, hg1⟩))
      all_goals
        go_at_call 22
        refine (Cut_at w2 d l k (k + m) _ (by push_cast; omega) (by omega) V (hW w2 (hg1.trans hg2)) (fun b hb => Nat.lt_of_lt_of_le (hV b hb) (hg1.trans hg2).size)).mono ?_
        rintro e w3 ⟨rfl, hD3, hj3⟩
        go_wp2_with fail
        go_ret
        refine ⟨ret_int (by omega), hD3.wide (fun b hb => ?_), (Just.of_grow (hg1.trans hg2)).trans hj3⟩
        rcases hb with hb | hb
        · exact .inl hb
        · exact .inr ⟨Nat.le_trans (hg1.trans hg2).size hb.1, hb.2⟩
end Go.Proofs.Ytdpcokekilklfaa
