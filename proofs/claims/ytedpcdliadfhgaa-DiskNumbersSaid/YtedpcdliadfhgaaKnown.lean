/- Some runs that the chapter fixes. -/
import Derived.Test.YtedpcdliadfhgaaPlay
import Derived.Lib.SlBytesConst
import Derived.Deep.OwnRows
namespace Go.Proofs.Ytedpcdliadfhgaa
open Go.RowKit Go.Hop
theorem conv_const (w : World) (g : Nat) (C : Array Value) (n c : Nat) (hg : w.heap.size = g) : (convert 23 23 (.slice (some ⟨g, 0, none⟩) n c)).run Try.prog (w.alloc (.cells C 5)) = .ok (.slice (some ⟨g, 0, none⟩) n c) (w.alloc (.cells C 5 (C.size, C.size + 1))) := by
  subst hg
  exact Lib.run_convert_bytes_const (P := Try.prog) w 23 5 C n c Try.underlying23 Try.underlying5
theorem crash_at (w : World) (d : Nat) (l : List UInt8) (k : Nat) (keep : Int) (hkeep : -9223372036854775808 ≤ keep ∧ keep ≤ 9223372036854775807) (l' : List UInt8) (k' : Nat) (g : Int) (h : l.take (k + keepN l k keep) = l' ∧ k + keepN l k keep = k' ∧ (l.length : Int) - (k : Int) - (keepN l k keep : Int) = g) :
    Turns Try.prog 13 #[.pointer (some ⟨d, 0, none⟩), .int .i64 keep] (fun e => e = .returned (.int .i64 g)) (DiskAt 45 d l k) (DiskAt 45 d l' k') w := by
  obtain ⟨rfl, h2, rfl⟩ := h
  exact h2 ▸ Crash_any w d l k keep hkeep
set_option maxRecDepth 100000 in
set_option maxHeartbeats 4000000 in
theorem known_any (w : World) : Calls Try.prog 8 #[] w fun e w' => e = .returned (.bool true) ∧ Grow w w' := by
  have kc := conv_const
  have hmk : ∀ w : World, (Instr.makeSlice 23 (.int .i64 1048577) (.int .i64 1048577)).run Try.prog w = .ok (.slice (some ⟨w.heap.size, 0, none⟩) 1048577 1048577) (w.alloc (.cells (madeCells #[.int .u8 0] 1048577) 5)) :=
    fun w => run_make_row' 23 5 (.int .u8 0) 1 Try.underlying23 u8_info rfl .i64 .i64 1048577 (by decide) (by decide) w
  go_enter Try.func8, Try.ntmps8
  go_wp2_with (first
    | (go_at_call 10; refine (New_any _).mono ?_; rintro e w1 ⟨rfl, hD1, hg1⟩)
    | (go_at_call 18; refine (Of_no _ _ _ _ (by omega)).mono ?_; rintro e w2 ⟨rfl, rfl⟩))
  obtain ⟨d, HD⟩ : ∃ d : Nat, Hid (d = w.heap.size) := ⟨_, rfl⟩
  rw [← HD.out] at hD1 ⊢
  have hs1 := hg1.size
  have hs0 : Solo (fun b => w.heap.size ≤ b) (DiskAt 45 d [] 0) w1 := Solo.make (V := New w w1) hD1 (fun b hb => by omega) (fun b hb => hb)
  clear hD1
  go_at_call 11
  refine ((hs0.grow (DiskAt.framed _ _ _ _) (((Below.refl _ _).alloc (Nat.le_refl _) _).alloc (by simp) _)).call (Append_yes _ d [] 0 _ 3 3 [97, 98, 99] (Reads.more (reads_laid _ _ 5 (3, 4) rfl _ (by simp)) (by simp)) (by decide))).mono ?_
  rintro e w3 ⟨rfl, hj3, hs3⟩
  have hb3 : Below w.heap.size w w3 := Below.trans (below_trans hg1 (((Below.refl _ _).alloc (Nat.le_refl _) _).alloc (by simp) _) hg1.size) (hj3.below (fun _ h => h) (by simp; omega))
  clear hj3 hs0
  go_wp2_with (go_at_call 15; obtain ⟨_, V, h1, _⟩ := id hs3; refine (Waits_any _ d _ _ V h1).mono ?_; rintro e w4 ⟨rfl, hg4⟩)
  go_at_call 13
  refine ((hs3.grow (DiskAt.framed _ _ _ _) hg4).call (crash_at _ d [97, 98, 99] 0 1 (by omega) [97] 1 2 (by decide))).mono ?_
  rintro e w5 ⟨rfl, hj5, hs5⟩
  have hb4 := below_trans hb3 hg4 hb3.size
  have hb5 := hb4.trans (hj5.below (fun _ h => h) hb4.size)
  clear hb3 hb4 hj5 hs3
  go_wp2_with (go_at_call 14; obtain ⟨_, V, h1, _⟩ := id hs5; refine (All_is _ d _ _ V h1).mono ?_; rintro e w6 ⟨v6, rfl, hg6, hv6⟩; have cv6 := conv_is w6 hv6)
  go_at_call 11
  refine (((hs5.grow (DiskAt.framed _ _ _ _) hg6).grow (DiskAt.framed _ _ _ _) ((Below.refl _ _).alloc (Nat.le_refl _) _)).call (Append_yes _ d [97] 1 _ 1 1 [122] (Reads.more (reads_laid _ _ 5 (1, 2) rfl _ rfl) (by simp)) (by decide))).mono ?_
  rintro e w7 ⟨rfl, hj7, hs7⟩
  have hb6 := below_trans hb5 hg6 hb5.size
  have hb7 : Below w.heap.size w w7 := Below.trans (below_trans hb6 ((Below.refl _ _).alloc (Nat.le_refl _) _) hb6.size) (hj7.below (fun _ h => h) (by have := hb6.size; simp; omega))
  clear hj7 hs5 hb5 hb6
  go_wp2_with (go_at_call 12; refine (hs7.call (Sync_any _ d [97, 122] 1)).mono ?_; rintro e w8 ⟨rfl, hj8, hs8⟩)
  have hb8 := hb7.trans (hj8.below (fun _ h => h) hb7.size)
  clear hj8 hs7 hb7
  go_at_call 13
  refine (hs8.call (crash_at _ d [97, 122] 2 0 (by omega) [97, 122] 2 0 (by decide))).mono ?_
  rintro e w9 ⟨rfl, hj9, hs9⟩
  have hb9 := hb8.trans (hj9.below (fun _ h => h) hb8.size)
  clear hj9 hs8 hb8
  go_wp2_with (go_at_call 17; obtain ⟨_, V, h1, _⟩ := id hs9; refine (Lasts_is _ d _ _ V h1).mono ?_; rintro e wa ⟨va, rfl, hga, hva⟩; have cva := conv_is wa hva)
  go_at_call 16
  have hsa := hs9.grow (DiskAt.framed _ _ _ _) hga
  have hba := below_trans hb9 hga hb9.size
  refine (hsa.call (Cut_no _ d [97, 122] 2 (-1) (by omega) (by decide))).mono ?_
  rintro e wb ⟨rfl, hjb, hsb⟩
  have hbb := hba.trans (hjb.below (fun _ h => h) hba.size)
  clear hjb hsa hba
  go_wp2_with fail
  go_at_call 16
  refine (hsb.call (Cut_no _ d [97, 122] 2 3 (by omega) (by decide))).mono ?_
  rintro e wc ⟨rfl, hjc, hsc⟩
  have hbc := hbb.trans (hjc.below (fun _ h => h) hbb.size)
  clear hjc hsb hbb
  go_wp2_with fail
  go_at_call 16
  refine (hsc.call (Cut_yes _ d [97, 122] 2 1 (by decide))).mono ?_
  rintro e wd ⟨rfl, hjd, hsd⟩
  have hbd := hbc.trans (hjd.below (fun _ h => h) hbc.size)
  clear hjd hsc hbc
  go_wp2_with (go_at_call 14; obtain ⟨_, V, h1, _⟩ := id hsd; refine (All_is _ d _ _ V h1).mono ?_; rintro e we ⟨ve, rfl, hge, hve⟩; have cve := conv_is we hve)
  go_ret
  exact ⟨rfl, below_trans hbd hge hbd.size⟩
end Go.Proofs.Ytedpcdliadfhgaa
