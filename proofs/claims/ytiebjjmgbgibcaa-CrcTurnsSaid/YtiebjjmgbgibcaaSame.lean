/- The law's helpers 'same' and 'known' answer true, for rows of up to 2^47 bytes together. -/
import Derived.Test.YtiebjjmgbgibcaaNext
import Derived.Lib.SlBytesConst
namespace Go.Proofs.Ytiebjjmgbgibcaa
open Go.RowKit Go.Hop

theorem u8_info : (Try.prog.info? 5).map (fun i => (i.zero, i.size, i.bytes)) = some (some (.int .u8 0), 1, 1) := by kernel_rfl
theorem bytesE : Elem Try.prog 22 5 1 1 (.int .u8 0) := ⟨Try.underlying22, info_parts u8_info, rfl, by decide, by decide⟩
theorem crc_known : crc [49, 50, 51, 52, 53, 54, 55, 56, 57] = 0xcbf43926#32 := by decide +kernel
theorem crc_nil : crc [] = 0#32 := by decide +kernel

set_option maxHeartbeats 400000 in
theorem same_any (A C : Option Addr) (n m cap cap' : Nat) (l r : List UInt8) (c : BitVec 32) (x : UInt8) (w : World) (h : Bytes w w.heap.size A n l) (h' : Bytes w w.heap.size C m r) (hn : n + m ≤ 140737488355328) :
    Calls Try.prog 7 #[.slice A n cap, .slice C m cap', .int .u32 c.toNat, .int .u8 x.toNat] w fun e w' => e = .returned (.bool true) ∧ Below w.heap.size w w' := by
  have ho := Lib.hid (of_any A n cap l w _ h (by unfold maxLen; omega))
  have hr := Lib.hid (refcrc_any A n cap l w _ h (by unfold maxLen; omega))
  go_enter Try.func7, Try.ntmps7
  go_wp2_with fail
  refine ho.out.mono ?_; rintro e w' ⟨rfl, rfl⟩
  go_wp2_with fail
  refine hr.out.mono ?_; rintro e w' ⟨rfl, rfl⟩
  go_wp2_with fail
  refine (next_any _ _ _).mono ?_; rintro e w' ⟨rfl, rfl⟩
  go_wp2_with fail
  refine (refnext_any _ _ _).mono ?_; rintro e w' ⟨rfl, rfl⟩
  go_wp2_with fail
  refine (join_any A C n m cap cap' l r w _ _ h (by unfold maxLen; omega) h' (by unfold maxLen; omega)).mono ?_; rintro e w' ⟨rfl, rfl⟩
  go_wp2_with (first
    | (at_builtin
       refine wpList_app bytesE _ rfl (.tmp 27) (.tmp 28) rfl w.heap.size (.slice (some ⟨w.heap.size, 0, none⟩) 0 0) 0 [] rfl (World.ownsRow_made w #[] 0 (Nat.le_refl _) (by decide) rfl) w.heap.size A n cap (u8s l) rfl (Reads.alloc h (Nat.le_refl _) _) u8s_one (by omega) (by simp) ?_
       intro v1 w1 hown1 hg1 hat1
       have hb1 : Below w.heap.size w w1 := ((Below.refl _ _).alloc (Nat.le_refl _) _).grown hg1 (by simp) (by simp [Value.ownBlock])
       simp only [Nat.zero_add, List.nil_append] at hown1)
    | (at_builtin
       refine wpList_app bytesE _ rfl (.tmp 29) (.tmp 30) rfl w.heap.size v1 n (u8s l) rfl hown1 w.heap.size C m cap' (u8s r) rfl (Reads.below h' hb1) u8s_one (by omega) hb1.size ?_
       intro v2 w2 hown2 hg2 hat2))
  have hb2 := below_own hb1 hown1 hg2 (Nat.le_refl _) hb1.size
  obtain ⟨A2, c2, rfl, hr2, _, _⟩ := own_reads hown2
  rw [← u8s_append] at hr2
  refine (refcrc_any A2 (n + m) c2 (l ++ r) _ _ hr2 (by unfold maxLen; omega)).mono ?_; rintro e w' ⟨rfl, rfl⟩
  clear hown1 hg1 hat1 hown2 hg2 hat2
  go_wp2_with fail
  go_ret
  exact ⟨rfl, hb2⟩

set_option maxHeartbeats 400000 in
theorem known_any (w : World) : Calls Try.prog 8 #[] w fun e w' => e = .returned (.bool true) ∧ Below w.heap.size w w' := by
  have kc : ∀ (w : World) (g : Nat) (C : Array Value) (n c : Nat), w.heap.size = g → (convert 22 22 (.slice (some ⟨g, 0, none⟩) n c)).run Try.prog (w.alloc (.cells C 5)) = .ok (.slice (some ⟨g, 0, none⟩) n c) (w.alloc (.cells C 5 (C.size, C.size + 1))) := by
    intro w g C n c hg
    subst hg
    exact Lib.run_convert_bytes_const (P := Try.prog) w 22 5 C n c Try.underlying22 Try.underlying5
  go_enter Try.func8, Try.ntmps8
  go_wp2_with fail
  refine (of_any _ 9 9 [49, 50, 51, 52, 53, 54, 55, 56, 57] _ _ (reads_laid w _ 5 _ rfl _ rfl) (by decide)).mono ?_; rintro e w1 ⟨rfl, rfl⟩
  rw [crc_known]
  go_wp2_with fail
  refine (of_any none 0 0 [] _ 0 Reads.nil (by decide)).mono ?_; rintro e w1 ⟨rfl, rfl⟩
  rw [crc_nil]
  go_wp2_with fail
  refine (join_any none _ 0 9 0 9 [] [49, 50, 51, 52, 53, 54, 55, 56, 57] _ 0 _ Reads.nil (by decide) (reads_laid _ _ 5 _ rfl _ (by simp)) (by decide)).mono ?_; rintro e w1 ⟨rfl, rfl⟩
  rw [List.nil_append, crc_known]
  go_wp2_with fail
  go_ret
  exact ⟨rfl, ((Below.refl _ _).alloc (Nat.le_refl _) _).alloc (by simp) _⟩
end Go.Proofs.Ytiebjjmgbgibcaa
