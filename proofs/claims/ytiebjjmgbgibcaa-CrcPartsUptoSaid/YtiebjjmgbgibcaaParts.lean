/- CrcParts: a sum goes on byte by byte, two rows joined are one row: proved where the arguments together hold at most 1048576 values. -/
import Derived.Test.YtiebjjmgbgibcaaTells
namespace Go.Proofs.Ytiebjjmgbgibcaa
open Go.RowKit Go.Hop Go.ChangeShapes Go.WideShapes Go.ChangeAt

theorem crc_not (l : List UInt8) : ~~~(crc l) = run ones l := by simp [crc]
theorem not_run (l : List UInt8) : ~~~(run ones l) = crc l := rfl
attribute [local go_sem] not32 crc_not not_run
theorem run_append (l r : List UInt8) : run (run ones l) r = run ones (l ++ r) := by simp [run]

set_option maxHeartbeats 400000 in
theorem parts_any (A C : Option Addr) (n m cap cap' : Nat) (l r : List UInt8) (w : World) (h : Bytes w w.heap.size A n l) (h' : Bytes w w.heap.size C m r) (hn : n + m ≤ 140737488355328) :
    Calls Try.prog 6 #[.slice A n cap, .slice C m cap'] w fun e w' => e = .returned (.bool true) ∧ Below w.heap.size w w' := by
  have ho := Lib.hid (of_any A n cap l w _ h (by unfold maxLen; omega))
  have hj := Lib.hid (join_any A C n m cap cap' l r w _ _ h (by unfold maxLen; omega) h' (by unfold maxLen; omega))
  have hlen := h'.len
  have hm : m ≤ 9223372036854775807 := by omega
  go_enter Try.func6, Try.ntmps6
  go_wp2_with fail
  refine ho.out.mono ?_; rintro e w1 ⟨rfl, rfl⟩
  go_wp2_with fail
  go_loop [5, 7, 13] (fun v _ i => ∃ k : Nat, k ≤ m ∧ i = .int .i64 k ∧ v = .int .u32 (run (run ones l) (r.take k)).toNat) (fun _ _ i => m - (intOf i).toNat)
  case atStart => exact ⟨0, by omega, rfl, rfl⟩
  case round =>
    obtain ⟨k, hk, rfl, rfl⟩ := hrel
    by_cases hlt : k < m
    · obtain ⟨ad, hl, rfl, hc⟩ := h'.at_ hlt
      have hs := Lib.hid (run_take (run ones l) r k hl)
      go_wp2_with (go_at_call 10; refine (next_any _ _ _).mono ?_; rintro e w' ⟨rfl, rfl⟩)
      go_round
      case rel => exact ⟨k + 1, by omega, by go_num, by rw [hs.out]⟩
      case measure => simp [intOf]; omega
    · obtain rfl : k = m := by omega
      have e1 : r.take k = r := List.take_of_length_le (by omega)
      rw [e1, run_append]
      go_wp2_with fail
      refine hj.out.mono ?_; rintro e w1 ⟨rfl, rfl⟩
      go_wp2_with fail
      refine (join_any A C n k cap cap' l r w _ _ h (by unfold maxLen; omega) h' (by unfold maxLen; omega)).mono ?_; rintro e w1 ⟨rfl, rfl⟩
      go_wp2_with (first
        | (at_builtin
           refine wpList_app bytesE _ rfl (.tmp 31) (.tmp 32) rfl w.heap.size (.slice (some ⟨w.heap.size, 0, none⟩) 0 0) 0 [] rfl (World.ownsRow_made w #[] 0 (Nat.le_refl _) (by decide) rfl) w.heap.size A n cap (u8s l) rfl (Reads.alloc h (Nat.le_refl _) _) u8s_one (by omega) (by simp) ?_
           intro v1 w1 hown1 hg1 hat1
           have hb1 : Below w.heap.size w w1 := ((Below.refl _ _).alloc (Nat.le_refl _) _).grown hg1 (by simp) (by simp [Value.ownBlock])
           simp only [Nat.zero_add, List.nil_append] at hown1)
        | (at_builtin
           refine wpList_app bytesE _ rfl (.tmp 33) (.tmp 34) rfl w.heap.size v1 n (u8s l) rfl hown1 w.heap.size C k cap' (u8s r) rfl (Reads.below h' hb1) u8s_one (by omega) hb1.size ?_
           intro v2 w2 hown2 hg2 hat2))
      have hb2 := below_own hb1 hown1 hg2 (Nat.le_refl _) hb1.size
      obtain ⟨A2, c2, rfl, hr2, _, _⟩ := own_reads hown2
      rw [← u8s_append] at hr2
      refine (of_any A2 (n + k) c2 (l ++ r) _ _ hr2 (by unfold maxLen; omega)).mono ?_; rintro e w' ⟨rfl, rfl⟩
      clear hown1 hg1 hat1 hown2 hg2 hat2
      go_wp2_with fail
      refine (join_any C none k 0 cap' 0 r [] w2 _ 0 (Reads.below h' hb2) (by unfold maxLen; omega) Reads.nil (by decide)).mono ?_; rintro e w' ⟨rfl, rfl⟩
      rw [List.append_nil]
      go_wp2_with fail
      refine (of_any C k cap' r w2 _ (Reads.below h' hb2) (by unfold maxLen; omega)).mono ?_; rintro e w' ⟨rfl, rfl⟩
      go_wp2_with fail
      refine (known_any w2).mono ?_; rintro e w3 ⟨rfl, hb3⟩
      go_wp2_with fail
      go_ret
      exact ⟨rfl, hb2.trans (hb3.mono hb2.size)⟩
end Go.Proofs.Ytiebjjmgbgibcaa
