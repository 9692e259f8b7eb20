/- CrcNumbers' walk: the closed sentence answers true. -/
import Derived.Test.YtiebjjmgbgibcaaTells
namespace Go.Proofs.Ytiebjjmgbgibcaa
open Go.RowKit Go.Hop Go.ChangeShapes Go.WideShapes Go.ChangeAt

theorem same_int (A C : Option Addr) (n m cap cap' : Nat) (l r : List UInt8) (c x : Int) (w : World) (h : Bytes w w.heap.size A n l) (h' : Bytes w w.heap.size C m r) (hn : n + m ≤ 140737488355328)
    (hc : 0 ≤ c ∧ c < 4294967296) (hx : 0 ≤ x ∧ x < 256) :
    Calls Try.prog 7 #[.slice A n cap, .slice C m cap', .int .u32 c, .int .u8 x] w fun e w' => e = .returned (.bool true) ∧ Below w.heap.size w w' := by
  have ec : c = ((BitVec.ofNat 32 c.toNat).toNat : Int) := by rw [BitVec.toNat_ofNat]; omega
  have ex : x = ((UInt8.ofNat x.toNat).toNat : Int) := by rw [UInt8.toNat_ofNat']; omega
  rw [ec, ex]
  exact same_any A C n m cap cap' l r _ _ w h h' hn

theorem not_range (k : Nat) (h : k < 4294967296) : 0 ≤ bits BinOp.xor IntKind.u32 4294967295 (k : Int) ∧ bits BinOp.xor IntKind.u32 4294967295 (k : Int) < 4294967296 := by
  have e := not32 (BitVec.ofNat 32 k)
  have e2 : (BitVec.ofNat 32 k).toNat = k := by rw [BitVec.toNat_ofNat]; omega
  rw [e2] at e
  have := (~~~(BitVec.ofNat 32 k)).isLt
  rw [e]; omega

def row (k : Nat) : List UInt8 := (List.range k).map fun i => UInt8.ofNat (i * i + 3)
theorem row_length (k : Nat) : (row k).length = k := by simp [row]
theorem row_succ (k : Nat) : row (k + 1) = row k ++ [UInt8.ofNat (k * k + 3)] := by simp [row, List.range_succ]

set_option maxRecDepth 100000 in
set_option maxHeartbeats 400000 in
theorem numbers_any (w : World) : Calls Try.prog 3 #[] w fun e w' => e = .returned (.bool true) ∧ Below w.heap.size w w' := by
  go_enter Try.func3, Try.ntmps3
  go_wp2_with fail
  go_loopw [1, 2] (fun v i wr => ∃ k : Nat, k ≤ 300 ∧ i = .int .i64 k ∧ wr.ownsRow w.heap.size 5 1 v k (u8s (row k)) ∧ Below w.heap.size w wr) (fun _ i _ => 300 - (intOf i).toNat)
  case atStart => exact ⟨0, by omega, rfl, World.ownsRow_nil _ _ _ _, Below.refl _ _⟩
  case round =>
    obtain ⟨k, hk, rfl, hown, hb⟩ := hrel
    by_cases hlt : k < 300
    · obtain ⟨A, c, rfl, hr, hkc, hcm⟩ := own_reads hown
      unfold maxLen at hcm
      have hsq0 : (0 : Int) ≤ (k : Int) * (k : Int) := Int.mul_nonneg (by omega) (by omega)
      have hsq1 : (k : Int) * (k : Int) ≤ 90000 := by
        have := Nat.mul_le_mul (Nat.le_of_lt hlt) (Nat.le_of_lt hlt)
        have e : ((k * k : Nat) : Int) = (k : Int) * (k : Int) := by push_cast; rfl
        omega
      have hhalf : Bytes wr wr.heap.size A (k / 2) ((row k).take (k / 2)) := by
        have := Reads.take hr (k := k / 2) (by omega)
        rw [Nat.mul_one] at this
        unfold Bytes u8s; rw [List.map_take]; exact this
      have hh2 : ((k / 2 : Nat) : Int) = (k : Int) / 2 := by omega
      have H2 := Lib.hid hh2
      clear hh2
      have e63 : (k / 2 : Nat) ≤ c := by omega
      go_wp2_with fail
      refine (same_int A A k (k / 2) c c (row k) _ _ _ wr hr hhalf (by omega) (by omega) (by omega)).mono ?_; rintro e w1 ⟨rfl, hb1⟩
      go_wp2_with fail
      have hr1 := (Reads.below hr hb1).more hb1.size
      refine (same_int none A 0 k 0 c [] (row k) _ _ w1 Reads.nil hr1 (by omega) (not_range k (by omega)) (by omega)).mono ?_; rintro e w2 ⟨rfl, hb2⟩
      have hb3 : Below w.heap.size w w2 := below_trans (below_trans hb hb1 hb.size) hb2 (Nat.le_trans hb.size hb1.size)
      have hown2 := own_below (own_below hown hb1) hb2
      clear hown hr1 hr hhalf hb1
      go_wp2_with (at_builtin; refine stay ?_)
      refine stay_out ?_
      refine wpList_app bytesE _ rfl (.tmp 30) (.tmp 36) rfl w.heap.size (.slice A k c) k (u8s (row k)) rfl (own_below hown2 ((Below.refl _ _).alloc (Nat.le_refl _) _)) (w2.heap.size + 1) (some ⟨w2.heap.size, 0, none⟩) 1 1 [.int .u8 (((k : Int) * (k : Int) + 3) % 256)] rfl (reads_laid w2 _ 5 _ rfl _ rfl) (by simp [Value.oneCell']) (by omega) (by have := hb3.size; simp; omega) ?_
      intro v3 w3 hown3 hg3 hat3
      have ex : ((k : Int) * (k : Int) + 3) % 256 = ((UInt8.ofNat (k * k + 3)).toNat : Int) := by
        rw [UInt8.toNat_ofNat']
        have e : ((k * k : Nat) : Int) = (k : Int) * (k : Int) := by push_cast; rfl
        omega
      have hrow : u8s (row k) ++ [.int .u8 (((k : Int) * (k : Int) + 3) % 256)] = u8s (row (k + 1)) := by
        rw [row_succ, u8s_append, ex]; rfl
      rw [hrow] at hown3
      clear hrow
      have EX := Lib.hid ex
      clear ex
      have hb4 : Below w.heap.size w w3 := below_own (below_trans hb3 ((Below.refl _ _).alloc (Nat.le_refl _) _) hb3.size) (own_below hown2 ((Below.refl _ _).alloc (Nat.le_refl _) _)) hg3 (Nat.le_refl _) (by have := hb3.size; simp; omega)
      clear hown2 hg3 hat3 hb3 hb2
      go_wp2_with fail
      go_roundw
      case rel => exact ⟨k + 1, by omega, by go_num, hown3, hb4⟩
      case measure => simp [intOf]; omega
    · obtain rfl : k = 300 := by omega
      go_wp2_with fail
      refine (known_any wr).mono ?_; rintro e w3 ⟨rfl, hb3⟩
      go_wp2_with fail
      go_ret
      exact ⟨rfl, below_trans hb hb3 hb.size⟩
end Go.Proofs.Ytiebjjmgbgibcaa
