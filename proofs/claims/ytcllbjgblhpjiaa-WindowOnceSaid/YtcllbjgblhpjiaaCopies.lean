/- WindowCopies: its walk. -/
import Derived.Test.YtcllbjgblhpjiaaPlay
namespace Go.Proofs.Ytcllbjgblhpjiaa
open Go.RowKit Go.Hop
theorem strip_up : ∀ (k : Nat) (F : Int) (M : Nat), F ≤ (strip k F M).1
  | 0, F, M => by unfold strip; exact Int.le_refl _
  | k + 1, F, M => by
    unfold strip
    split
    · have := strip_up k (F + 1) (M / 2); omega
    · exact Int.le_refl _
theorem addS_up (F : Int) (M : Nat) (n : Int) : F ≤ (addS F M n).1 := by
  unfold addS
  split
  · exact strip_up 64 F _
  · exact Int.le_refl _
theorem and63 (z : Int) : bits .and .i64 z 63 = z % 64 := by
  have h127 : (BitVec.ofInt 64 63).toNat = 2 ^ 6 - 1 := by decide
  have key : (BitVec.ofInt 64 z &&& BitVec.ofInt 64 63).toNat = (z % ((2 ^ 64 : Nat) : Int)).toNat % 2 ^ 6 := by
    rw [BitVec.toNat_and, BitVec.toNat_ofInt, h127, Nat.and_two_pow_sub_one_eq_mod]
  show IntKind.i64.wrap ((BitVec.ofInt 64 z &&& BitVec.ofInt 64 63).toNat : Nat) = z % 64
  rw [key, IntKind.wrap_i64]
  omega
theorem range_of_wf {l : List Int} (h : ∀ z ∈ l, (Lit.int .i64 z).wf = true) : ∀ z ∈ l, -9223372036854775808 ≤ z ∧ z ≤ 9223372036854775807 := fun z hz => by
  simpa [Lit.wf, IntKind.min, IntKind.max, IntKind.signed, IntKind.bits] using h z hz
/-- one number of a slice -/
theorem reads_num {w w1 : World} {B : Nat} {A : Option Addr} {n : Nat} {l : List Int} (h : Reads w B 1 A n (l.map (Value.int .i64))) {k : Nat} (hk : k < n) (hl : ∀ z ∈ l, -9223372036854775808 ≤ z ∧ z ≤ 9223372036854775807) (hb : Below B w w1) :
    ∃ (ad : Addr) (z : Int), A = some ad ∧ (-9223372036854775808 ≤ z ∧ z ≤ 9223372036854775807) ∧ w1.cell? (ad.add k) = some (.int .i64 z) := by
  obtain ⟨ad, u, e, hadB, hx, hc⟩ := h.at_ hk
  have hlk : k < l.length := by
    have := h.1
    have : l.length = n := by simpa using this
    omega
  rw [List.getElem?_map, List.getElem?_eq_getElem hlk] at hx
  injection hx with hx
  exact ⟨ad, l[k], e, hl _ (List.getElem_mem hlk), by rw [hb.cell (by rw [block_add]; exact hadB), hc, ← hx]⟩
set_option maxRecDepth 100000 in
set_option maxHeartbeats 4000000 in
theorem copies_any (w : World) (A : Option Addr) (n c : Nat) (l : List Int) (hr : Reads w w.heap.size 1 A n (l.map (Value.int .i64))) (hl : ∀ z ∈ l, -9223372036854775808 ≤ z ∧ z ≤ 9223372036854775807)
    (A' : Option Addr) (n' c' : Nat) (l' : List Int) (hr' : Reads w w.heap.size 1 A' n' (l'.map (Value.int .i64))) (hl' : ∀ z ∈ l', -9223372036854775808 ≤ z ∧ z ≤ 9223372036854775807) :
    Calls Try.prog 6 #[.slice A n c, .slice A' n' c'] w fun e w' => e = .returned (.bool true) ∧ Grow w w' := by
  go_enter Try.func6, Try.ntmps6
  go_wp2_with (go_at_call 7; refine (new_any _).mono ?_; rintro e w1 ⟨rfl, hB0, hg0⟩)
  obtain ⟨g, HG⟩ : ∃ g : Nat, Hid (g = w.heap.size) := ⟨_, rfl⟩
  have hgw : w.heap.size ≤ g := by have := HG.out; omega
  rw [← HG.out] at hB0 ⊢
  go_loopw [6] (fun i wr => ∃ (k : Nat) (F : Int) (M : Nat), k ≤ 40 ∧ k ≤ n ∧ i = .int .i64 k ∧ WInv F M ∧ Blk wr g 36 #[.int .i64 F, .int .u64 (M : Int)] ∧ Below w.heap.size w wr) (fun i _ => 40 - (intOf i).toNat)
  case atStart => exact ⟨0, 0, 0, by omega, by omega, rfl, WInv.none, hB0, hg0⟩
  case round =>
    obtain ⟨k, F, M, hk4, hkn, rfl, hW, hB, hb⟩ := hrel
    by_cases hgo : k < n ∧ k < 40
    · obtain ⟨hk, hk40⟩ := hgo
      obtain ⟨ad, z, rfl, hzr, hcell⟩ := reads_num hr hk hl hb
      have ea := and63 z
      have hmr : -9223372036854775808 ≤ 1 + z % 64 ∧ 1 + z % 64 ≤ 9223372036854775807 := by omega
      go_wp2_with (go_at_call 9; refine (add_any wr g F M (1 + z % 64) hB hW hmr).mono ?_; rintro e w3 ⟨rfl, hB3, hO3⟩)
      have hW3 := hW.add hmr.2
      have hb3 := hb.trans (hO3.below (B := w.heap.size) hgw hb.size)
      generalize addS F M (1 + z % 64) = FM at hB3 hW3
      go_wp2_with fail
      go_roundw
      case rel => exact ⟨k + 1, FM.1, FM.2, by omega, by omega, by go_num, hW3, hB3, hb3⟩
      case measure => simp [intOf]; omega
    · by_cases hk : k < n
      · obtain rfl : k = 40 := by omega
        go_wp2_with (first
          | (go_at_call 11; refine (floor_any _ g F M hB).mono ?_; rintro e w3 ⟨rfl, rfl⟩)
          | (go_at_call 12; refine (mask_any _ g F M hB).mono ?_; rintro e w3 ⟨rfl, rfl⟩))
        go_at_call 15
        refine (copy_any _ g F M hB).mono ?_
        rintro e w3 ⟨rfl, hB3, hg3⟩
        have hBg3 := hB.grow hg3
        have hgl := hB.lt
        have hb3 := below_trans hb hg3 hb.size
        obtain ⟨cc, HC⟩ : ∃ cc : Nat, Hid (cc = wr.heap.size) := ⟨_, rfl⟩
        have hcg : g ≠ cc := by have := HC.out; omega
        have hcw : w.heap.size ≤ cc := by have := HC.out; have := hb.size; omega
        rw [← HC.out] at hB3 ⊢
        go_wp2_with (first
          | (go_at_call 11; refine (floor_any _ cc F M hB3).mono ?_; rintro e w4 ⟨rfl, rfl⟩)
          | (go_at_call 12; refine (mask_any _ cc F M hB3).mono ?_; rintro e w4 ⟨rfl, rfl⟩))
        go_loopw [10] (fun i wx => ∃ (k : Nat) (F2 : Int) (M2 : Nat), k ≤ 40 ∧ k ≤ n' ∧ i = .int .i64 k ∧ WInv F2 M2 ∧ F ≤ F2 ∧ Blk wx cc 36 #[.int .i64 F2, .int .u64 (M2 : Int)] ∧ Blk wx g 36 #[.int .i64 F, .int .u64 (M : Int)] ∧ Below w.heap.size w wx) (fun i _ => 40 - (intOf i).toNat)
        case atStart => exact ⟨0, F, M, by omega, by omega, rfl, hW, Int.le_refl _, hB3, hBg3, hb3⟩
        case round =>
          obtain ⟨k2, F2, M2, hk24, hkn2, rfl, hW2, hup, hBc, hBg, hb2⟩ := hrel
          rename_i wx
          by_cases hk2 : k2 < n'
          · by_cases hk240 : k2 < 40
            · obtain ⟨ad, z, rfl, hzr, hcell⟩ := reads_num hr' hk2 hl' hb2
              have ea := and63 z
              have hmr : -9223372036854775808 ≤ 1 + z % 64 ∧ 1 + z % 64 ≤ 9223372036854775807 := by omega
              go_wp2_with (go_at_call 9; refine (add_any _ cc F2 M2 (1 + z % 64) hBc hW2 hmr).mono ?_; rintro e w5 ⟨rfl, hB5, hO5⟩)
              have hW5 := hW2.add hmr.2
              have hup5 := addS_up F2 M2 (1 + z % 64)
              have hb5 := hb2.trans (hO5.below (B := w.heap.size) hcw hb2.size)
              have hBg5 := hO5.blk hBg hcg
              generalize addS F2 M2 (1 + z % 64) = FM at hB5 hW5 hup5
              go_wp2_with fail
              go_roundw
              case rel => exact ⟨k2 + 1, FM.1, FM.2, by omega, by omega, by go_num, hW5, by omega, hB5, hBg5, hb5⟩
              case measure => simp [intOf]; omega
            · obtain rfl : k2 = 40 := by omega
              go_wp2_with (first
                | (go_at_call 11; refine (floor_any _ g F M hBg).mono ?_; rintro e w9 ⟨rfl, rfl⟩)
                | (go_at_call 11; refine (floor_any _ cc F2 M2 hBc).mono ?_; rintro e w9 ⟨rfl, rfl⟩)
                | (go_at_call 12; refine (mask_any _ g F M hBg).mono ?_; rintro e w9 ⟨rfl, rfl⟩)
                | (go_at_call 13; refine (known_any _).mono ?_; rintro e w9 ⟨rfl, hg9⟩))
              go_ret
              exact ⟨rfl, below_trans hb2 hg9 hb2.size⟩
          · skip
            go_wp2_with (first
              | (go_at_call 11; refine (floor_any _ g F M hBg).mono ?_; rintro e w9 ⟨rfl, rfl⟩)
              | (go_at_call 11; refine (floor_any _ cc F2 M2 hBc).mono ?_; rintro e w9 ⟨rfl, rfl⟩)
              | (go_at_call 12; refine (mask_any _ g F M hBg).mono ?_; rintro e w9 ⟨rfl, rfl⟩)
              | (go_at_call 13; refine (known_any _).mono ?_; rintro e w9 ⟨rfl, hg9⟩))
            go_ret
            exact ⟨rfl, below_trans hb2 hg9 hb2.size⟩
      · skip
        go_wp2_with (first
          | (go_at_call 11; refine (floor_any _ g F M hB).mono ?_; rintro e w3 ⟨rfl, rfl⟩)
          | (go_at_call 12; refine (mask_any _ g F M hB).mono ?_; rintro e w3 ⟨rfl, rfl⟩))
        go_at_call 15
        refine (copy_any _ g F M hB).mono ?_
        rintro e w3 ⟨rfl, hB3, hg3⟩
        have hBg3 := hB.grow hg3
        have hgl := hB.lt
        have hb3 := below_trans hb hg3 hb.size
        obtain ⟨cc, HC⟩ : ∃ cc : Nat, Hid (cc = wr.heap.size) := ⟨_, rfl⟩
        have hcg : g ≠ cc := by have := HC.out; omega
        have hcw : w.heap.size ≤ cc := by have := HC.out; have := hb.size; omega
        rw [← HC.out] at hB3 ⊢
        go_wp2_with (first
          | (go_at_call 11; refine (floor_any _ cc F M hB3).mono ?_; rintro e w4 ⟨rfl, rfl⟩)
          | (go_at_call 12; refine (mask_any _ cc F M hB3).mono ?_; rintro e w4 ⟨rfl, rfl⟩))
        go_loopw [10] (fun i wx => ∃ (k : Nat) (F2 : Int) (M2 : Nat), k ≤ 40 ∧ k ≤ n' ∧ i = .int .i64 k ∧ WInv F2 M2 ∧ F ≤ F2 ∧ Blk wx cc 36 #[.int .i64 F2, .int .u64 (M2 : Int)] ∧ Blk wx g 36 #[.int .i64 F, .int .u64 (M : Int)] ∧ Below w.heap.size w wx) (fun i _ => 40 - (intOf i).toNat)
        case atStart => exact ⟨0, F, M, by omega, by omega, rfl, hW, Int.le_refl _, hB3, hBg3, hb3⟩
        case round =>
          obtain ⟨k2, F2, M2, hk24, hkn2, rfl, hW2, hup, hBc, hBg, hb2⟩ := hrel
          rename_i wx
          by_cases hk2 : k2 < n'
          · by_cases hk240 : k2 < 40
            · obtain ⟨ad, z, rfl, hzr, hcell⟩ := reads_num hr' hk2 hl' hb2
              have ea := and63 z
              have hmr : -9223372036854775808 ≤ 1 + z % 64 ∧ 1 + z % 64 ≤ 9223372036854775807 := by omega
              go_wp2_with (go_at_call 9; refine (add_any _ cc F2 M2 (1 + z % 64) hBc hW2 hmr).mono ?_; rintro e w5 ⟨rfl, hB5, hO5⟩)
              have hW5 := hW2.add hmr.2
              have hup5 := addS_up F2 M2 (1 + z % 64)
              have hb5 := hb2.trans (hO5.below (B := w.heap.size) hcw hb2.size)
              have hBg5 := hO5.blk hBg hcg
              generalize addS F2 M2 (1 + z % 64) = FM at hB5 hW5 hup5
              go_wp2_with fail
              go_roundw
              case rel => exact ⟨k2 + 1, FM.1, FM.2, by omega, by omega, by go_num, hW5, by omega, hB5, hBg5, hb5⟩
              case measure => simp [intOf]; omega
            · obtain rfl : k2 = 40 := by omega
              go_wp2_with (first
                | (go_at_call 11; refine (floor_any _ g F M hBg).mono ?_; rintro e w9 ⟨rfl, rfl⟩)
                | (go_at_call 11; refine (floor_any _ cc F2 M2 hBc).mono ?_; rintro e w9 ⟨rfl, rfl⟩)
                | (go_at_call 12; refine (mask_any _ g F M hBg).mono ?_; rintro e w9 ⟨rfl, rfl⟩)
                | (go_at_call 13; refine (known_any _).mono ?_; rintro e w9 ⟨rfl, hg9⟩))
              go_ret
              exact ⟨rfl, below_trans hb2 hg9 hb2.size⟩
          · skip
            go_wp2_with (first
              | (go_at_call 11; refine (floor_any _ g F M hBg).mono ?_; rintro e w9 ⟨rfl, rfl⟩)
              | (go_at_call 11; refine (floor_any _ cc F2 M2 hBc).mono ?_; rintro e w9 ⟨rfl, rfl⟩)
              | (go_at_call 12; refine (mask_any _ g F M hBg).mono ?_; rintro e w9 ⟨rfl, rfl⟩)
              | (go_at_call 13; refine (known_any _).mono ?_; rintro e w9 ⟨rfl, hg9⟩))
            go_ret
            exact ⟨rfl, below_trans hb2 hg9 hb2.size⟩
end Go.Proofs.Ytcllbjgblhpjiaa
