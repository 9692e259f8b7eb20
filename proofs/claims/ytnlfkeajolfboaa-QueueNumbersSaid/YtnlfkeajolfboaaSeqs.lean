/- QueueSeqs: its walk. -/
import Derived.Test.YtnlfkeajolfboaaKnown
namespace Go.Proofs.Ytnlfkeajolfboaa
open Go.RowKit Go.Hop
theorem and_low (z M : Int) (k : Nat) (hk : k ≤ 62) (hM : (BitVec.ofInt 64 M).toNat = 2 ^ k - 1) : bits .and .i64 z M = z % (2 ^ k : Nat) := by
  have key : (BitVec.ofInt 64 z &&& BitVec.ofInt 64 M).toNat = (z % ((2 ^ 64 : Nat) : Int)).toNat % 2 ^ k := by
    rw [BitVec.toNat_and, BitVec.toNat_ofInt, hM, Nat.and_two_pow_sub_one_eq_mod]
  have hp : 2 ^ k ∣ 2 ^ 64 := Nat.pow_dvd_pow 2 (by omega)
  have hpos : 0 < 2 ^ k := Nat.pow_pos (by omega)
  have hle : 2 ^ k ≤ 2 ^ 62 := Nat.pow_le_pow_right (by omega) hk
  show IntKind.i64.wrap ((BitVec.ofInt 64 z &&& BitVec.ofInt 64 M).toNat : Nat) = z % (2 ^ k : Nat)
  rw [key]
  have h1 : (((z % ((2 ^ 64 : Nat) : Int)).toNat % 2 ^ k : Nat) : Int) = z % ((2 ^ k : Nat) : Int) := by
    rw [Int.natCast_emod, Int.toNat_of_nonneg (Int.emod_nonneg _ (by decide))]
    exact Int.emod_emod_of_dvd z (Int.natCast_dvd_natCast.2 hp)
  rw [h1, IntKind.wrap_i64]
  have h2 := Int.emod_nonneg z (b := ((2 ^ k : Nat) : Int)) (by omega)
  have h3 := Int.emod_lt_of_pos z (b := ((2 ^ k : Nat) : Int)) (by omega)
  omega
theorem and255 (z : Int) : bits .and .i64 z 255 = z % 256 := and_low z 255 8 (by decide) (by decide)
theorem and63 (z : Int) : bits .and .i64 z 63 = z % 64 := and_low z 63 6 (by decide) (by decide)
theorem and7 (z : Int) : bits .and .i64 z 7 = z % 8 := and_low z 7 3 (by decide) (by decide)
theorem Solo.wide {P P' : Nat → Prop} {S : Thing} {w : World} (h : Solo P S w) (hP : ∀ b, P b → P' b) : Solo P' S w := by
  obtain ⟨h0, V, h1, h2⟩ := h
  exact ⟨fun b hb => hP b (h0 b hb), V, h1, fun b hb => ⟨hP b (h2 b hb).1, (h2 b hb).2⟩⟩
/-- what lies elsewhere may turn -/
theorem Solo.past {P Q : Nat → Prop} {S : Thing} {w w' : World} (h : Solo P S w) (hS : Framed S) (hj : Just Q w w') (hQ : ∀ b, Q b → ¬ P b) : Solo P S w' := by
  obtain ⟨h0, V, h1, h2⟩ := h
  exact ⟨fun b hb => h0 b (Nat.le_trans hj.size hb), V, hS w w' V h1 (fun b hb => hj.block b (h2 b hb).2 (fun hq => hQ b hq (h2 b hb).1)), fun b hb => ⟨(h2 b hb).1, Nat.lt_of_lt_of_le (h2 b hb).2 hj.size⟩⟩
theorem Add_no (w : World) (g : Nat) (l : List Ab) (last seq : Int) (A : Option Addr) (m c : Nat) (h : seq < 1 ∨ seq ≤ last) :
    Turns Try.prog 9 #[.pointer (some ⟨g, 0, none⟩), .agg #[.int .i64 seq, .slice A m c]] (fun e => e = .returned (.int .i64 1)) (QueueAt g l last) (QueueAt g l last) w := by
  by_cases h1 : seq < 1
  · exact Add_a w g l last seq A m c h1
  · exact Add_b w g l last seq A m c h1 (h.resolve_left h1)
/-- a queue, and one delta that was just laid -/
theorem beside_delta {w0 w : World} {g : Nat} {l : List Ab} {last : Int} (h : Solo (fun b => w0.heap.size ≤ b) (QueueAt g l last) w) (hb : Below w0.heap.size w0 w) (s : ByteArray) (n : Nat) :
    ∃ (x : Nat) (wa : World), Hid (x = w.heap.size) ∧ Hid (wa = w.alloc (.cells #[.string s, .int .u64 (n : Int)] 29)) ∧ DIn wa (fun b => b = x) (some ⟨x, 0, none⟩) 1 [(s, n)] ∧ Solo (Off w0.heap.size x) (QueueAt g l last) wa ∧ Below w0.heap.size w0 wa ∧ Grow w wa := by
  have hga := (Below.refl w.heap.size w).alloc (Nat.le_refl _) (.cells #[.string s, .int .u64 (n : Int)] 29)
  refine ⟨_, _, Lib.hid rfl, Lib.hid rfl, delta_laid w s n _ rfl, Solo.beside h (QueueAt.framed _ _ _) hga fun b hb h => ⟨hb, ?_⟩, Below.trans hb (hga.mono hb.size), hga⟩
  have : (w.alloc (.cells #[.string s, .int .u64 (n : Int)] 29)).heap.size = w.heap.size + 1 := by simp
  omega
set_option maxRecDepth 100000 in
theorem seqs_any (w : World) (A : Option Addr) (n c : Nat) (l : List Int) (hr : Reads w w.heap.size 1 A n (l.map (Value.int .i64))) (hnc : n ≤ c) (hcm : c ≤ maxLen) :
    Calls Try.prog 3 #[.slice A n c] w fun e w' => e = .returned (.bool true) ∧ Grow w w' := by
  unfold maxLen at hcm
  go_enter Try.func3, Try.ntmps3
  go_wp2_with (first
    | (go_at_call 8; refine (New_any _).mono ?_; rintro e w1 ⟨rfl, hD1, hg1⟩))
  obtain ⟨g, HD⟩ : ∃ g : Nat, Hid (g = w.heap.size) := ⟨_, rfl⟩
  rw [← HD.out] at hD1 ⊢
  have hs1 := hg1.size
  have hs0 : Solo (fun b => w.heap.size ≤ b) (QueueAt g [] 0) w1 := Solo.make (V := New w w1) hD1 (fun b hb => by omega) (fun b hb => hb)
  clear hD1
  go_wp2_with fail
  go_loopw [4, 5] (fun a i wr => ∃ (k : Nat) (last : Int), k ≤ n ∧ k ≤ 60 ∧ i = .int .i64 k ∧ a = .int .i64 last ∧ 0 ≤ last ∧ Solo (fun b => w.heap.size ≤ b) (QueueAt g [] last) wr ∧ Below w.heap.size w wr) (fun _ i _ => 60 - (intOf i).toNat)
  case atStart => exact ⟨0, 0, by omega, by omega, rfl, rfl, by omega, hs0, hg1⟩
  case round =>
    obtain ⟨k, last, hkn, hk60, rfl, rfl, hl0, hs, hb⟩ := hrel
    by_cases hk : k < n
    · by_cases hk6 : k < 60
      · obtain ⟨ad, u, rfl, hadB, hu, hc⟩ := hr.at_ hk
        rw [List.getElem?_map] at hu
        obtain ⟨z, _, rfl⟩ := Option.map_eq_some_iff.1 hu
        clear hu
        have hc := (hb.cell (p := ad.add k) (by rw [block_add]; exact hadB)).trans hc
        have ea := and255 z
        obtain ⟨s, HS⟩ : ∃ s : Int, Hid (s = z % 256) := ⟨_, rfl⟩
        have hsb : 0 ≤ s ∧ s ≤ 255 := by have := HS.out; omega
        rw [← HS.out] at ea
        obtain ⟨x, wa, HX, HA, hda, hsa, hba, _⟩ := beside_delta hs hb ⟨#[97, 61, 49]⟩ 1
        clear hs
        by_cases hls : last < s
        · have h1 : ¬ s < 1 := by omega
          have h2 : ¬ s ≤ last := by omega
          go_wp2_with fail
          rw [show ((1 : Nat) : Int) = 1 from rfl] at HA
          rw [← HA.out, ← HX.out]
          refine (hsa.call (Add_ok _ _ g [] last s _ 1 1 [da] hda (by decide) (by decide) (by omega) (by omega) (by decide) (by decide) (by decide))).mono ?_
          rintro e w3 ⟨rfl, hj3, hs3⟩
          have hb3 := hba.trans (hj3.below (fun _ h => h.1) hba.size)
          clear hj3 hsa hda hba
          go_wp2_with fail
          go_at_call 10
          refine (hs3.call (Done_at _ g _ s s true [] (by simp [doneB, doneL, isSeq, List.eraseP_cons]))).mono ?_
          rintro e w4 ⟨rfl, hj4, hs4⟩
          have hb4 := hb3.trans (hj4.below (fun _ h => h.1) hb3.size)
          clear hj4 hs3 hb3
          go_wp2_with fail
          go_roundw
          case rel => exact ⟨k + 1, s, by omega, by omega, by go_num, rfl, by omega, Solo.wide hs4 fun b hb => hb.1, hb4⟩
          case measure => simp [intOf]; omega
        · go_wp2_with fail
          rw [show ((1 : Nat) : Int) = 1 from rfl] at HA
          rw [← HA.out, ← HX.out]
          refine (hsa.call (Add_no _ g [] last s _ 1 1 (.inr (by omega)))).mono ?_
          rintro e w3 ⟨rfl, hj3, hs3⟩
          have hb3 := hba.trans (hj3.below (fun _ h => h.1) hba.size)
          clear hj3 hsa hda hba
          go_wp2_with fail
          go_roundw
          case rel => exact ⟨k + 1, last, by omega, by omega, by go_num, rfl, by omega, Solo.wide hs3 fun b hb => hb.1, hb3⟩
          case measure => simp [intOf]; omega
      · obtain rfl : k = 60 := by omega
        go_wp2_with (first
          | (go_at_call 11; refine (solo_look hs fun V h => Len_at wr g _ _ V h 0 rfl).mono ?_; rintro e w6 ⟨rfl, rfl⟩)
          | (go_at_call 12; refine (known_any _).mono ?_; rintro e w7 ⟨rfl, hg7⟩))
        go_ret
        exact ⟨rfl, below_trans hb hg7 hb.size⟩
    · go_wp2_with (first
          | (go_at_call 11; refine (solo_look hs fun V h => Len_at wr g _ _ V h 0 rfl).mono ?_; rintro e w6 ⟨rfl, rfl⟩)
          | (go_at_call 12; refine (known_any _).mono ?_; rintro e w7 ⟨rfl, hg7⟩))
      go_ret
      exact ⟨rfl, below_trans hb hg7 hb.size⟩
end Go.Proofs.Ytnlfkeajolfboaa
