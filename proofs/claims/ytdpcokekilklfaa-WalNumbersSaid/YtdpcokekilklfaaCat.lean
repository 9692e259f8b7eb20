/- slices.Grow from nothing, slices.Concat. -/
import Derived.Test.YtdpcokekilklfaaBts
import Derived.Test.YtdpcokekilklfaaRecs
import Derived.Lib.AppendZeros
namespace Go.Proofs.Ytdpcokekilklfaa
open Go.RowKit Go.Hop
theorem grow_any (w : World) (n : Nat) (hn : n ≤ 140737488355328) :
    Calls Try.prog 49 #[.slice none 0 0, .int .i64 (n : Int)] w fun e w' => ∃ v, e = .returned v ∧ Own w' (New w w') 5 1 v 0 [] ∧ Grow w w' := by
  rcases Nat.eq_zero_or_pos n with h0 | h0
  · subst h0
    go_enter Try.func49, Try.ntmps49
    go_wp2_with fail
    go_ret
    exact ⟨_, rfl, Own.nil, Grow.refl _⟩
  · have hpos : (0 : Int) < (n : Int) := by omega
    have hneg : ¬ (n : Int) < 0 := by omega
    obtain ⟨i, hi, hz, hs, hb⟩ := u8E.info
    go_enter Try.func49, Try.ntmps49
    go_wp2_with (at_builtin; refine Lib.wpList_append_run _ rfl _ _ _ _ rfl _ _ rfl rfl _ _ (Lib.run_append_nil_zeros _ 29 3 _ 5 i (.int .u8 0) .i64 .i64 Try.underlying29 Try.underlying3 hi hz n h0 (by omega) (by omega) (by rw [hb]; omega)) ?_)
    have hge := grownCap_ge w n 0 5
    have hle : grownCap w n 0 5 ≤ maxLen := grownCap_le_maxLen w n 0 5 (by unfold maxLen; omega)
    generalize grownCap w n 0 5 = cap at hge hle
    have hcs : (Builtin.zeroCells #[Value.int .u8 0] n ++ Builtin.zeroCells #[Value.int .u8 0] (cap - n)).size = cap := by
      rw [Array.size_append, size_zeroCells, size_zeroCells, show (#[Value.int .u8 0] : Array Value).size = 1 from rfl]; omega
    generalize Builtin.zeroCells #[Value.int .u8 0] n ++ Builtin.zeroCells #[Value.int .u8 0] (cap - n) = cur at hcs
    have hc0 : ¬ cap < 0 := by omega
    go_wp2_with fail
    go_ret
    refine ⟨_, rfl, ⟨rfl, .inr ⟨w.heap.size, cap, cur, rfl, ⟨Nat.le_refl _, by simp⟩, ?_, Nat.zero_le _, hle, by omega, by simp⟩⟩, Grow.drew ((Below.refl _ _).alloc (Nat.le_refl _) _)⟩
    exact heap_alloc_new w _
/-- bytes, as they lie in memory -/
structure Bx where
  A : Option Addr
  m : Nat
  c : Nat
  bs : List UInt8
def Bx.cells (b : Bx) : List Value := [.slice b.A b.m b.c]
theorem bx_len (b : Bx) : b.cells.length = 1 := rfl
theorem bx_one (b : Bx) : ∀ u ∈ b.cells, u.oneCell' = true := by
  intro u hu
  simp only [Bx.cells, List.mem_cons, List.not_mem_nil, or_false] at hu
  rw [hu]; rfl
theorem flat_more {α β : Type} (f : α → List β) (q : List α) {k : Nat} (hk : k < q.length) : (q.take (k + 1)).flatMap f = (q.take k).flatMap f ++ f q[k] := by
  rw [List.take_succ_eq_append_getElem hk, List.flatMap_append, List.flatMap_cons, List.flatMap_nil, List.append_nil]
theorem flat_le {α β : Type} (f : α → List β) (q : List α) (k : Nat) : ((q.take k).flatMap f).length ≤ (q.flatMap f).length := by
  conv => rhs; rw [← List.take_append_drop k q]
  rw [List.flatMap_append, List.length_append]; omega
def blen (q : List Bx) : Nat := (q.flatMap Bx.bs).length
theorem concat_any (w : World) (A : Option Addr) (n c : Nat) (q : List Bx) (hR : Reads w w.heap.size 1 A n (q.flatMap Bx.cells)) (hb : ∀ b ∈ q, Bytes w w.heap.size b.A b.m b.bs) (hT : blen q ≤ 1099511627776) (hn : n ≤ 1099511627776) :
    Calls Try.prog 42 #[.slice A n c] w fun e w' => ∃ v, e = .returned v ∧ Own w' (New w w') 5 1 v (blen q) (u8s (q.flatMap Bx.bs)) ∧ Grow w w' := by
  have hI : In w (fun _ => True) 1 A n (q.flatMap Bx.cells) := Reads.in_ hR (Nat.le_refl _) fun _ _ => trivial
  have hql : q.length = n := by have := hR.1; rw [flat_length Bx.cells 1 bx_len] at this; omega
  go_enter Try.func42, Try.ntmps42
  go_wp2_with fail
  go_loopw [3, 11] (fun s i wr => ∃ k : Nat, k ≤ n ∧ i = .int .i64 (k : Int) ∧ s = .int .i64 (blen (q.take k) : Int) ∧ w = wr) (fun _ i _ => n - (intOf i).toNat)
  case atStart => exact ⟨0, by omega, rfl, rfl, rfl⟩
  case round =>
    obtain ⟨k, hkn, rfl, rfl, rfl⟩ := hrel
    by_cases hk : k < n
    · obtain ⟨ad, hq, rfl, _, _, e0, _⟩ := hI.rec_ (by omega) bx_len hk
      have e0 := e0 _ rfl
      rw [Nat.mul_one] at e0
      have hbk := hb _ (List.getElem_mem hq)
      have hL : blen (q.take (k + 1)) = blen (q.take k) + q[k].m := by
        unfold blen; rw [flat_more Bx.bs q hq, List.length_append, Bytes.len hbk]
      have hle : blen (q.take (k + 1)) ≤ blen q := flat_le Bx.bs q (k + 1)
      have HL := Lib.hid hL
      have HLE := Lib.hid (show blen (q.take k) + q[k].m ≤ 1099511627776 by omega)
      clear hL hle hbk
      generalize q[k] = b at e0 HL HLE
      obtain ⟨Ab, mb, cb, bs⟩ := b
      dsimp only at e0 HL HLE
      generalize blen (q.take k) = s at HL HLE
      have hw1 : IntKind.i64.wrap ((s : Int) + (mb : Int)) = (s : Int) + (mb : Int) := by have := HLE.out; rw [IntKind.wrap_i64]; omega
      have hs0 : ¬ (s : Int) + (mb : Int) < 0 := by omega
      go_wp2_with fail
      go_roundw
      case rel => exact ⟨k + 1, by omega, by go_num, by rw [HL.out]; push_cast; rfl, by trivial⟩
      case measure => simp [intOf]; omega
    · obtain rfl : k = n := by omega
      have hqt : q.take k = q := List.take_of_length_le (by omega)
      rw [hqt]
      go_wp2_with fail
      go_at_call 49
      refine (grow_any w _ (by omega)).mono ?_
      rintro e w1 ⟨v, rfl, hO1, hg1⟩
      go_wp2_with fail
      go_loopw [6, 27] (fun v i wr => ∃ j : Nat, j ≤ k ∧ i = .int .i64 (j : Int) ∧ Own wr (New w wr) 5 1 v (blen (q.take j)) (u8s ((q.take j).flatMap Bx.bs)) ∧ Grow w wr) (fun _ i _ => k - (intOf i).toNat)
      case atStart => exact ⟨0, by omega, rfl, hO1, hg1⟩
      case round =>
        obtain ⟨j, hjk, rfl, hO, hg⟩ := hrel
        by_cases hj : j < k
        · obtain ⟨ad, hq, rfl, _, _, e0, _⟩ := (hI.grow hg).rec_ (by omega) bx_len hj
          have e0 := e0 _ rfl
          rw [Nat.mul_one] at e0
          have hbk := (hb _ (List.getElem_mem hq)).below hg
          have hF := flat_more Bx.bs q hq
          have hL : blen (q.take (j + 1)) = blen (q.take j) + q[j].m := by
            unfold blen; rw [hF, List.length_append, Bytes.len hbk]
          have hle : blen (q.take (j + 1)) ≤ blen q := flat_le Bx.bs q (j + 1)
          have HF := Lib.hid hF
          have HLE := Lib.hid (show blen (q.take j) + q[j].m ≤ 1099511627776 by omega)
          have HL := Lib.hid hL
          clear hF hle hL
          generalize q[j] = b at e0 HF HLE hbk HL
          obtain ⟨Ab, mb, cb, bs⟩ := b
          dsimp only at e0 HF HLE hbk HL
          go_wp2_with (at_builtin; refine stay ?_)
          refine stay_out ?_
          refine wpList_own (V := New w wr) u8E _ rfl (.tmp 31) (.tmp 32) rfl _ _ _ rfl hO w.heap.size Ab mb cb (u8s bs) rfl hbk u8s_one (by have := HLE.out; omega) ?_
          intro v2 w2 hO2 hj2
          rw [← u8s_append, ← HF.out, ← HL.out] at hO2
          obtain ⟨hO2, hg2⟩ := own_more hg hO2 hj2
          clear hj2 hO hbk
          go_wp2_with fail
          go_roundw
          case rel => exact ⟨j + 1, by omega, by go_num, hO2, hg2⟩
          case measure => simp [intOf]; omega
        · obtain rfl : j = k := by omega
          rw [hqt] at hO
          go_wp2_with fail
          go_ret
          exact ⟨_, rfl, hO, hg⟩
end Go.Proofs.Ytdpcokekilklfaa
