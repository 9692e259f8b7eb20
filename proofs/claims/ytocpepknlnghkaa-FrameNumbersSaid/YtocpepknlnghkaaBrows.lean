/- Frames in a row, made. -/
import Derived.Test.YtocpepknlnghkaaBrow
namespace Go.Proofs.Ytocpepknlnghkaa
open Go.RowKit Go.Hop
theorem frame_le (x : List UInt8) (h : x.length ≤ 65536) : (frame x).length ≤ x.length + 14 := by
  have := enc_ten (n := x.length) (by omega)
  rw [frame_len]; omega
set_option maxRecDepth 100000 in
theorem row_any (w : World) (A : Option Addr) (n c : Nat) (q : List Bx) (hq : Bxs w (fun b => b < w.heap.size) (fun b => b < w.heap.size) A n q) (hnc : n ≤ c) (hcm : c ≤ maxLen) :
    Calls Try.prog 8 #[.slice A n c] w fun e w' => ∃ v l, e = .returned v ∧ Own w' (New w w') 5 1 v l.length (u8s l) ∧ l.length ≤ 384 ∧ Grow w w' := by
  unfold maxLen at hcm
  go_enter Try.func8, Try.ntmps8
  go_wp2_with fail
  go_loopw [3, 4] (fun s i wr => ∃ (k : Nat) (ys : List UInt8), k ≤ n ∧ k ≤ 6 ∧ i = .int .i64 (k : Int) ∧ ys.length ≤ 64 * k ∧ Own wr (New w wr) 5 1 s ys.length (u8s ys) ∧ Grow w wr) (fun _ i _ => 6 - (intOf i).toNat)
  case atStart => exact ⟨0, [], by omega, by omega, rfl, by simp, Own.nil, Grow.refl _⟩
  case round =>
    obtain ⟨k, ys, hkn, hk6, rfl, hy, hO, hg⟩ := hrel
    obtain ⟨As, cs, rfl, _, _, _⟩ := hO.reads
    have hsr := hg.size
    by_cases hk : k < n
    · have hk' : decide ((k : Int) < (n : Int)) = true := decide_eq_true (by omega)
      by_cases h6 : k < 6
      · have h6' : decide ((k : Int) < (6 : Int)) = true := decide_eq_true (by omega)
        obtain ⟨ad, hkq, rfl, e0⟩ := rec1 (hq.grow hg).row hk
        have e0 := e0 wr (Grow.refl _)
        have hx := (hq.all _ (List.getElem_mem hkq)).grow hg
        generalize q[k] = b at e0 hx
        obtain ⟨Ab, m, cb, bs⟩ := b
        have hml := hx.len
        have hle := hx.le
        have hbs := hx.bytes
        dsimp only at e0 hml hbs hle
        by_cases h50 : 50 < m
        · have h50' : decide ((50 : Int) < (m : Int)) = true := decide_eq_true (by omega)
          have hbb : Bytes wr wr.heap.size Ab 50 (bs.take 50) := by
            have := Reads.take hbs (k := 50) (by omega)
            unfold Bytes; rw [u8s_take]; exact this
          have hfl := frame_le (bs.take 50) (by rw [List.length_take]; omega)
          rw [List.length_take, Nat.min_eq_left (show 50 ≤ bs.length by omega)] at hfl
          go_wp2_with fail
          go_at_call 11
          refine (rFrame_any wr _ 50 _ (bs.take 50) hbb (by omega)).mono ?_
          rintro e w1 ⟨v1, rfl, hO1, hg1⟩
          obtain ⟨A1, c1, rfl, hR1, hn1, hm1⟩ := hO1.reads
          go_wp2_with (at_builtin; refine stay ?_)
          refine stay_out ?_
          refine wpList_own (V := New w w1) u8E _ rfl (.tmp 25) (.tmp 27) rfl (.slice As ys.length cs) ys.length (u8s ys) rfl ((Own.grow hO (fun b hb => hb.2) hg1).mono fun b hb => ⟨hb.1, by have := hb.2; have := hg1.size; omega⟩) w1.heap.size A1 _ c1 (u8s (frame (bs.take 50))) rfl hR1 u8s_one (by omega) ?_
          intro v2 w2 hO2 hj2
          obtain ⟨hO2, hg2⟩ := own_more (hg.trans hg1) hO2 hj2
          rw [← u8s_append, ← List.length_append] at hO2
          go_wp2_with fail
          go_roundw
          case rel => exact ⟨k + 1, ys ++ frame (bs.take 50), by omega, by omega, by go_num, by rw [List.length_append]; omega, hO2, hg2⟩
          case measure => simp [intOf]; omega
        · have h50' : decide ((50 : Int) < (m : Int)) = false := decide_eq_false (by omega)
          have hbb := hbs
          have hfl := frame_le bs (by omega)
          go_wp2_with fail
          go_at_call 11
          refine (rFrame_any wr _ m _ bs hbb (by omega)).mono ?_
          rintro e w1 ⟨v1, rfl, hO1, hg1⟩
          obtain ⟨A1, c1, rfl, hR1, hn1, hm1⟩ := hO1.reads
          go_wp2_with (at_builtin; refine stay ?_)
          refine stay_out ?_
          refine wpList_own (V := New w w1) u8E _ rfl (.tmp 25) (.tmp 27) rfl (.slice As ys.length cs) ys.length (u8s ys) rfl ((Own.grow hO (fun b hb => hb.2) hg1).mono fun b hb => ⟨hb.1, by have := hb.2; have := hg1.size; omega⟩) w1.heap.size A1 _ c1 (u8s (frame bs)) rfl hR1 u8s_one (by omega) ?_
          intro v2 w2 hO2 hj2
          obtain ⟨hO2, hg2⟩ := own_more (hg.trans hg1) hO2 hj2
          rw [← u8s_append, ← List.length_append] at hO2
          go_wp2_with fail
          go_roundw
          case rel => exact ⟨k + 1, ys ++ frame bs, by omega, by omega, by go_num, by rw [List.length_append]; omega, hO2, hg2⟩
          case measure => simp [intOf]; omega
      · have h6' : decide ((k : Int) < (6 : Int)) = false := decide_eq_false (by omega)
        go_wp2_with fail
        go_ret
        exact ⟨_, ys, rfl, hO, by omega, hg⟩
    · have hk' : decide ((k : Int) < (n : Int)) = false := decide_eq_false (by omega)
      go_wp2_with fail
      go_ret
      exact ⟨_, ys, rfl, hO, by omega, hg⟩
end Go.Proofs.Ytocpepknlnghkaa
