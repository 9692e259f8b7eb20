/- Some runs that the chapter fixes. -/
import Derived.Test.YtdpcokekilklfaaWplain
import Derived.Lib.SlBytesConst
namespace Go.Proofs.Ytdpcokekilklfaa
open Go.RowKit Go.Hop
theorem lit_bytes (w : World) (cs : Array Value) (n : Nat) (l : List UInt8) (mk : Nat × Nat) (h : cs.size = n) (hc : cs.toList = u8s l) : Bytes (w.alloc (.cells cs 5 mk)) (w.alloc (.cells cs 5 mk)).heap.size (some ⟨w.heap.size, 0, none⟩) n l := by
  have := reads_laid w cs 5 mk (n := n) (size := 1) (by omega) _ rfl
  rw [hc] at this
  exact Reads.more this (by simp)
theorem xs_one {x : List UInt8} {w0 w : World} {u : Value} (h : IsXs [x] w0 u w) : ∃ (ad : Addr) (c : Nat) (A : Option Addr) (m cc : Nat), u = .slice (some ad) 1 c ∧ w.cell? ad = some (.slice A m cc) ∧ Bytes w w.heap.size A m x := by
  obtain ⟨A, c, q, rfl, hB, hq, _, _⟩ := h
  obtain ⟨b, rfl, rfl⟩ : ∃ b, q = [b] ∧ b.bs = x := by
    rcases q with _ | ⟨b, _ | ⟨b', q⟩⟩
    · cases hq
    · exact ⟨b, rfl, by simpa using hq⟩
    · simp at hq
  obtain ⟨ad, hq0, rfl, _, _, e0, _⟩ := hB.row.rec_ (by omega) bx_len (k := 0) (by simp)
  refine ⟨ad, c, b.A, b.m, b.c, rfl, ?_, (hB.all b (by simp)).bytes⟩
  have := e0 _ rfl
  rwa [Nat.zero_mul, Addr.add_zero'] at this
set_option maxRecDepth 100000 in
set_option maxHeartbeats 4000000 in
theorem known_any (w : World) : Calls Try.prog 15 #[] w fun e w' => e = .returned (.bool true) ∧ Grow w w' := by
  have kc := conv_const
  have hf1 : (frame [111, 110, 101]).length = 8 := frame_small (by decide)
  have hf2 : (frame [116, 119, 111]).length = 8 := frame_small (by decide)
  obtain ⟨P, HP⟩ : ∃ P : Nat → Prop, Hid (P = fun b => w.heap.size ≤ b) := ⟨_, rfl⟩
  go_enter Try.func15, Try.ntmps15
  go_wp2_with fail
  refine (New_any w).mono ?_
  rintro e w1 ⟨rfl, hD1, hg1⟩
  obtain ⟨d, hd⟩ : ∃ d : Nat, Hid (d = w.heap.size) := ⟨_, rfl⟩
  rw [← hd.out] at hD1 ⊢
  have hs1 : Solo P (DiskAt 44 d [] 0) w1 := Solo.make hD1 (fun b hb => by rw [HP.out]; exact Nat.le_trans hg1.size hb) (fun b hb => ⟨by rw [HP.out]; exact hb.1, hb.2⟩)
  have hb1 : Below w.heap.size w w1 := hg1
  clear hD1
  go_wp2_with fail
  refine (open_solo (fun _ _ h => h) hs1).mono ?_
  rintro e w2 ⟨xs, j, x, u, hS, rfl, hX, hj2, hs2⟩
  obtain ⟨rfl, rfl⟩ := hS.one scan_nil
  obtain ⟨A2, c2, q2, rfl, _, hm2, _, _⟩ := hX
  obtain rfl : q2 = [] := List.map_eq_nil_iff.1 hm2
  have hb2 := Below.trans hb1 (hj2.below (B := w.heap.size) (fun b hb => by rw [HP.out] at hb; exact hb) hb1.size)
  clear hS hm2 hs1 hj2 hg1
  have hnn : (([] : List (List UInt8)).length : Int) = 0 := rfl
  have htk : List.take 0 ([] : List UInt8) = [] := rfl
  rw [hnn, htk] at hs2
  obtain ⟨hr1, hr2⟩ := rec_ok (l := []) (b := [111, 110, 101]) (by decide) (by rw [hf1]; decide)
  obtain ⟨hr3, hr4⟩ := rec_ok (l := frame [111, 110, 101]) (b := [116, 119, 111]) (by decide) (by rw [hf1, hf2]; decide)
  rw [List.nil_append] at hr2
  have hg3 : Grow w2 (w2.alloc (.cells #[.int .u8 111, .int .u8 110, .int .u8 101] 5 (3, 4))) := (Below.refl _ _).alloc (Nat.le_refl _) _
  have hc3 := (hs2.grow (LogAt.framed _ _ _ _ _) hg3).call (lAppend_any _ x d 0 [] 0 (some ⟨w2.heap.size, 0, none⟩) 3 3 [111, 110, 101] (lit_bytes w2 _ 3 _ (3, 4) rfl rfl) (by decide))
  rw [hr1, if_pos rfl, hr2] at hc3
  go_wp2_with fail
  refine hc3.mono ?_
  rintro e w3 ⟨rfl, hj3, hs3⟩
  have hb3 := Below.trans (below_trans hb2 hg3 hb2.size) (hj3.below (B := w.heap.size) (fun b hb => by rw [HP.out] at hb; exact hb) (Nat.le_trans hb2.size hg3.size))
  have hc4 := hs3.call (lSync_any w3 x d _ _ _)
  clear hc3 hg3 hs2 hj3
  rw [hf1] at hc4
  go_wp2_with fail
  refine hc4.mono ?_
  rintro e w4 ⟨rfl, hj4, hs4⟩
  have hb4 := Below.trans hb3 (hj4.below (B := w.heap.size) (fun b hb => by rw [HP.out] at hb; exact hb) hb3.size)
  have hg5 : Grow w4 (w4.alloc (.cells #[.int .u8 116, .int .u8 119, .int .u8 111] 5 (3, 4))) := (Below.refl _ _).alloc (Nat.le_refl _) _
  have hc5 := (hs4.grow (LogAt.framed _ _ _ _ _) hg5).call (lAppend_any _ x d (0 + 1) (frame [111, 110, 101]) 8 (some ⟨w4.heap.size, 0, none⟩) 3 3 [116, 119, 111] (lit_bytes w4 _ 3 _ (3, 4) rfl rfl) (by decide))
  rw [hr3, if_pos rfl, hr4] at hc5
  clear hc4 hs3 hj4
  go_wp2_with fail
  refine hc5.mono ?_
  rintro e w5 ⟨rfl, hj5, hs5⟩
  have hb5 := Below.trans (below_trans hb4 hg5 hb4.size) (hj5.below (B := w.heap.size) (fun b hb => by rw [HP.out] at hb; exact hb) (Nat.le_trans hb4.size hg5.size))
  obtain ⟨V5, hL5, _⟩ := solo_get hs5
  have hc6 := lLen_any w5 x d _ _ _ V5 hL5
  clear hc5 hg5 hs4 hj5 hr1 hr2 hr3 hr4
  go_wp2_with fail
  refine hc6.mono ?_
  rintro e w6 ⟨rfl, rfl⟩
  have hll : (frame [111, 110, 101] ++ frame [116, 119, 111]).length = 16 := by rw [List.length_append, hf1, hf2]
  have hk3 : 8 + keepN (frame [111, 110, 101] ++ frame [116, 119, 111]) 8 3 = (frame [111, 110, 101]).length + 3 := by
    unfold keepN
    rw [hll, hf1]
    decide
  have hc7 := hs5.call (LogAt.turn (x := x) (n := 0 + 1 + 1) (Crash_any w5 d _ 8 3 (by decide)))
  rw [hk3] at hc7
  have hcut := cut_one [111, 110, 101] [116, 119, 111] 3 (by decide) (by rw [hf2]; decide)
  rw [hf1] at hc7 hcut
  clear hc6 hL5
  go_wp2_with fail
  refine hc7.mono ?_
  rintro e w7 ⟨rfl, hj7, hs7⟩
  have hb7 := Below.trans hb5 (hj7.below (B := w.heap.size) (fun b hb => by rw [HP.out] at hb; exact hb) hb5.size)
  have hl7 : ((frame [111, 110, 101] ++ frame [116, 119, 111]).take (8 + 3)).length = 11 := by rw [List.length_take, hll]; decide
  generalize (frame [111, 110, 101] ++ frame [116, 119, 111]).take (8 + 3) = l7 at hs7 hl7 hcut
  obtain ⟨V7, hL7, hV7⟩ := solo_get hs7
  have hc8 := Torn_any w7 d _ _ V7 hL7.disk (fun b hb => (hV7 b hb).2)
  rw [hl7] at hc8
  clear hc7 hs5 hj7
  go_wp2_with fail
  refine hc8.mono ?_
  rintro e w8 ⟨xs, j, hS, rfl, hg8⟩
  obtain ⟨rfl, rfl⟩ := hS.one hcut
  have hb8 := below_trans hb7 hg8 hb7.size
  have hs8 := hs7.grow (LogAt.framed _ _ _ _ _) hg8
  have hc9 := open_solo (fun _ _ h => LogAt.disk h) hs8
  clear hc8 hL7 hV7 hs7 hS
  go_wp2_with fail
  refine hc9.mono ?_
  rintro e w9 ⟨xs, j, y, u, hS, rfl, hX, hj9, hs9⟩
  obtain ⟨rfl, rfl⟩ := hS.one hcut
  have hb9 := Below.trans hb8 (hj9.below (B := w.heap.size) (fun b hb => by rw [HP.out] at hb; exact hb) hb8.size)
  obtain ⟨ad, c9, A9, m9, cc9, rfl, e9, hR9⟩ := xs_one hX
  have hl9 : (l7.take 8).length = 8 := by rw [List.length_take, hl7]; rfl
  have hS9 : ScanIs (l7.take 8) [[111, 110, 101]] 8 := by
    have := scan_all [[111, 110, 101]] (by decide)
    rw [← hcut.opened] at this
    rwa [hl9] at this
  obtain ⟨V9, hL9, hV9⟩ := solo_get hs9
  have hc10 := Torn_any w9 d _ _ V9 hL9.disk (fun b hb => (hV9 b hb).2)
  rw [hl9] at hc10
  have hcv := conv_bytes w9 (c := cc9) hR9
  clear hc9 hX hs8 hS hj9 hs9
  go_wp2_with fail
  refine hc10.mono ?_
  rintro e w10 ⟨xs, j, hS, rfl, hg10⟩
  obtain ⟨rfl, rfl⟩ := hS.one hS9
  have hb10 := below_trans hb9 hg10 hb9.size
  have hL10 := LogAt.framed _ _ _ _ _ w9 w10 V9 hL9 fun b hb => hg10.block b (hV9 b hb).2
  have hc11 := lLen_any w10 y d _ _ _ V9 hL10
  have hc12 := lBytes_any w10 y d _ _ _ V9 hL10
  rw [hl9] at hc12
  have hc13 := Torn_nil w10
  clear hc10 hS
  go_wp2_with fail
  refine hc11.mono ?_
  rintro e w11 ⟨rfl, rfl⟩
  go_wp2_with fail
  refine hc12.mono ?_
  rintro e w12 ⟨rfl, rfl⟩
  go_wp2_with fail
  refine hc13.mono ?_
  rintro e w13 ⟨rfl, rfl⟩
  go_wp2_with fail
  go_ret
  exact ⟨rfl, hb10⟩
end Go.Proofs.Ytdpcokekilklfaa
