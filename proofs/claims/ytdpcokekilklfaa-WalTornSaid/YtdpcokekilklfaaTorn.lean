/- WalTorn: its walk. -/
import Derived.Test.YtdpcokekilklfaaWsteps2
import Derived.Test.YtdpcokekilklfaaWithin
namespace Go.Proofs.Ytdpcokekilklfaa
open Go.RowKit Go.Hop
set_option maxRecDepth 100000 in
set_option maxHeartbeats 4000000 in
theorem torn_any (w : World) (A0 : Option Addr) (n0 c0 : Nat) (q : List Bx) (hq : Bxs w (fun b => b < w.heap.size) (fun b => b < w.heap.size) A0 n0 q) (hnc0 : n0 ≤ c0) (hm0 : c0 ≤ maxLen)
    (cut : Int) (hcut : -9223372036854775808 ≤ cut ∧ cut ≤ 9223372036854775807) :
    Calls Try.prog 5 #[.slice A0 n0 c0, .int .i64 cut] w fun e w' => e = .returned (.bool true) ∧ Grow w w' := by
  have kc := conv_const
  have hfl : (frame [116, 104, 101, 32, 108, 97, 115, 116, 32, 111, 110, 101]).length = 17 := frame_small (by decide)
  obtain ⟨P, HP⟩ : ∃ P : Nat → Prop, Hid (P = fun b => w.heap.size ≤ b) := ⟨_, rfl⟩
  obtain ⟨N, hN0, hN1, hN2⟩ : ∃ N : Nat, N ≤ n0 ∧ N ≤ 8 ∧ (N = n0 ∨ N = 8) := ⟨min n0 8, by omega, by omega, by omega⟩
  have hmn : ∀ (ts : Array TypeId) (t : TypeId) (w : World), (Builtin.min_ ts t #[.int .i64 (n0 : Int), .int .i64 8]).run Try.prog w = .ok (.int .i64 (N : Int)) w := fun ts t w => by
    rw [run_min_int2]
    congr 2
    split <;> omega
  have hql := hq.len
  obtain ⟨xs, HX⟩ : ∃ xs, Hid (xs = trims 50 q N) := ⟨_, rfl⟩
  have hxn : xs.length = N := by rw [HX.out]; exact trims_len (by omega)
  have hxl : ∀ x ∈ xs, x.length ≤ 50 := by rw [HX.out]; exact trims_le
  have hxl6 : ∀ x ∈ xs, x.length ≤ 65536 := fun x hx => Nat.le_trans (hxl x hx) (by omega)
  have hrs : ∀ j, j ≤ 1000 → (rows xs j).length ≤ 133000 := fun j hj => rows_small (by omega) hxl hj
  go_enter Try.func5, Try.ntmps5
  go_wp2_with fail
  refine (New_any w).mono ?_
  rintro e w1 ⟨rfl, hD1, hg1⟩
  obtain ⟨d, hd⟩ : ∃ d : Nat, Hid (d = w.heap.size) := ⟨_, rfl⟩
  rw [← hd.out] at hD1 ⊢
  have hs1 : Solo P (DiskAt 44 d [] 0) w1 := Solo.make hD1 (fun b hb => by rw [HP.out]; exact Nat.le_trans hg1.size hb) (fun b hb => ⟨by rw [HP.out]; exact hb.1, hb.2⟩)
  have hb1 : Below w.heap.size w w1 := hg1
  clear hD1 hg1
  go_wp2_with fail
  refine (open_solo (fun _ _ h => h) hs1).mono ?_
  rintro e w2 ⟨ys, j, x, u, hS, rfl, hX, hj2, hs2⟩
  obtain ⟨rfl, rfl⟩ := hS.one scan_nil
  obtain ⟨A2, c2, q2, rfl, _, hm2, _, _⟩ := hX
  obtain rfl : q2 = [] := List.map_eq_nil_iff.1 hm2
  have hb2 := Below.trans hb1 (hj2.below (B := w.heap.size) (fun b hb => by rw [HP.out] at hb; exact hb) hb1.size)
  have hnn : (([] : List (List UInt8)).length : Int) = 0 := rfl
  have htk : List.take 0 ([] : List UInt8) = [] := rfl
  rw [hnn, htk] at hs2
  clear hS hm2 hs1 hj2
  go_wp2_with fail
  go_loopw [8, 9] (fun i _ wr => ∃ j : Nat, j ≤ N ∧ i = .int .i64 (j : Int) ∧ Solo P (LogAt x d (j : Int) (rows xs j) 0) wr ∧ Below w.heap.size w wr) (fun i _ _ => N - (intOf i).toNat)
  case atStart => exact ⟨0, by omega, rfl, hs2, hb2⟩
  case round =>
    clear hs2 hb2
    obtain ⟨j, hjN, rfl, hs4, hb4⟩ := hrel
    have hrj := hrs j (by omega)
    by_cases hj : j < N
    · have hj' : decide (j < n0) = true := decide_eq_true (by omega)
      have hj8 : decide ((j : Int) < 8) = true := decide_eq_true (by omega)
      obtain ⟨ad, hqj, rfl, hc0⟩ := rec1 (hq.grow hb4).row (k := j) (by omega)
      have hxj := trims_at (M := 50) (N := N) (q := q) (j := j) (by omega) hqj
      rw [← HX.out] at hxj
      have hb0 := ((hq.all _ (List.getElem_mem hqj)).grow hb4).bytes
      have hbc := (hq.all _ (List.getElem_mem hqj)).le
      generalize q[j] = b at hc0 hxj hb0 hbc
      have hc0 := hc0 _ (Grow.refl _)
      have hbl : (b.bs.take 50).length ≤ 50 := by rw [List.length_take]; omega
      have d1 := hj'
      by_cases hm : b.m ≤ 50
      · have hbt := hb0
        rw [← trim_le hb0 hm] at hbt
        go_wp2_with fail
        refine (append_solo (c := b.c) hs4 hbt (M := 50) (by omega) hbl (by omega) (by omega)).mono ?_
        rintro e w5 ⟨rfl, hj5, hs5⟩
        have hb5 := Below.trans hb4 (hj5.below (B := w.heap.size) (fun b hb => by rw [HP.out] at hb; exact hb) hb4.size)
        rw [← rows_next hxj] at hs5
        clear hs4 hbt hc0
        go_wp2_with fail
        go_roundw
        case rel => exact ⟨j + 1, by omega, by go_num, hs5, hb5⟩
        case measure => simp [intOf]; omega
      · have hbt := trim_gt hb0 (M := 50) (by omega)
        have hm' : 50 < b.m := by omega
        have hcc : ¬ b.c < 50 := by omega
        go_wp2_with fail
        refine (append_solo (c := b.c) hs4 hbt (M := 50) (by omega) hbl (by omega) (by omega)).mono ?_
        rintro e w5 ⟨rfl, hj5, hs5⟩
        have hb5 := Below.trans hb4 (hj5.below (B := w.heap.size) (fun b hb => by rw [HP.out] at hb; exact hb) hb4.size)
        rw [← rows_next hxj] at hs5
        clear hs4 hbt hc0
        go_wp2_with fail
        go_roundw
        case rel => exact ⟨j + 1, by omega, by go_num, hs5, hb5⟩
        case measure => simp [intOf]; omega
    · have hjN' : j = N := by omega
      subst hjN'
      rcases hN2 with h | h
      · have HJN := Lib.hid h
        clear h
        have hj' : decide (j < n0) = false := decide_eq_false (by have := HJN.out; omega)
        have hcs := hs4.call (lSync_any wr x d _ _ _)
        go_wp2_with fail
        refine hcs.mono ?_
        rintro e w5 ⟨rfl, hj5, hs5⟩
        have hb5 := Below.trans hb4 (hj5.below (B := w.heap.size) (fun b hb => by rw [HP.out] at hb; exact hb) hb4.size)
        obtain ⟨V5, hL5, _⟩ := solo_get hs5
        have hc5 := lBytes_any w5 x d _ _ _ V5 hL5
        clear hcs hs4 hj5
        go_wp2_with fail
        refine hc5.mono ?_
        rintro e w6 ⟨rfl, rfl⟩
        have hg7 : Grow w5 (w5.alloc (.cells #[.int .u8 116, .int .u8 104, .int .u8 101, .int .u8 32, .int .u8 108, .int .u8 97, .int .u8 115, .int .u8 116, .int .u8 32, .int .u8 111, .int .u8 110, .int .u8 101] 5 (12, 13))) := (Below.refl _ _).alloc (Nat.le_refl _) _
        have hc7 := append_solo (c := 12) (hs5.grow (LogAt.framed _ _ _ _ _) hg7) (lit_bytes w5 _ 12 [116, 104, 101, 32, 108, 97, 115, 116, 32, 111, 110, 101] (12, 13) rfl rfl) (M := 12) (by decide) (by decide) (by omega) (by omega)
        clear hc5 hL5 hs5
        go_wp2_with fail
        refine hc7.mono ?_
        rintro e w7 ⟨rfl, hj7, hs7⟩
        have hb7 := Below.trans (below_trans hb5 hg7 hb5.size) (hj7.below (B := w.heap.size) (fun b hb => by rw [HP.out] at hb; exact hb) (Nat.le_trans hb5.size hg7.size))
        clear hc7 hg7 hj7
        go_wp2_with fail
        refine (within_nat w7 cut 0 16 hcut (by omega) (by omega) (by omega)).mono ?_
        rintro e w8 ⟨kk, _, hk16, rfl, rfl⟩
        have hkn : keepN (rows xs j ++ frame [116, 104, 101, 32, 108, 97, 115, 116, 32, 111, 110, 101]) (rows xs j).length (kk : Int) = kk := by
          unfold keepN
          rw [List.length_append, hfl]
          omega
        have hc8 := hs7.call (LogAt.turn (x := x) (n := (j : Int) + 1) (Crash_any w7 d _ (rows xs j).length (kk : Int) (by omega)))
        rw [hkn] at hc8
        have hsc := cut_rows xs [116, 104, 101, 32, 108, 97, 115, 116, 32, 111, 110, 101] kk hxl6 (by rw [hfl]; omega)
        rw [show xs.flatMap frame = rows xs j by unfold rows; rw [List.take_of_length_le (by omega)]] at hsc
        have hcl : ((rows xs j ++ frame [116, 104, 101, 32, 108, 97, 115, 116, 32, 111, 110, 101]).take ((rows xs j).length + kk)).length = (rows xs j).length + kk := by rw [List.length_take, List.length_append, hfl]; omega
        clear hs7
        go_wp2_with fail
        refine hc8.mono ?_
        rintro e w9 ⟨rfl, hj9, hs9⟩
        have hb9 := Below.trans hb7 (hj9.below (B := w.heap.size) (fun b hb => by rw [HP.out] at hb; exact hb) hb7.size)
        obtain ⟨V9, hL9, hV9⟩ := solo_get hs9
        have hc10 := Torn_any w9 d _ _ V9 hL9.disk (fun b hb => (hV9 b hb).2)
        rw [hcl] at hc10
        clear hc8 hj9 hL9
        go_wp2_with fail
        refine hc10.mono ?_
        rintro e w10 ⟨zs, j9, hS, rfl, hg10⟩
        obtain ⟨rfl, rfl⟩ := hsc.one hS
        have hb10 := below_trans hb9 hg10 hb9.size
        have hs10 := hs9.grow (LogAt.framed _ _ _ _ _) hg10
        have hc11 := open_solo (fun _ _ h => LogAt.disk h) hs10
        have hkk : (((rows xs j).length + kk : Nat) : Int) - ((rows xs j).length : Int) = (kk : Int) := by omega
        rw [hkk]
        clear hc10 hs9 hS hg10 hs10 hV9
        go_wp2_with fail
        refine hc11.mono ?_
        rintro e w11 ⟨zs, j9, y, u, hS, rfl, hX, hj11, hs11⟩
        obtain ⟨rfl, rfl⟩ := hsc.one hS
        have hb11 := Below.trans hb10 (hj11.below (B := w.heap.size) (fun b hb => by rw [HP.out] at hb; exact hb) hb10.size)
        obtain ⟨A1, c1, rfl, hn1, hm1, _⟩ := xs_at hX
        have hop := hsc.opened
        rw [show xs.flatMap frame = rows xs j by unfold rows; rw [List.take_of_length_le (by omega)]] at hop
        rw [hop, hxn] at hs11
        rw [hxn]
        have hsc2 := scan_all xs hxl6
        rw [show xs.flatMap frame = rows xs j by unfold rows; rw [List.take_of_length_le (by omega)]] at hsc2
        obtain ⟨V11, hL11, hV11⟩ := solo_get hs11
        have hc12 := lBytes_any w11 y d _ _ _ V11 hL11
        have hc13 := Torn_any w11 d _ _ V11 hL11.disk (fun b hb => (hV11 b hb).2)
        clear hc11 hS hX hj11 hs11 hsc hop
        go_wp2_with fail
        refine hc12.mono ?_
        rintro e w12 ⟨rfl, rfl⟩
        clear hc12
        go_wp2_with fail
        refine hc13.mono ?_
        rintro e w13 ⟨zs, j9, hS, rfl, hg13⟩
        obtain ⟨rfl, rfl⟩ := hsc2.one hS
        have hb13 := below_trans hb11 hg13 hb11.size
        have hz0 : (((rows xs j).length : Nat) : Int) - ((rows xs j).length : Int) = 0 := by omega
        rw [hz0]
        clear hc13 hL11
        go_wp2_with (go_at_call 15; refine (known_any _).mono ?_; rintro e w14 ⟨rfl, hg14⟩)
        go_ret
        exact ⟨rfl, below_trans hb13 hg14 hb13.size⟩
      · have HJN := Lib.hid h
        clear h
        by_cases hjn : j < n0
        · have hj8 : decide ((j : Int) < 8) = false := decide_eq_false (by have := HJN.out; omega)
          have hj' : decide (j < n0) = true := decide_eq_true (by omega)
          have hcs := hs4.call (lSync_any wr x d _ _ _)
          go_wp2_with fail
          refine hcs.mono ?_
          rintro e w5 ⟨rfl, hj5, hs5⟩
          have hb5 := Below.trans hb4 (hj5.below (B := w.heap.size) (fun b hb => by rw [HP.out] at hb; exact hb) hb4.size)
          obtain ⟨V5, hL5, _⟩ := solo_get hs5
          have hc5 := lBytes_any w5 x d _ _ _ V5 hL5
          clear hcs hs4 hj5
          go_wp2_with fail
          refine hc5.mono ?_
          rintro e w6 ⟨rfl, rfl⟩
          have hg7 : Grow w5 (w5.alloc (.cells #[.int .u8 116, .int .u8 104, .int .u8 101, .int .u8 32, .int .u8 108, .int .u8 97, .int .u8 115, .int .u8 116, .int .u8 32, .int .u8 111, .int .u8 110, .int .u8 101] 5 (12, 13))) := (Below.refl _ _).alloc (Nat.le_refl _) _
          have hc7 := append_solo (c := 12) (hs5.grow (LogAt.framed _ _ _ _ _) hg7) (lit_bytes w5 _ 12 [116, 104, 101, 32, 108, 97, 115, 116, 32, 111, 110, 101] (12, 13) rfl rfl) (M := 12) (by decide) (by decide) (by omega) (by omega)
          clear hc5 hL5 hs5
          go_wp2_with fail
          refine hc7.mono ?_
          rintro e w7 ⟨rfl, hj7, hs7⟩
          have hb7 := Below.trans (below_trans hb5 hg7 hb5.size) (hj7.below (B := w.heap.size) (fun b hb => by rw [HP.out] at hb; exact hb) (Nat.le_trans hb5.size hg7.size))
          clear hc7 hg7 hj7
          go_wp2_with fail
          refine (within_nat w7 cut 0 16 hcut (by omega) (by omega) (by omega)).mono ?_
          rintro e w8 ⟨kk, _, hk16, rfl, rfl⟩
          have hkn : keepN (rows xs j ++ frame [116, 104, 101, 32, 108, 97, 115, 116, 32, 111, 110, 101]) (rows xs j).length (kk : Int) = kk := by
            unfold keepN
            rw [List.length_append, hfl]
            omega
          have hc8 := hs7.call (LogAt.turn (x := x) (n := (j : Int) + 1) (Crash_any w7 d _ (rows xs j).length (kk : Int) (by omega)))
          rw [hkn] at hc8
          have hsc := cut_rows xs [116, 104, 101, 32, 108, 97, 115, 116, 32, 111, 110, 101] kk hxl6 (by rw [hfl]; omega)
          rw [show xs.flatMap frame = rows xs j by unfold rows; rw [List.take_of_length_le (by omega)]] at hsc
          have hcl : ((rows xs j ++ frame [116, 104, 101, 32, 108, 97, 115, 116, 32, 111, 110, 101]).take ((rows xs j).length + kk)).length = (rows xs j).length + kk := by rw [List.length_take, List.length_append, hfl]; omega
          clear hs7
          go_wp2_with fail
          refine hc8.mono ?_
          rintro e w9 ⟨rfl, hj9, hs9⟩
          have hb9 := Below.trans hb7 (hj9.below (B := w.heap.size) (fun b hb => by rw [HP.out] at hb; exact hb) hb7.size)
          obtain ⟨V9, hL9, hV9⟩ := solo_get hs9
          have hc10 := Torn_any w9 d _ _ V9 hL9.disk (fun b hb => (hV9 b hb).2)
          rw [hcl] at hc10
          clear hc8 hj9 hL9
          go_wp2_with fail
          refine hc10.mono ?_
          rintro e w10 ⟨zs, j9, hS, rfl, hg10⟩
          obtain ⟨rfl, rfl⟩ := hsc.one hS
          have hb10 := below_trans hb9 hg10 hb9.size
          have hs10 := hs9.grow (LogAt.framed _ _ _ _ _) hg10
          have hc11 := open_solo (fun _ _ h => LogAt.disk h) hs10
          have hkk : (((rows xs j).length + kk : Nat) : Int) - ((rows xs j).length : Int) = (kk : Int) := by omega
          rw [hkk]
          clear hc10 hs9 hS hg10 hs10 hV9
          go_wp2_with fail
          refine hc11.mono ?_
          rintro e w11 ⟨zs, j9, y, u, hS, rfl, hX, hj11, hs11⟩
          obtain ⟨rfl, rfl⟩ := hsc.one hS
          have hb11 := Below.trans hb10 (hj11.below (B := w.heap.size) (fun b hb => by rw [HP.out] at hb; exact hb) hb10.size)
          obtain ⟨A1, c1, rfl, hn1, hm1, _⟩ := xs_at hX
          have hop := hsc.opened
          rw [show xs.flatMap frame = rows xs j by unfold rows; rw [List.take_of_length_le (by omega)]] at hop
          rw [hop, hxn] at hs11
          rw [hxn]
          have hsc2 := scan_all xs hxl6
          rw [show xs.flatMap frame = rows xs j by unfold rows; rw [List.take_of_length_le (by omega)]] at hsc2
          obtain ⟨V11, hL11, hV11⟩ := solo_get hs11
          have hc12 := lBytes_any w11 y d _ _ _ V11 hL11
          have hc13 := Torn_any w11 d _ _ V11 hL11.disk (fun b hb => (hV11 b hb).2)
          clear hc11 hS hX hj11 hs11 hsc hop
          go_wp2_with fail
          refine hc12.mono ?_
          rintro e w12 ⟨rfl, rfl⟩
          clear hc12
          go_wp2_with fail
          refine hc13.mono ?_
          rintro e w13 ⟨zs, j9, hS, rfl, hg13⟩
          obtain ⟨rfl, rfl⟩ := hsc2.one hS
          have hb13 := below_trans hb11 hg13 hb11.size
          have hz0 : (((rows xs j).length : Nat) : Int) - ((rows xs j).length : Int) = 0 := by omega
          rw [hz0]
          clear hc13 hL11
          go_wp2_with (go_at_call 15; refine (known_any _).mono ?_; rintro e w14 ⟨rfl, hg14⟩)
          go_ret
          exact ⟨rfl, below_trans hb13 hg14 hb13.size⟩
        · skip
          have hj' : decide (j < n0) = false := decide_eq_false (by omega)
          have hcs := hs4.call (lSync_any wr x d _ _ _)
          go_wp2_with fail
          refine hcs.mono ?_
          rintro e w5 ⟨rfl, hj5, hs5⟩
          have hb5 := Below.trans hb4 (hj5.below (B := w.heap.size) (fun b hb => by rw [HP.out] at hb; exact hb) hb4.size)
          obtain ⟨V5, hL5, _⟩ := solo_get hs5
          have hc5 := lBytes_any w5 x d _ _ _ V5 hL5
          clear hcs hs4 hj5
          go_wp2_with fail
          refine hc5.mono ?_
          rintro e w6 ⟨rfl, rfl⟩
          have hg7 : Grow w5 (w5.alloc (.cells #[.int .u8 116, .int .u8 104, .int .u8 101, .int .u8 32, .int .u8 108, .int .u8 97, .int .u8 115, .int .u8 116, .int .u8 32, .int .u8 111, .int .u8 110, .int .u8 101] 5 (12, 13))) := (Below.refl _ _).alloc (Nat.le_refl _) _
          have hc7 := append_solo (c := 12) (hs5.grow (LogAt.framed _ _ _ _ _) hg7) (lit_bytes w5 _ 12 [116, 104, 101, 32, 108, 97, 115, 116, 32, 111, 110, 101] (12, 13) rfl rfl) (M := 12) (by decide) (by decide) (by omega) (by omega)
          clear hc5 hL5 hs5
          go_wp2_with fail
          refine hc7.mono ?_
          rintro e w7 ⟨rfl, hj7, hs7⟩
          have hb7 := Below.trans (below_trans hb5 hg7 hb5.size) (hj7.below (B := w.heap.size) (fun b hb => by rw [HP.out] at hb; exact hb) (Nat.le_trans hb5.size hg7.size))
          clear hc7 hg7 hj7
          go_wp2_with fail
          refine (within_nat w7 cut 0 16 hcut (by omega) (by omega) (by omega)).mono ?_
          rintro e w8 ⟨kk, _, hk16, rfl, rfl⟩
          have hkn : keepN (rows xs j ++ frame [116, 104, 101, 32, 108, 97, 115, 116, 32, 111, 110, 101]) (rows xs j).length (kk : Int) = kk := by
            unfold keepN
            rw [List.length_append, hfl]
            omega
          have hc8 := hs7.call (LogAt.turn (x := x) (n := (j : Int) + 1) (Crash_any w7 d _ (rows xs j).length (kk : Int) (by omega)))
          rw [hkn] at hc8
          have hsc := cut_rows xs [116, 104, 101, 32, 108, 97, 115, 116, 32, 111, 110, 101] kk hxl6 (by rw [hfl]; omega)
          rw [show xs.flatMap frame = rows xs j by unfold rows; rw [List.take_of_length_le (by omega)]] at hsc
          have hcl : ((rows xs j ++ frame [116, 104, 101, 32, 108, 97, 115, 116, 32, 111, 110, 101]).take ((rows xs j).length + kk)).length = (rows xs j).length + kk := by rw [List.length_take, List.length_append, hfl]; omega
          clear hs7
          go_wp2_with fail
          refine hc8.mono ?_
          rintro e w9 ⟨rfl, hj9, hs9⟩
          have hb9 := Below.trans hb7 (hj9.below (B := w.heap.size) (fun b hb => by rw [HP.out] at hb; exact hb) hb7.size)
          obtain ⟨V9, hL9, hV9⟩ := solo_get hs9
          have hc10 := Torn_any w9 d _ _ V9 hL9.disk (fun b hb => (hV9 b hb).2)
          rw [hcl] at hc10
          clear hc8 hj9 hL9
          go_wp2_with fail
          refine hc10.mono ?_
          rintro e w10 ⟨zs, j9, hS, rfl, hg10⟩
          obtain ⟨rfl, rfl⟩ := hsc.one hS
          have hb10 := below_trans hb9 hg10 hb9.size
          have hs10 := hs9.grow (LogAt.framed _ _ _ _ _) hg10
          have hc11 := open_solo (fun _ _ h => LogAt.disk h) hs10
          have hkk : (((rows xs j).length + kk : Nat) : Int) - ((rows xs j).length : Int) = (kk : Int) := by omega
          rw [hkk]
          clear hc10 hs9 hS hg10 hs10 hV9
          go_wp2_with fail
          refine hc11.mono ?_
          rintro e w11 ⟨zs, j9, y, u, hS, rfl, hX, hj11, hs11⟩
          obtain ⟨rfl, rfl⟩ := hsc.one hS
          have hb11 := Below.trans hb10 (hj11.below (B := w.heap.size) (fun b hb => by rw [HP.out] at hb; exact hb) hb10.size)
          obtain ⟨A1, c1, rfl, hn1, hm1, _⟩ := xs_at hX
          have hop := hsc.opened
          rw [show xs.flatMap frame = rows xs j by unfold rows; rw [List.take_of_length_le (by omega)]] at hop
          rw [hop, hxn] at hs11
          rw [hxn]
          have hsc2 := scan_all xs hxl6
          rw [show xs.flatMap frame = rows xs j by unfold rows; rw [List.take_of_length_le (by omega)]] at hsc2
          obtain ⟨V11, hL11, hV11⟩ := solo_get hs11
          have hc12 := lBytes_any w11 y d _ _ _ V11 hL11
          have hc13 := Torn_any w11 d _ _ V11 hL11.disk (fun b hb => (hV11 b hb).2)
          clear hc11 hS hX hj11 hs11 hsc hop
          go_wp2_with fail
          refine hc12.mono ?_
          rintro e w12 ⟨rfl, rfl⟩
          clear hc12
          go_wp2_with fail
          refine hc13.mono ?_
          rintro e w13 ⟨zs, j9, hS, rfl, hg13⟩
          obtain ⟨rfl, rfl⟩ := hsc2.one hS
          have hb13 := below_trans hb11 hg13 hb11.size
          have hz0 : (((rows xs j).length : Nat) : Int) - ((rows xs j).length : Int) = 0 := by omega
          rw [hz0]
          clear hc13 hL11
          go_wp2_with (go_at_call 15; refine (known_any _).mono ?_; rintro e w14 ⟨rfl, hg14⟩)
          go_ret
          exact ⟨rfl, below_trans hb13 hg14 hb13.size⟩
end Go.Proofs.Ytdpcokekilklfaa
