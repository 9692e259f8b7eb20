/- DiskNumbers: its walk. -/
import Derived.Test.YtedpcdliadfhgaaPlays
import Derived.Laws.OwnMore
namespace Go.Proofs.Ytedpcdliadfhgaa
open Go.RowKit Go.Hop
theorem reads_at {w w' : World} {B B' size n : Nat} {A : Option Addr} {xs : List Value} (h : Reads w B size A n xs) (hB : ∀ ad, A = some ad → ad.block < B → ad.block < B') (hk : ∀ ad, A = some ad → ad.block < B → w'.heap[ad.block]? = w.heap[ad.block]?) : Reads w' B' size A n xs :=
  ⟨h.1, fun hn => by
    obtain ⟨ad, e, hb, hc⟩ := h.2 hn
    exact ⟨ad, e, hB ad e hb, fun j u hu => by rw [World.cell?_of_block (a := ad.add j) (w := w) (by rw [block_add]; exact hk ad e hb)]; exact hc j u hu⟩⟩
/-- an ask whose bytes lie apart from V -/
def AskOff (w : World) (V : Nat → Prop) (a : Ask) : Prop := AskIn w w.heap.size a ∧ ∀ ad, a.A = some ad → ¬ V ad.block
theorem AskOff.keep {w w' : World} {V V' : Nat → Prop} {a : Ask} (h : AskOff w V a) (hj : Just V w w') (hV : ∀ b, b < w.heap.size → V' b → V b) (hz : a.m = 0 → a.A = none ∨ ∃ ad, a.A = some ad ∧ ad.block < w.heap.size) : AskOff w' V' a := by
  refine ⟨⟨reads_at h.1.bytes (fun ad _ hb => Nat.lt_of_lt_of_le hb hj.size) (fun ad e hb => hj.block _ hb (h.2 ad e)), h.1.le, h.1.max, h.1.kind, h.1.num⟩, fun ad e hv => ?_⟩
  refine h.2 ad e (hV _ ?_ hv)
  rcases Nat.eq_zero_or_pos a.m with h0 | h0
  · rcases hz h0 with h1 | ⟨ad', h1, h2⟩
    · rw [h1] at e; cases e
    · rw [h1] at e; injection e with e; rw [← e]; exact h2
  · obtain ⟨ad', e', hb, _⟩ := h.1.bytes.2 h0
    rw [e'] at e; injection e with e; rw [← e]; exact hb
def bigW (w : World) (ZZ : Array Value) : World := (((((w.alloc (.cells ZZ 5)).alloc (.cells #[.int .u8 97, .int .u8 98, .int .u8 99] 5 (3, 4))).alloc (.cells #[.int .u8 97, .int .u8 98] 5 (2, 3))).alloc (.cells #[.int .u8 97] 5 (1, 2))).alloc
  (.cells #[.int .i64 0, .slice (some ⟨w.heap.size + 1, 0, none⟩) 3 3, .int .i64 0, .int .i64 0, .slice (some ⟨w.heap.size + 1 + 1, 0, none⟩) 2 2, .int .i64 0, .int .i64 0, .slice (some ⟨w.heap.size + 1 + 1 + 1, 0, none⟩) 1 1, .int .i64 0, .int .i64 0, .slice none 0 0, .int .i64 0,
    .int .i64 4, .slice none 0 0, .int .i64 4611686018427387904, .int .i64 3, .slice none 0 0, .int .i64 1048576, .int .i64 3, .slice none 0 0, .int .i64 (-9223372036854775808)] 25))
theorem big_grow (w : World) (ZZ : Array Value) : Grow w (bigW w ZZ) := by
  unfold bigW
  exact (((((Below.refl w.heap.size w).alloc (Nat.le_refl _) _).alloc (by simp) _).alloc (by (try simp); (try omega)) _).alloc (by (try simp); (try omega)) _).alloc (by (try simp); (try omega)) _
theorem big_play (w : World) (ZZ : Array Value) (hZ : ZZ = madeCells #[.int .u8 0] 1048574) :
    Calls Try.prog 7 #[.slice (some ⟨w.heap.size, 0, none⟩) 1048574 1048574, .slice (some ⟨w.heap.size + 1 + 1 + 1 + 1, 0, none⟩) 7 7] (bigW w ZZ) fun e w' => e = .returned (.bool true) ∧ Grow (bigW w ZZ) w' := by
  have hz : ZZ.toList = u8s (List.replicate 1048574 0) := by
    rw [hZ, toList_madeCells_one]; unfold u8s; rw [List.map_replicate]; rfl
  have hzs : ZZ.size = 1048574 * 1 := by rw [hZ, size_madeCells]
  have r0 := reads_laid w ZZ 5 (0, 0) (n := 1048574) (size := 1) hzs _ rfl
  rw [hz] at r0
  have r1 : Bytes (bigW w ZZ) (bigW w ZZ).heap.size (some ⟨w.heap.size, 0, none⟩) 1048574 (List.replicate 1048574 0) :=
    Reads.more ((((Reads.alloc r0 (by simp) _).alloc (by (try simp); (try omega)) _).alloc (by (try simp); (try omega)) _).alloc (by (try simp); (try omega)) _) (by unfold bigW; (try simp); (try omega))
  have a1 : Bytes (bigW w ZZ) (bigW w ZZ).heap.size (some ⟨w.heap.size + 1, 0, none⟩) 3 [97, 98, 99] :=
    Reads.more ((((reads_laid (w.alloc (.cells ZZ 5)) #[.int .u8 97, .int .u8 98, .int .u8 99] 5 (3, 4) (n := 3) (size := 1) rfl (w.heap.size + 1) (by simp)).alloc (by simp) _).alloc (by (try simp); (try omega)) _).alloc (by (try simp); (try omega)) _) (by unfold bigW; (try simp); (try omega))
  have a2 : Bytes (bigW w ZZ) (bigW w ZZ).heap.size (some ⟨w.heap.size + 1 + 1, 0, none⟩) 2 [97, 98] :=
    Reads.more (((reads_laid _ #[.int .u8 97, .int .u8 98] 5 (2, 3) (n := 2) (size := 1) rfl (w.heap.size + 1 + 1) (by simp)).alloc (by simp) _).alloc (by (try simp); (try omega)) _) (by unfold bigW; (try simp); (try omega))
  have a3 : Bytes (bigW w ZZ) (bigW w ZZ).heap.size (some ⟨w.heap.size + 1 + 1 + 1, 0, none⟩) 1 [97] :=
    Reads.more ((reads_laid _ #[.int .u8 97] 5 (1, 2) (n := 1) (size := 1) rfl (w.heap.size + 1 + 1 + 1) (by simp)).alloc (by simp) _) (by unfold bigW; (try simp); (try omega))
  have hq : Asks (bigW w ZZ) (bigW w ZZ).heap.size (some ⟨w.heap.size + 1 + 1 + 1 + 1, 0, none⟩) 7 [⟨0, some ⟨w.heap.size + 1, 0, none⟩, 3, 3, [97, 98, 99], 0⟩, ⟨0, some ⟨w.heap.size + 1 + 1, 0, none⟩, 2, 2, [97, 98], 0⟩, ⟨0, some ⟨w.heap.size + 1 + 1 + 1, 0, none⟩, 1, 1, [97], 0⟩, ⟨0, none, 0, 0, [], 0⟩,
      ⟨4, none, 0, 0, [], 4611686018427387904⟩, ⟨3, none, 0, 0, [], 1048576⟩, ⟨3, none, 0, 0, [], -9223372036854775808⟩] := by
    refine ⟨Reads.more (reads_laid _ _ 25 (0, 0) (n := 7) (size := 3) rfl (w.heap.size + 1 + 1 + 1 + 1) (by simp)) (by unfold bigW; simp), fun a ha => ?_⟩
    simp only [List.mem_cons, List.not_mem_nil, or_false] at ha
    rcases ha with rfl | rfl | rfl | rfl | rfl | rfl | rfl
    · exact ⟨a1, Nat.le_refl 3, show 3 ≤ maxLen by decide, by unfold I64; dsimp only; omega, by unfold I64; dsimp only; omega⟩
    · exact ⟨a2, Nat.le_refl 2, show 2 ≤ maxLen by decide, by unfold I64; dsimp only; omega, by unfold I64; dsimp only; omega⟩
    · exact ⟨a3, Nat.le_refl 1, show 1 ≤ maxLen by decide, by unfold I64; dsimp only; omega, by unfold I64; dsimp only; omega⟩
    all_goals exact ⟨Reads.nil, by decide, by decide, by unfold I64; dsimp only; omega, by unfold I64; dsimp only; omega⟩
  exact play_any (bigW w ZZ) (some ⟨w.heap.size, 0, none⟩) 1048574 1048574 (List.replicate 1048574 0) r1 (by decide) _ 7 7 _ hq (by decide) (by decide)
set_option maxRecDepth 100000 in
set_option maxHeartbeats 4000000 in
theorem numbers_any (w : World) : Calls Try.prog 3 #[] w fun e w' => e = .returned (.bool true) ∧ Grow w w' := by
  have kc := conv_const
  go_enter Try.func3, Try.ntmps3
  go_wp2_with fail
  go_loopw [1] (fun kv wr => ∃ (k : Nat), k ≤ 30 ∧ kv = .int .i64 k ∧ Grow w wr) (fun kv _ => 30 - (intOf kv).toNat)
  case atStart => exact ⟨0, by omega, rfl, Grow.refl _⟩
  case round =>
    obtain ⟨k, hk30, rfl, hg0⟩ := hrel
    by_cases hk : k < 30
    · go_wp2_with fail
      go_loopw [2, 3] (fun s iv wx => ∃ (i : Nat) (qs : List Ask) (V : Nat → Prop), i ≤ 50 ∧ iv = .int .i64 i ∧ Own wx V 25 3 s i (qs.flatMap Ask.cells) ∧ (∀ a ∈ qs, AskOff wx V a ∧ ∃ ad, a.A = some ad ∧ ad.block < wx.heap.size) ∧ (∀ b, V b → w.heap.size ≤ b ∧ b < wx.heap.size) ∧ Grow w wx) (fun _ iv _ => 50 - (intOf iv).toNat)
      case atStart => exact ⟨0, [], fun _ => False, by omega, rfl, Own.nil, by simp, by simp, hg0⟩
      case round =>
        obtain ⟨i, qs, V, hi50, rfl, hO, hqs, hV, hg⟩ := hrel
        obtain ⟨A1, c1, rfl, hR1, hn1, hm1⟩ := hO.reads
        by_cases hi : i < 50
        · go_wp2_with (at_builtin; refine stay ?_)
          obtain ⟨K1, HK⟩ : ∃ K1 : Int, Hid (K1 = (wrap64 (wrap64 (↑i * ↑i) + ↑k)).tmod 5) := ⟨_, rfl⟩
          obtain ⟨N1, HN⟩ : ∃ N1 : Int, Hid (N1 = wrap64 ((wrap64 (↑i * ↑k)).tmod 23 - 2)) := ⟨_, rfl⟩
          have hK : I64 K1 := by
            have h1 := Int.tmod_lt_of_pos (wrap64 (wrap64 (↑i * ↑i) + ↑k)) (show (0 : Int) < 5 by omega)
            have h2 := Int.lt_tmod_of_pos (wrap64 (wrap64 (↑i * ↑i) + ↑k)) (show (0 : Int) < 5 by omega)
            have h3 := HK.out
            unfold I64
            omega
          have hN : I64 N1 := by
            have h3 := HN.out
            unfold wrap64 at h3
            unfold I64
            omega
          rw [← HK.out, ← HN.out]
          refine stay_out ?_
          have hsz := hg.size
          have hgA : Grow wr ((wr.alloc (.cells #[.int .u8 115, .int .u8 111, .int .u8 109, .int .u8 101, .int .u8 32, .int .u8 98, .int .u8 121, .int .u8 116, .int .u8 101, .int .u8 115] 5 (10, 11))).alloc (.cells #[.int .i64 K1, .slice (some ⟨wr.heap.size, 0, none⟩) (i % 11 % 10) 10, .int .i64 N1] 25)) := ((Below.refl wr.heap.size wr).alloc (Nat.le_refl _) _).alloc (by simp) _
          have hnew0 : Reads (wr.alloc (.cells #[.int .u8 115, .int .u8 111, .int .u8 109, .int .u8 101, .int .u8 32, .int .u8 98, .int .u8 121, .int .u8 116, .int .u8 101, .int .u8 115] 5 (10, 11))) (wr.heap.size + 1) 1 (some ⟨wr.heap.size, 0, none⟩) 10 (u8s [115, 111, 109, 101, 32, 98, 121, 116, 101, 115]) := reads_laid wr _ 5 (10, 11) rfl _ rfl
          have hnew1 := (hnew0.take (k := i % 11 % 10) (by omega)).alloc (by simp) (.cells #[.int .i64 K1, .slice (some ⟨wr.heap.size, 0, none⟩) (i % 11 % 10) 10, .int .i64 N1] 25)
          rw [← u8s_take] at hnew1
          have hrow := reads_laid (wr.alloc (.cells #[.int .u8 115, .int .u8 111, .int .u8 109, .int .u8 101, .int .u8 32, .int .u8 98, .int .u8 121, .int .u8 116, .int .u8 101, .int .u8 115] 5 (10, 11))) #[.int .i64 K1, .slice (some ⟨wr.heap.size, 0, none⟩) (i % 11 % 10) 10, .int .i64 N1] 25 (0, 0) (n := 1) (size := 3) rfl (wr.heap.size + 1) (by simp)
          obtain ⟨W2, HW⟩ : ∃ W2 : World, Hid (W2 = ((wr.alloc (.cells #[.int .u8 115, .int .u8 111, .int .u8 109, .int .u8 101, .int .u8 32, .int .u8 98, .int .u8 121, .int .u8 116, .int .u8 101, .int .u8 115] 5 (10, 11))).alloc (.cells #[.int .i64 K1, .slice (some ⟨wr.heap.size, 0, none⟩) (i % 11 % 10) 10, .int .i64 N1] 25))) := ⟨_, rfl⟩
          have hW2 : W2.heap.size = wr.heap.size + 2 := by rw [HW.out]; simp
          rw [← HW.out] at hgA hnew1 hrow ⊢
          refine wpList_own (V := V) askE _ rfl (.tmp 13) (.tmp 32) rfl (.slice A1 i c1) i (qs.flatMap Ask.cells) rfl (hO.grow (fun b h => (hV b h).2) hgA) (wr.heap.size + 1 + 1) (some ⟨wr.heap.size + 1, 0, none⟩) 1 1 (Ask.cells ⟨K1, some ⟨wr.heap.size, 0, none⟩, i % 11 % 10, 10, List.take (i % 11 % 10) [115, 111, 109, 101, 32, 98, 121, 116, 101, 115], N1⟩) rfl hrow (ask_one _) (by omega) ?_
          intro v3 w3 hO3 hj3
          have hs3 := hj3.size
          have hJ : Just V wr w3 := (Just.of_grow hgA).trans hj3
          have hV3 : ∀ b, Ext V W2 w3 b → w.heap.size ≤ b ∧ b < w3.heap.size := fun b h => by
            rcases h with h | h
            · have := hV b h; exact ⟨this.1, by omega⟩
            · have h1 := h.1; have h2 := h.2; exact ⟨by omega, h2⟩
          have hq3 : ∀ a ∈ qs ++ [(⟨K1, some ⟨wr.heap.size, 0, none⟩, i % 11 % 10, 10, List.take (i % 11 % 10) [115, 111, 109, 101, 32, 98, 121, 116, 101, 115], N1⟩ : Ask)], AskOff w3 (Ext V W2 w3) a ∧ ∃ ad, a.A = some ad ∧ ad.block < w3.heap.size := fun a ha => by
            rcases List.mem_append.1 ha with h | h
            · obtain ⟨h1, ad, h2, h3⟩ := hqs a h
              refine ⟨h1.keep hJ (fun b hb hv => ?_) (fun _ => .inr ⟨ad, h2, h3⟩), ad, h2, by have := hJ.size; omega⟩
              rcases hv with hv | hv
              · exact hv
              · have := hv.1; omega
            · rw [List.mem_singleton.1 h]
              have hoff : AskOff W2 V (⟨K1, some ⟨wr.heap.size, 0, none⟩, i % 11 % 10, 10, List.take (i % 11 % 10) [115, 111, 109, 101, 32, 98, 121, 116, 101, 115], N1⟩ : Ask) := ⟨⟨Reads.more hnew1 (by omega), by show i % 11 % 10 ≤ 10; omega, by show 10 ≤ maxLen; decide, hK, hN⟩, fun ad e hv => by
                injection e with e
                rw [← e] at hv
                have := (hV _ hv).2
                exact absurd this (by show ¬ wr.heap.size < wr.heap.size; omega)⟩
              refine ⟨hoff.keep hj3 (fun b hb hv => ?_) (fun _ => .inr ⟨_, rfl, by show wr.heap.size < _; omega⟩), _, rfl, by show wr.heap.size < _; omega⟩
              rcases hv with hv | hv
              · exact hv
              · have := hv.1; omega
          have hO4 : Own w3 (Ext V W2 w3) 25 3 v3 (i + 1) ((qs ++ [(⟨K1, some ⟨wr.heap.size, 0, none⟩, i % 11 % 10, 10, List.take (i % 11 % 10) [115, 111, 109, 101, 32, 98, 121, 116, 101, 115], N1⟩ : Ask)]).flatMap Ask.cells) := by
            rw [List.flatMap_append, List.flatMap_cons, List.flatMap_nil, List.append_nil]
            exact hO3
          have hg3 : Grow w w3 := Below.trans hg (Below.trans (hgA.mono hsz) (hj3.below (B := w.heap.size) (fun b h => (hV b h).1) (by omega)))
          clear hO3 hj3 hJ hnew0 hnew1 hqs hO hR1 hgA hs3
          generalize qs ++ [(⟨K1, some ⟨wr.heap.size, 0, none⟩, i % 11 % 10, 10, List.take (i % 11 % 10) [115, 111, 109, 101, 32, 98, 121, 116, 101, 115], N1⟩ : Ask)] = q3 at hq3 hO4
          generalize Ext V W2 w3 = V3 at hq3 hO4 hV3
          go_wp2_with fail
          go_roundw
          case rel => exact ⟨i + 1, by omega, by omega, q3, V3, hO4, hq3, hV3⟩
          case measure => simp [intOf]; omega
        · obtain rfl : i = 50 := by omega
          have hgb : Grow wr (wr.alloc (.cells #[.int .u8 98, .int .u8 101, .int .u8 103, .int .u8 117, .int .u8 110] 5 (5, 6))) := (Below.refl wr.heap.size wr).alloc (Nat.le_refl _) _
          have hbb0 : Reads (wr.alloc (.cells #[.int .u8 98, .int .u8 101, .int .u8 103, .int .u8 117, .int .u8 110] 5 (5, 6))) (wr.heap.size + 1) 1 (some ⟨wr.heap.size, 0, none⟩) 5 (u8s [98, 101, 103, 117, 110]) := reads_laid wr _ 5 (5, 6) rfl _ rfl
          have hbb1 := hbb0.take (k := k % 6 % 5) (by omega)
          rw [← u8s_take] at hbb1
          have hqs1 : Asks (wr.alloc (.cells #[.int .u8 98, .int .u8 101, .int .u8 103, .int .u8 117, .int .u8 110] 5 (5, 6))) _ A1 50 qs := (Asks.below (show Asks wr wr.heap.size A1 50 qs from And.intro hR1 (fun a ha => (hqs a ha).1.1)) hgb).more hgb.size
          have hp := play_any _ (some ⟨wr.heap.size, 0, none⟩) (k % 6 % 5) 5 (List.take (k % 6 % 5) [98, 101, 103, 117, 110]) (Reads.more hbb1 (by simp)) (by omega) A1 50 c1 qs hqs1 hn1 hm1
          clear hbb0 hbb1 hqs1 hqs hO hR1
          go_wp2_with fail
          go_at_call 7
          refine hp.mono ?_
          rintro e w7 ⟨rfl, hg7⟩
          have hg8 : Grow w w7 := (hg.trans hgb).trans hg7
          clear hp hg hgb hg7
          go_wp2_with fail
          go_roundw
          case rel => exact ⟨k + 1, by omega, by go_num, hg8⟩
          case measure => simp [intOf]; omega
    · obtain rfl : k = 30 := by omega
      have hmk : ∀ w : World, (Instr.makeSlice 23 (.int .i64 1048574) (.int .i64 1048574)).run Try.prog w = .ok (.slice (some ⟨w.heap.size, 0, none⟩) 1048574 1048574) (w.alloc (.cells (madeCells #[.int .u8 0] 1048574) 5)) :=
        fun w => run_make_row' 23 5 (.int .u8 0) 1 Try.underlying23 u8_info rfl .i64 .i64 1048574 (by decide) (by decide) w
      obtain ⟨ZZ, HZ⟩ : ∃ ZZ : Array Value, Hid (ZZ = madeCells #[.int .u8 0] 1048574) := ⟨_, rfl⟩
      rw [← HZ.out] at hmk
      have hp1 := big_play wr ZZ HZ.out
      have hgf := big_grow wr ZZ
      go_wp2_with fail
      go_at_call 7
      refine hp1.mono ?_
      rintro e w7 ⟨rfl, hg7⟩
      have hg8 : Grow w w7 := (hg0.trans hgf).trans hg7
      clear hp1 hg0 hgf hg7
      have hp2 := play_any w7 none 0 0 [] Reads.nil (Nat.zero_le _) none 0 0 [] ⟨Reads.nil, by simp⟩ (Nat.le_refl _) (Nat.zero_le _)
      go_wp2_with fail
      go_at_call 7
      refine hp2.mono ?_
      rintro e w8 ⟨rfl, hg9⟩
      clear hp2
      go_wp2_with (go_at_call 8; refine (known_any _).mono ?_; rintro e w9 ⟨rfl, hg10⟩)
      go_ret
      exact ⟨rfl, (hg8.trans hg9).trans hg10⟩
end Go.Proofs.Ytedpcdliadfhgaa
