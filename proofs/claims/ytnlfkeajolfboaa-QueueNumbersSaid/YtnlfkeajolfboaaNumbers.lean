/- QueueNumbers: its walk. -/
import Derived.Test.YtnlfkeajolfboaaPlays
import Derived.Laws.MakeOwn
namespace Go.Proofs.Ytnlfkeajolfboaa
open Go.RowKit Go.Hop
def dd : List Dl := [(⟨#[97, 61, 49]⟩, 1), (⟨#[98, 61, 49]⟩, 2)]
theorem rem_small {z : Int} (h : 0 ≤ z) (m : Int) : z.tmod m = z % m := Int.tmod_eq_emod_of_nonneg h
set_option maxRecDepth 100000 in
set_option maxHeartbeats 8000000 in
theorem numbers_any (w : World) : Calls Try.prog 4 #[] w fun e w' => e = .returned (.bool true) ∧ Grow w w' := by
  have hga : Grow w (w.alloc (.cells #[.string ⟨#[97, 61, 49]⟩, .int .u64 1, .string ⟨#[98, 61, 49]⟩, .int .u64 2] 29)) := (Below.refl _ _).alloc (Nat.le_refl _) _
  obtain ⟨x, HX⟩ : ∃ x : Nat, Hid (x = w.heap.size) := ⟨_, rfl⟩
  obtain ⟨ws, HS⟩ : ∃ ws : World, Hid (ws = w.alloc (.cells #[.string ⟨#[97, 61, 49]⟩, .int .u64 1, .string ⟨#[98, 61, 49]⟩, .int .u64 2] 29)) := ⟨_, rfl⟩
  have hws : ws.heap.size = x + 1 := by rw [HS.out, HX.out]; simp
  rw [← HS.out] at hga
  have hdd : DIn ws (fun b => b = x) (some ⟨x, 0, none⟩) 2 dd := by
    obtain ⟨h3, h4⟩ := reads_laid w #[.string ⟨#[97, 61, 49]⟩, .int .u64 1, .string ⟨#[98, 61, 49]⟩, .int .u64 2] 29 (0, 0) (n := 2) (size := 2) rfl x HX.out.symm
    rw [← HS.out] at h4
    exact ⟨h3, fun hn => ⟨_, rfl, rfl, by show x < ws.heap.size; omega, by obtain ⟨ad, e, _, hc⟩ := h4 hn; injection e with e; rw [e]; exact hc⟩⟩
  have hd1 : DIn ws (fun b => b = x) (some ⟨x, 0, none⟩) 1 [da] := In.take (k := 1) hdd (by omega)
  go_enter Try.func4, Try.ntmps4
  go_wp2_with fail
  rw [← HX.out, ← HS.out]
  go_loopw [2] (fun i wr => ∃ k : Nat, k ≤ 30 ∧ i = .int .i64 (k : Int) ∧ Grow ws wr) (fun i _ => 30 - (intOf i).toNat)
  case atStart => exact ⟨0, by omega, rfl, Grow.refl _⟩
  case round =>
    obtain ⟨k, hk30, rfl, hgb⟩ := hrel
    by_cases hk : k < 30
    · have hkt : decide ((k : Int) < 30) = true := decide_eq_true (by omega)
      go_wp2_with fail
      go_loopw [3, 4, 5] (fun s a i wr' => ∃ (j : Nat) (at_ : Int), j ≤ 70 ∧ i = .int .i64 (j : Int) ∧ a = .int .i64 at_ ∧ (0 ≤ at_ ∧ at_ ≤ 2 * (j : Int)) ∧ Rel wr (fun b => b = x) s j wr') (fun _ _ i _ => 70 - (intOf i).toNat)
      case atStart => exact ⟨0, 0, by omega, rfl, rfl, by omega, [], fun _ => False, fun b => b = x, Own.nil, by simp, fun _ h => h.elim, fun b hb => by rw [hb]; have := hgb.size; omega, fun _ h => h, Grow.refl _⟩
      case round =>
        rename_i wb _ _
        obtain ⟨j, at_, hj70, rfl, rfl, hat, qs, R, D', hO, hin, hR, hDl, hDD, hgw⟩ := hrel
        obtain ⟨A1, c1, rfl, hI1, hn1, hm1⟩ := hO.in_
        by_cases hj : j < 70
        · have hgx := hgb.trans hgw
          have hRlt : ∀ b, R b → b < wr.heap.size := fun b hb => (hR b hb).1.2
          have hjt : decide ((j : Int) < 70) = true := decide_eq_true (by omega)
          have hjk : 0 ≤ (j : Int) * (k : Int) ∧ (j : Int) * (k : Int) ≤ 2001 := by
            have h1 : j * k ≤ 69 * 29 := Nat.mul_le_mul (by omega) (by omega)
            have h2 : (j : Int) * (k : Int) = ((j * k : Nat) : Int) := by simp
            omega
          have hjj : 0 ≤ (j : Int) * (j : Int) ∧ (j : Int) * (j : Int) ≤ 4761 := by
            have h1 : j * j ≤ 69 * 69 := Nat.mul_le_mul (by omega) (by omega)
            have h2 : (j : Int) * (j : Int) = ((j * j : Nat) : Int) := by simp
            omega
          rcases (show (j : Int) % 2 = 0 ∨ (j : Int) % 2 = 1 by omega) with h2 | h2
          · skip
            have hai : AskIn wr (fun b => (b = x) ∨ (wr.heap.size ≤ b ∧ b < wr.heap.size)) ⟨((j : Int) * (j : Int) + (k : Int)) % 4, at_ + (j : Int) * (k : Int) % 3 - (j : Int) % 5 % 2, some ⟨x, 0, none⟩, 1, 2, [da]⟩ := ⟨In.mono (V := fun b => b = x) (In.grow hd1 hgx) fun b hb => .inl hb, by show 1 ≤ 2; omega, by show 2 ≤ maxLen; unfold maxLen; omega, by show I64 (((j : Int) * (j : Int) + (k : Int)) % 4); unfold I64; omega, by show I64 (at_ + (j : Int) * (k : Int) % 3 - (j : Int) % 5 % 2); unfold I64; omega⟩
            have hgB : Grow wr (wr.alloc (.cells #[.int .i64 (((j : Int) * (j : Int) + (k : Int)) % 4), .int .i64 (at_ + (j : Int) * (k : Int) % 3 - (j : Int) % 5 % 2), .slice (some ⟨x, 0, none⟩) 1 2] 39)) := (Below.refl _ _).alloc (Nat.le_refl _) _
            go_wp2_with (at_builtin; refine stay ?_)
            refine stay_out ?_
            refine wpList_own (V := R) askE _ rfl (.tmp 25) (.tmp 43) rfl (.slice A1 j c1) j (qs.flatMap Ask.cells) rfl (hO.grow hRlt hgB) (wr.heap.size + 1) (some ⟨wr.heap.size, 0, none⟩) 1 1 (Ask.cells ⟨((j : Int) * (j : Int) + (k : Int)) % 4, at_ + (j : Int) * (k : Int) % 3 - (j : Int) % 5 % 2, some ⟨x, 0, none⟩, 1, 2, [da]⟩) rfl (reads_laid wr _ 39 _ rfl _ rfl) (ask_one _) (by omega) ?_
            intro v3 w3 hO3 hj3
            have hrel := rel_next (a := ⟨((j : Int) * (j : Int) + (k : Int)) % 4, at_ + (j : Int) * (k : Int) % 3 - (j : Int) % 5 % 2, some ⟨x, 0, none⟩, 1, 2, [da]⟩) hR hDl hDD hgw hin (Grow.refl wr) hai hgB hO3 hj3
            clear hO3 hj3 hO hin hgB hai
            go_wp2_with fail
            go_roundw
            case rel => exact ⟨j + 1, at_ + (j : Int) * (k : Int) % 3, by omega, by go_num, rfl, by omega, hrel⟩
            case measure => simp [intOf]; omega
          · skip
            have hai : AskIn wr (fun b => (b = x) ∨ (wr.heap.size ≤ b ∧ b < wr.heap.size)) ⟨((j : Int) * (j : Int) + (k : Int)) % 4, at_ + (j : Int) * (k : Int) % 3 - (j : Int) % 5 % 2, some ⟨x, 0, none⟩, 2, 2, dd⟩ := ⟨In.mono (V := fun b => b = x) (In.grow hdd hgx) fun b hb => .inl hb, by show 2 ≤ 2; omega, by show 2 ≤ maxLen; unfold maxLen; omega, by show I64 (((j : Int) * (j : Int) + (k : Int)) % 4); unfold I64; omega, by show I64 (at_ + (j : Int) * (k : Int) % 3 - (j : Int) % 5 % 2); unfold I64; omega⟩
            have hgB : Grow wr (wr.alloc (.cells #[.int .i64 (((j : Int) * (j : Int) + (k : Int)) % 4), .int .i64 (at_ + (j : Int) * (k : Int) % 3 - (j : Int) % 5 % 2), .slice (some ⟨x, 0, none⟩) 2 2] 39)) := (Below.refl _ _).alloc (Nat.le_refl _) _
            go_wp2_with (at_builtin; refine stay ?_)
            refine stay_out ?_
            refine wpList_own (V := R) askE _ rfl (.tmp 25) (.tmp 43) rfl (.slice A1 j c1) j (qs.flatMap Ask.cells) rfl (hO.grow hRlt hgB) (wr.heap.size + 1) (some ⟨wr.heap.size, 0, none⟩) 1 1 (Ask.cells ⟨((j : Int) * (j : Int) + (k : Int)) % 4, at_ + (j : Int) * (k : Int) % 3 - (j : Int) % 5 % 2, some ⟨x, 0, none⟩, 2, 2, dd⟩) rfl (reads_laid wr _ 39 _ rfl _ rfl) (ask_one _) (by omega) ?_
            intro v3 w3 hO3 hj3
            have hrel := rel_next (a := ⟨((j : Int) * (j : Int) + (k : Int)) % 4, at_ + (j : Int) * (k : Int) % 3 - (j : Int) % 5 % 2, some ⟨x, 0, none⟩, 2, 2, dd⟩) hR hDl hDD hgw hin (Grow.refl wr) hai hgB hO3 hj3
            clear hO3 hj3 hO hin hgB hai
            go_wp2_with fail
            go_roundw
            case rel => exact ⟨j + 1, at_ + (j : Int) * (k : Int) % 3, by omega, by go_num, rfl, by omega, hrel⟩
            case measure => simp [intOf]; omega
        · obtain rfl : j = 70 := by omega
          have hAs : Asks wr R D' A1 70 qs := ⟨hI1, hin⟩
          have hp1 := play_any wr R D' A1 70 c1 qs hAs (fun b hb => (hR b hb).1.2) hDl
          clear hO hI1 hin hAs
          go_wp2_with fail
          go_at_call 13
          refine hp1.mono ?_
          rintro e w7 ⟨rfl, hg7⟩
          clear hp1
          go_wp2_with fail
          go_roundw
          case rel => exact ⟨k + 1, by omega, by go_num, (hgb.trans hgw).trans hg7⟩
          case measure => simp [intOf]; omega
    · have hkf : decide ((k : Int) < 30) = false := decide_eq_false (by omega)
      go_wp2_with fail
      go_loopw [6, 7] (fun s i wr' => ∃ (j : Nat), j ≤ 19 ∧ i = .int .i64 (j : Int) ∧ Rel wr (fun b => b = x) s j wr') (fun _ i _ => 19 - (intOf i).toNat)
      case atStart => exact ⟨0, by omega, rfl, [], fun _ => False, fun b => b = x, Own.nil, by simp, fun _ h => h.elim, fun b hb => by rw [hb]; have := hgb.size; omega, fun _ h => h, Grow.refl _⟩
      case round =>
        rename_i wb _ _
        obtain ⟨j, hj19, rfl, qs, R, D', hO, hin, hR, hDl, hDD, hgw⟩ := hrel
        obtain ⟨A1, c1, rfl, hI1, hn1, hm1⟩ := hO.in_
        have hgx := hgb.trans hgw
        have hRlt : ∀ b, R b → b < wr.heap.size := fun b hb => (hR b hb).1.2
        by_cases hj : j < 19
        · have hjt : decide ((j : Int) < 19) = true := decide_eq_true (by omega)
          have hai : AskIn wr (fun b => (b = x) ∨ (wr.heap.size ≤ b ∧ b < wr.heap.size)) ⟨0, (j : Int) + 1, some ⟨x, 0, none⟩, 2, 2, dd⟩ := ⟨In.mono (V := fun b => b = x) (In.grow hdd hgx) fun b hb => .inl hb, by show 2 ≤ 2; omega, by show 2 ≤ maxLen; unfold maxLen; omega, by show I64 (0); unfold I64; omega, by show I64 ((j : Int) + 1); unfold I64; omega⟩
          have hgB : Grow wr (wr.alloc (.cells #[.int .i64 (0), .int .i64 ((j : Int) + 1), .slice (some ⟨x, 0, none⟩) 2 2] 39)) := (Below.refl _ _).alloc (Nat.le_refl _) _
          go_wp2_with (at_builtin; refine stay ?_)
          refine stay_out ?_
          refine wpList_own (V := R) askE _ rfl (.tmp 52) (.tmp 57) rfl (.slice A1 j c1) j (qs.flatMap Ask.cells) rfl (hO.grow hRlt hgB) (wr.heap.size + 1) (some ⟨wr.heap.size, 0, none⟩) 1 1 (Ask.cells ⟨0, (j : Int) + 1, some ⟨x, 0, none⟩, 2, 2, dd⟩) rfl (reads_laid wr _ 39 _ rfl _ rfl) (ask_one _) (by omega) ?_
          intro v3 w3 hO3 hj3
          have hrel := rel_next (a := ⟨0, (j : Int) + 1, some ⟨x, 0, none⟩, 2, 2, dd⟩) hR hDl hDD hgw hin (Grow.refl wr) hai hgB hO3 hj3
          clear hO3 hj3 hO hin hgB hai
          go_wp2_with fail
          go_roundw
          case rel => exact ⟨j + 1, by omega, by go_num, hrel⟩
          case measure => simp [intOf]; omega
        · obtain rfl : j = 19 := by omega
          have hmk : ∀ w : World, (Instr.makeSlice 30 (.int .i64 9) (.int .i64 9)).run Try.prog w = .ok (.slice (some ⟨w.heap.size, 0, none⟩) 9 9) (w.alloc (.cells (madeCells (Value.agg #[.string .empty, .int .u64 0]).cells 18) 29)) := fun w => by
            obtain ⟨i, hi, hz, hs, hb⟩ := deltaE.info
            have := run_make w 30 29 i _ Try.underlying30 hi hz .i64 .i64 9 9 (by omega) (by omega) (by rw [hb]; decide) (by omega)
            rw [hs] at this
            exact this
          have hxr : x < wr.heap.size := by have := hgx.size; omega
          obtain ⟨y, HY⟩ : ∃ y : Nat, Hid (y = wr.heap.size) := ⟨_, rfl⟩
          have hyr : wr.heap.size ≤ y ∧ y ≤ wr.heap.size := by have := HY.out; omega
          have hg1 : Grow wr (wr.alloc (.cells (madeCells (Value.agg #[.string .empty, .int .u64 0]).cells 18) 29)) := (Below.refl _ _).alloc (Nat.le_refl _) _
          have hyd : DIn (wr.alloc (.cells (madeCells (Value.agg #[.string .empty, .int .u64 0]).cells 18) 29)) (fun b => b = y) (some ⟨y, 0, none⟩) 9 (List.replicate 9 (ByteArray.empty, 0)) := by
            have hz : (madeCells (Value.agg #[.string .empty, .int .u64 0]).cells 18).toList = dcells (List.replicate 9 (ByteArray.empty, 0)) := by kernel_rfl
            have h0 := reads_laid wr (madeCells (Value.agg #[.string .empty, .int .u64 0]).cells 18) 29 (0, 0) (n := 9) (size := 2) (by rw [size_madeCells]) y HY.out.symm
            rw [hz] at h0
            obtain ⟨h3, h4⟩ := h0
            exact ⟨h3, fun hn => ⟨_, rfl, rfl, by rw [alloc_size]; show y < _; omega, by obtain ⟨ad, e, _, hc⟩ := h4 hn; injection e with e; rw [e]; exact hc⟩⟩
          obtain ⟨wy, HWY⟩ : ∃ wy : World, Hid (wy = wr.alloc (.cells (madeCells (Value.agg #[.string .empty, .int .u64 0]).cells 18) 29)) := ⟨_, rfl⟩
          have hzy : wy.heap.size = y + 1 := by rw [HWY.out, HY.out]; simp
          rw [← HWY.out] at hg1 hyd
          have hg2 : Grow wy (wy.alloc (.cells #[.int .i64 3, .int .i64 5, .slice none 0 0, .int .i64 0, .int .i64 50, .slice (some ⟨x, 0, none⟩) 2 2, .int .i64 0, .int .i64 51, .slice (some ⟨y, 0, none⟩) 9 9, .int .i64 0, .int .i64 (-9223372036854775808), .slice (some ⟨x, 0, none⟩) 2 2, .int .i64 0, .int .i64 9223372036854775807, .slice (some ⟨x, 0, none⟩) 2 2] 39)) := (Below.refl _ _).alloc (Nat.le_refl _) _
          have hg3 := hg1.trans hg2
          go_wp2_with (at_builtin; refine stay ?_)
          refine stay_out ?_
          have HWY' : wy = wr.alloc (.cells (madeCells #[.string .empty, .int .u64 0] 18) 29) := HWY.out
          rw [← HY.out, ← HWY']
          clear HWY'
          refine wpList_own (V := R) askE _ rfl (.tmp 59) (.tmp 69) rfl (.slice A1 19 c1) 19 (qs.flatMap Ask.cells) rfl (hO.grow hRlt hg3) (y + 1 + 1) (some ⟨y + 1, 0, none⟩) 5 5 ([(⟨3, 5, none, 0, 0, []⟩ : Ask), ⟨0, 50, some ⟨x, 0, none⟩, 2, 2, dd⟩, ⟨0, 51, some ⟨y, 0, none⟩, 9, 9, List.replicate 9 (ByteArray.empty, 0)⟩, ⟨0, -9223372036854775808, some ⟨x, 0, none⟩, 2, 2, dd⟩, ⟨0, 9223372036854775807, some ⟨x, 0, none⟩, 2, 2, dd⟩].flatMap Ask.cells) ?_ (reads_laid wy _ 39 _ rfl (y + 1) hzy) (fun u hu => by obtain ⟨a, _, h⟩ := List.mem_flatMap.1 hu; exact ask_one a u h) (by omega) ?_
          · first | rfl | (rw [HY.out]; rfl)
          intro v3 w3 hO3 hj3
          have hs3 := hj3.size
          have hs2 := hg2.size
          obtain ⟨A3, c3, rfl, hI3, hn3, hm3⟩ := hO3.in_
          have hDR : ∀ b, (D' b ∨ b = y) → ¬ R b := fun b hb h => by
            rcases hb with hb | hb
            · exact (hR b h).2 hb
            · have := hRlt b h; omega
          have hxd : DIn w3 (fun b => D' b ∨ b = y) (some ⟨x, 0, none⟩) 2 dd := In.just (In.mono (In.grow hdd (hgx.trans hg3)) fun b hb => Or.inl (hDD b hb)) hj3 hDR
          have hyd3 : DIn w3 (fun b => D' b ∨ b = y) (some ⟨y, 0, none⟩) 9 (List.replicate 9 (ByteArray.empty, 0)) := In.just (In.mono (In.grow hyd hg2) fun b hb => Or.inr hb) hj3 hDR
          have hAs : Asks w3 (fun b => R b ∨ (wr.heap.size ≤ b ∧ b < w3.heap.size)) (fun b => D' b ∨ b = y) A3 (19 + 5) (qs ++ [(⟨3, 5, none, 0, 0, []⟩ : Ask), ⟨0, 50, some ⟨x, 0, none⟩, 2, 2, dd⟩, ⟨0, 51, some ⟨y, 0, none⟩, 9, 9, List.replicate 9 (ByteArray.empty, 0)⟩, ⟨0, -9223372036854775808, some ⟨x, 0, none⟩, 2, 2, dd⟩, ⟨0, 9223372036854775807, some ⟨x, 0, none⟩, 2, 2, dd⟩]) := by
            refine ⟨by rw [List.flatMap_append]; exact hI3.mono fun b hb => hb.elim .inl fun h => .inr ⟨by have := h.1; have := hg1.size; omega, h.2⟩, fun a ha => ?_⟩
            rcases List.mem_append.1 ha with h | h
            · exact (((hin a h).grow hg3).mono fun b hb => Or.inl hb).just hj3 hDR
            · simp only [List.mem_cons, List.not_mem_nil, or_false] at h
              rcases h with rfl | rfl | rfl | rfl | rfl
              · exact ⟨In.nil, Nat.le_refl _, Nat.zero_le _, by show I64 3; unfold I64; omega, by show I64 5; unfold I64; omega⟩
              · exact ⟨hxd, Nat.le_refl _, by show 2 ≤ maxLen; unfold maxLen; omega, by show I64 0; unfold I64; omega, by show I64 50; unfold I64; omega⟩
              · exact ⟨hyd3, Nat.le_refl _, by show 9 ≤ maxLen; unfold maxLen; omega, by show I64 0; unfold I64; omega, by show I64 51; unfold I64; omega⟩
              · exact ⟨hxd, Nat.le_refl _, by show 2 ≤ maxLen; unfold maxLen; omega, by show I64 0; unfold I64; omega, by show I64 (-9223372036854775808); unfold I64; omega⟩
              · exact ⟨hxd, Nat.le_refl _, by show 2 ≤ maxLen; unfold maxLen; omega, by show I64 0; unfold I64; omega, by show I64 9223372036854775807; unfold I64; omega⟩
          have hp1 := play_any w3 _ _ A3 24 c3 _ hAs (fun b hb => by
            rcases hb with hb | hb
            · have := hRlt b hb; omega
            · exact hb.2) (fun b hb => by
            rcases hb with hb | hb
            · have := hDl b hb; omega
            · omega)
          have hgw3 : Grow ws w3 := Below.trans (hgx.trans hg3) (hj3.below (B := ws.heap.size) (fun b hb => by have := (hR b hb).1.1; have := hgb.size; omega) (by have := hgx.size; omega))
          clear hO3 hI3 hin hAs hyd3 hxd hO hI1 hmk
          go_wp2_with fail
          go_at_call 13
          refine hp1.mono ?_
          rintro e w7 ⟨rfl, hg7⟩
          clear hp1
          go_wp2_with (go_at_call 12; refine (known_any _).mono ?_; rintro e w9 ⟨rfl, hg9⟩)
          go_ret
          exact ⟨rfl, ((hga.trans hgw3).trans hg7).trans hg9⟩
end Go.Proofs.Ytnlfkeajolfboaa
