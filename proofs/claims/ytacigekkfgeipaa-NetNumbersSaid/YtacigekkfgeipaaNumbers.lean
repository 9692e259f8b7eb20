/- NetNumbers: its walk. -/
import Derived.Test.YtacigekkfgeipaaPlays
namespace Go.Proofs.Ytacigekkfgeipaa
open Go.RowKit Go.Hop
set_option maxRecDepth 100000 in
set_option maxHeartbeats 8000000 in
theorem numbers_any (w : World) : Calls Try.prog 3 #[] w fun e w' => e = .returned (.bool true) ∧ Grow w w' := by
  go_enter Try.func3, Try.ntmps3
  go_wp2_with fail
  go_loopw [1] (fun i wr => ∃ k : Nat, k ≤ 30 ∧ i = .int .i64 (k : Int) ∧ Grow w wr) (fun i _ => 30 - (intOf i).toNat)
  case atStart => exact ⟨0, by omega, rfl, Grow.refl _⟩
  case round =>
    obtain ⟨k, hk30, rfl, hgb⟩ := hrel
    by_cases hk : k < 30
    · have hkt : decide ((k : Int) < 30) = true := decide_eq_true (by omega)
      go_wp2_with fail
      go_loopw [2, 3] (fun s i wr' => ∃ j : Nat, j ≤ 70 ∧ i = .int .i64 (j : Int) ∧ Rel wr (fun _ => False) s j wr') (fun _ i _ => 70 - (intOf i).toNat)
      case atStart => exact ⟨0, by omega, rfl, [], fun _ => False, fun _ => False, Own.nil, by simp, fun _ h => h.elim, fun _ h => h.elim, fun _ h => h, Grow.refl _⟩
      case round =>
        rename_i wb _ _
        obtain ⟨j, hj70, rfl, qs, R, D', hO, hin, hR, hDl, hDD, hgw⟩ := hrel
        obtain ⟨A1, c1, rfl, hI1, hn1, hm1⟩ := hO.in_
        by_cases hj : j < 70
        · have hRlt : ∀ b, R b → b < wr.heap.size := fun b hb => (hR b hb).1.2
          have hjt : decide ((j : Int) < 70) = true := decide_eq_true (by omega)
          have hjk : 0 ≤ (j : Int) * (k : Int) ∧ (j : Int) * (k : Int) ≤ 2001 := by
            have h1 : j * k ≤ 69 * 29 := Nat.mul_le_mul (by omega) (by omega)
            have h2 : (j : Int) * (k : Int) = ((j * k : Nat) : Int) := by simp
            omega
          have hjj : 0 ≤ (j : Int) * (j : Int) ∧ (j : Int) * (j : Int) ≤ 4761 := by
            have h1 : j * j ≤ 69 * 69 := Nat.mul_le_mul (by omega) (by omega)
            have h2 : (j : Int) * (j : Int) = ((j * j : Nat) : Int) := by simp
            omega
          have hwu : IntKind.u8.wrap (j : Int) = (j : Int) := by rw [IntKind.wrap_u8]; omega
          have hu : ((UInt8.ofNat j).toNat : Int) = (j : Int) := by rw [UInt8.toNat_ofNat']; omega
          have hga : Grow wr (wr.alloc (.cells #[.int .u8 (j : Int)] 5)) := (Below.refl _ _).alloc (Nat.le_refl _) _
          obtain ⟨x, HX⟩ : ∃ x : Nat, Hid (x = wr.heap.size) := ⟨_, rfl⟩
          obtain ⟨wa, HA⟩ : ∃ wa : World, Hid (wa = wr.alloc (.cells #[.int .u8 (j : Int)] 5)) := ⟨_, rfl⟩
          have hzx : wa.heap.size = x + 1 := by rw [HA.out, HX.out]; simp
          have hxr : wr.heap.size ≤ x := by have := HX.out; omega
          have hdx : BIn wa (fun b => b = x) (some ⟨x, 0, none⟩) 1 [UInt8.ofNat j] := by
            have := byte_laid wr (UInt8.ofNat j) x (0, 0) HX.out.symm
            rw [hu] at this
            exact HA.out ▸ this
          rw [← HA.out] at hga
          clear hu
          have hai : AskIn wa (fun b => False ∨ (wr.heap.size ≤ b ∧ b < wa.heap.size)) ⟨((j : Int) * (j : Int) + (k : Int)) % 7, ((j : Int) + (k : Int)) % 5, (j : Int) * 3 % 5, (j : Int) * (k : Int) % 6 - 1, some ⟨x, 0, none⟩, 1, 1, [UInt8.ofNat j]⟩ := ⟨In.mono hdx fun b hb => .inr ⟨by rw [hb]; exact hxr, by rw [hb]; omega⟩, by show 1 ≤ 1; omega, by show 1 ≤ maxLen; unfold maxLen; omega, by show 1 ≤ 1048576; omega, by show I64 (((j : Int) * (j : Int) + (k : Int)) % 7); unfold I64; omega, by show I64 (((j : Int) + (k : Int)) % 5); unfold I64; omega, by show I64 ((j : Int) * 3 % 5); unfold I64; omega, by show I64 ((j : Int) * (k : Int) % 6 - 1); unfold I64; omega⟩
          have hgB : Grow wa (wa.alloc (.cells #[.int .i64 (((j : Int) * (j : Int) + (k : Int)) % 7), .int .i64 (((j : Int) + (k : Int)) % 5), .int .i64 ((j : Int) * 3 % 5), .int .i64 ((j : Int) * (k : Int) % 6 - 1), .slice (some ⟨x, 0, none⟩) 1 1] 25)) := (Below.refl _ _).alloc (Nat.le_refl _) _
          go_wp2_with (at_builtin; refine stay ?_)
          refine stay_out ?_
          rw [← HX.out, ← HA.out]
          refine wpList_own (V := R) askE _ rfl (.tmp 14) (.tmp 37) rfl (.slice A1 j c1) j (qs.flatMap Ask.cells) rfl ((hO.grow hRlt hga).grow (fun b hb => by have := hRlt b hb; omega) hgB) (x + 1 + 1) (some ⟨x + 1, 0, none⟩) 1 1 ([(⟨((j : Int) * (j : Int) + (k : Int)) % 7, ((j : Int) + (k : Int)) % 5, (j : Int) * 3 % 5, (j : Int) * (k : Int) % 6 - 1, some ⟨x, 0, none⟩, 1, 1, [UInt8.ofNat j]⟩ : Ask)].flatMap Ask.cells) ?_ (reads_laid wa _ 25 _ rfl (x + 1) hzx) (ask_one _) (by omega) ?_
          · first | rfl | (rw [HX.out]; rfl)
          intro v3 w3 hO3 hj3
          have hrel := rel_next (zs := [⟨((j : Int) * (j : Int) + (k : Int)) % 7, ((j : Int) + (k : Int)) % 5, (j : Int) * 3 % 5, (j : Int) * (k : Int) % 6 - 1, some ⟨x, 0, none⟩, 1, 1, [UInt8.ofNat j]⟩]) hR hDl hDD hgw hin hga (fun a ha => by rw [List.mem_singleton.1 ha]; exact hai) hgB hO3 hj3
          clear hO3 hj3 hO hin hgB hai hdx
          go_wp2_with fail
          go_roundw
          case rel => exact ⟨j + 1, by omega, by go_num, hrel⟩
          case measure => simp [intOf]; omega
        · obtain rfl : j = 70 := by omega
          have hAs : Asks wr R D' A1 70 qs := ⟨hI1, hin⟩
          have hp1 := fun nd => play_any wr R D' A1 70 c1 qs hAs (fun b hb => (hR b hb).1.2) hDl nd
          clear hO hI1 hin hAs
          go_wp2_with fail
          go_at_call 7
          refine (hp1 _).mono ?_
          rintro e w7 ⟨rfl, hg7⟩
          clear hp1
          go_wp2_with fail
          go_roundw
          case rel => exact ⟨k + 1, by omega, by go_num, (hgb.trans hgw).trans hg7⟩
          case measure => simp [intOf]; omega
    · have hkf : decide ((k : Int) < 30) = false := decide_eq_false (by omega)
      go_wp2_with fail
      go_loopw [4, 5] (fun s i wr' => ∃ (j : Nat), j ≤ 67 ∧ i = .int .i64 (j : Int) ∧ Rel wr (fun _ => False) s j wr') (fun _ i _ => 67 - (intOf i).toNat)
      case atStart => exact ⟨0, by omega, rfl, [], fun _ => False, fun _ => False, Own.nil, by simp, fun _ h => h.elim, fun _ h => h.elim, fun _ h => h, Grow.refl _⟩
      case round =>
        rename_i wb _ _
        obtain ⟨j, hj67, rfl, qs, R, D', hO, hin, hR, hDl, hDD, hgw⟩ := hrel
        obtain ⟨A1, c1, rfl, hI1, hn1, hm1⟩ := hO.in_
        have hRlt : ∀ b, R b → b < wr.heap.size := fun b hb => (hR b hb).1.2
        by_cases hj : j < 67
        · have hjt : decide ((j : Int) < 67) = true := decide_eq_true (by omega)
          have hwu : IntKind.u8.wrap (j : Int) = (j : Int) := by rw [IntKind.wrap_u8]; omega
          have hu : ((UInt8.ofNat j).toNat : Int) = (j : Int) := by rw [UInt8.toNat_ofNat']; omega
          have hga : Grow wr (wr.alloc (.cells #[.int .u8 (j : Int)] 5)) := (Below.refl _ _).alloc (Nat.le_refl _) _
          obtain ⟨x, HX⟩ : ∃ x : Nat, Hid (x = wr.heap.size) := ⟨_, rfl⟩
          obtain ⟨wa, HA⟩ : ∃ wa : World, Hid (wa = wr.alloc (.cells #[.int .u8 (j : Int)] 5)) := ⟨_, rfl⟩
          have hzx : wa.heap.size = x + 1 := by rw [HA.out, HX.out]; simp
          have hxr : wr.heap.size ≤ x := by have := HX.out; omega
          have hdx : BIn wa (fun b => b = x) (some ⟨x, 0, none⟩) 1 [UInt8.ofNat j] := by
            have := byte_laid wr (UInt8.ofNat j) x (0, 0) HX.out.symm
            rw [hu] at this
            exact HA.out ▸ this
          rw [← HA.out] at hga
          clear hu
          have hai : AskIn wa (fun b => False ∨ (wr.heap.size ≤ b ∧ b < wa.heap.size)) ⟨0, 0, 1, 0, some ⟨x, 0, none⟩, 1, 1, [UInt8.ofNat j]⟩ := ⟨In.mono hdx fun b hb => .inr ⟨by rw [hb]; exact hxr, by rw [hb]; omega⟩, by show 1 ≤ 1; omega, by show 1 ≤ maxLen; unfold maxLen; omega, by show 1 ≤ 1048576; omega, by show I64 (0); unfold I64; omega, by show I64 (0); unfold I64; omega, by show I64 (1); unfold I64; omega, by show I64 (0); unfold I64; omega⟩
          have hgB : Grow wa (wa.alloc (.cells #[.int .i64 (0), .int .i64 (0), .int .i64 (1), .int .i64 (0), .slice (some ⟨x, 0, none⟩) 1 1] 25)) := (Below.refl _ _).alloc (Nat.le_refl _) _
          go_wp2_with (at_builtin; refine stay ?_)
          refine stay_out ?_
          rw [← HX.out, ← HA.out]
          refine wpList_own (V := R) askE _ rfl (.tmp 48) (.tmp 53) rfl (.slice A1 j c1) j (qs.flatMap Ask.cells) rfl ((hO.grow hRlt hga).grow (fun b hb => by have := hRlt b hb; omega) hgB) (x + 1 + 1) (some ⟨x + 1, 0, none⟩) 1 1 ([(⟨0, 0, 1, 0, some ⟨x, 0, none⟩, 1, 1, [UInt8.ofNat j]⟩ : Ask)].flatMap Ask.cells) ?_ (reads_laid wa _ 25 _ rfl (x + 1) hzx) (ask_one _) (by omega) ?_
          · first | rfl | (rw [HX.out]; rfl)
          intro v3 w3 hO3 hj3
          have hrel := rel_next (zs := [⟨0, 0, 1, 0, some ⟨x, 0, none⟩, 1, 1, [UInt8.ofNat j]⟩]) hR hDl hDD hgw hin hga (fun a ha => by rw [List.mem_singleton.1 ha]; exact hai) hgB hO3 hj3
          clear hO3 hj3 hO hin hgB hai hdx
          go_wp2_with fail
          go_roundw
          case rel => exact ⟨j + 1, by omega, by go_num, hrel⟩
          case measure => simp [intOf]; omega
        · obtain rfl : j = 67 := by omega
          have hai : ∀ a ∈ [(⟨4, 0, 0, 3, none, 0, 0, []⟩ : Ask), ⟨3, 0, 0, 3, none, 0, 0, []⟩, ⟨4, 0, 0, 5, none, 0, 0, []⟩, ⟨2, 0, 0, 60, none, 0, 0, []⟩, ⟨2, 0, 0, 4611686018427387904, none, 0, 0, []⟩, ⟨4, 0, 0, -9223372036854775808, none, 0, 0, []⟩], AskIn wr (fun b => False ∨ (wr.heap.size ≤ b ∧ b < wr.heap.size)) a := fun a ha => by
            simp only [List.mem_cons, List.not_mem_nil, or_false] at ha
            rcases ha with rfl | rfl | rfl | rfl | rfl | rfl <;> exact ⟨In.nil, Nat.le_refl _, Nat.zero_le _, Nat.zero_le _, by simp [I64], by simp [I64], by simp [I64], by simp [I64]⟩
          have hgB : Grow wr (wr.alloc (.cells #[.int .i64 4, .int .i64 0, .int .i64 0, .int .i64 3, .slice none 0 0, .int .i64 3, .int .i64 0, .int .i64 0, .int .i64 3, .slice none 0 0, .int .i64 4, .int .i64 0, .int .i64 0, .int .i64 5, .slice none 0 0, .int .i64 2, .int .i64 0, .int .i64 0, .int .i64 60, .slice none 0 0, .int .i64 2, .int .i64 0, .int .i64 0, .int .i64 4611686018427387904, .slice none 0 0, .int .i64 4, .int .i64 0, .int .i64 0, .int .i64 (-9223372036854775808), .slice none 0 0] 25)) := (Below.refl _ _).alloc (Nat.le_refl _) _
          go_wp2_with (at_builtin; refine stay ?_)
          refine stay_out ?_
          refine wpList_own (V := R) askE _ rfl (.tmp 55) (.tmp 62) rfl (.slice A1 67 c1) 67 (qs.flatMap Ask.cells) rfl (hO.grow hRlt hgB) (wr.heap.size + 1) (some ⟨wr.heap.size, 0, none⟩) 6 6 ([(⟨4, 0, 0, 3, none, 0, 0, []⟩ : Ask), ⟨3, 0, 0, 3, none, 0, 0, []⟩, ⟨4, 0, 0, 5, none, 0, 0, []⟩, ⟨2, 0, 0, 60, none, 0, 0, []⟩, ⟨2, 0, 0, 4611686018427387904, none, 0, 0, []⟩, ⟨4, 0, 0, -9223372036854775808, none, 0, 0, []⟩].flatMap Ask.cells) rfl (reads_laid wr _ 25 _ rfl _ rfl) (fun u hu => by obtain ⟨a, _, h⟩ := List.mem_flatMap.1 hu; exact ask_one a u h) (by omega) ?_
          intro v3 w3 hO3 hj3
          obtain ⟨qs', R', D2, hO', hin', hR', hDl', hDD', hgw'⟩ := rel_next (zs := [(⟨4, 0, 0, 3, none, 0, 0, []⟩ : Ask), ⟨3, 0, 0, 3, none, 0, 0, []⟩, ⟨4, 0, 0, 5, none, 0, 0, []⟩, ⟨2, 0, 0, 60, none, 0, 0, []⟩, ⟨2, 0, 0, 4611686018427387904, none, 0, 0, []⟩, ⟨4, 0, 0, -9223372036854775808, none, 0, 0, []⟩]) hR hDl hDD hgw hin (Grow.refl wr) hai hgB hO3 hj3
          obtain ⟨A3, c3, rfl, hI3, hn3, hm3⟩ := hO'.in_
          have hp1 := play_any w3 R' D2 A3 (67 + 6) c3 qs' ⟨hI3, hin'⟩ (fun b hb => (hR' b hb).1.2) hDl' 2
          clear hO3 hj3 hO hin hgB hai hO' hI3 hin'
          go_wp2_with fail
          go_at_call 7
          refine hp1.mono ?_
          rintro e w7 ⟨rfl, hg7⟩
          clear hp1
          go_wp2_with fail
          refine (known_any _).mono ?_
          rintro e w8 ⟨rfl, hg8⟩
          go_wp2_with fail
          go_ret
          exact ⟨rfl, ((hgb.trans hgw').trans hg7).trans hg8⟩
end Go.Proofs.Ytacigekkfgeipaa
