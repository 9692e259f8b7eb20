/- container/heap over rows. -/
import Derived.Test.YtjjafpgpnmdjlaaPush
namespace Go.Proofs.Ytjjafpgpnmdjlaa
open Go.RowKit Go.Hop
def Wide (S : Thing) : Prop := ∀ (w : World) (V V' : Nat → Prop), S w V → (∀ b, V b → V' b) → S w V'
theorem rows_wide (r : Nat) (h : List It) : Wide (RowsAt r h) := fun _ _ _ hh hV => hh.wide hV
theorem turns_solo {Pr : Program} {f : FuncId} {args : Array Value} {C : Ending → Prop} {S S' : Thing} {w : World} (hw : Wide S') (h : ∀ P : Nat → Prop, Solo P S w → Calls Pr f args w fun e w' => C e ∧ Just P w w' ∧ Solo P S' w') : Turns Pr f args C S S' w := by
  intro V hS hV
  refine (h (fun b => V b ∨ w.heap.size ≤ b) (Solo.make (V := V) hS (fun b hb => .inr hb) (fun b hb => ⟨.inl hb, hV b hb⟩))).mono fun e w' ⟨he, hj, hs⟩ => ?_
  obtain ⟨_, U, hU, hUP⟩ := hs
  refine ⟨he, hw _ _ _ hU fun b hb => ?_, ⟨hj.os, hj.tape, hj.output, hj.size, fun i hi hv => hj.block i hi fun hp => ?_⟩⟩
  · obtain ⟨h1, h2⟩ := hUP b hb
    rcases h1 with h1 | h1
    · exact .inl h1
    · exact .inr ⟨h1, h2⟩
  · rcases hp with hp | hp
    · exact hv hp
    · omega
theorem rows_small {r : Nat} {h : List It} {w : World} {V : Nat → Prop} (hQ : RowsAt r h w V) : h.length ≤ 1048576 := by
  obtain ⟨_, _, _, _, _, _, _, _, _, hG, _⟩ := hQ
  exact hG.2.2
theorem rLess_at (w : World) (r : Nat) (h : List It) (V : Nat → Prop) (hQ : RowsAt r h w V) (x y : Int) (i j : Nat) (hx : x = (i : Int)) (hy : y = (j : Int)) (hi : i < h.length) (hj : j < h.length) :
    Calls Try.prog 41 #[.pointer (some ⟨r, 0, none⟩), .int .i64 x, .int .i64 y] w fun e w' => e = .returned (.bool (decide (Lt (hat h i) (hat h j)))) ∧ Grow w w' := by
  subst hx hy
  exact rLess_any w r h V hQ i j hi hj
theorem rSwap_at (w : World) (r : Nat) (h : List It) (x y : Int) (i j : Nat) (hx : x = (i : Int)) (hy : y = (j : Int)) (hi : i < h.length) (hj : j < h.length) :
    Turns Try.prog 44 #[.pointer (some ⟨r, 0, none⟩), .int .i64 x, .int .i64 y] (fun e => e = .returned (.tuple #[])) (RowsAt r h) (RowsAt r (swapL h i j)) w := by
  subst hx hy
  exact rSwap_any w r h i j hi hj
theorem downF_step {n : Nat} {g : List It} {i J : Nat} (hc : 2 * i + 1 < n) (hk : kid n g i = J) (hL : Lt (hat g J) (hat g i)) : downF n g i = downF n (swapL g i J) J := by
  subst hk
  rw [downF, dif_pos hc, if_pos hL]
theorem downF_stop {n : Nat} {g : List It} {i J : Nat} (hc : 2 * i + 1 < n) (hk : kid n g i = J) (hL : ¬ Lt (hat g J) (hat g i)) : downF n g i = (g, i) := by
  subst hk
  rw [downF, dif_pos hc, if_neg hL]
theorem downF_none {n : Nat} {g : List It} {i : Nat} (hc : ¬ 2 * i + 1 < n) : downF n g i = (g, i) := by
  rw [downF, dif_neg hc]
set_option maxRecDepth 20000 in
set_option maxHeartbeats 1600000 in
theorem down_any (w : World) (r : Nat) (h : List It) (i0 n : Nat) (hn : n ≤ h.length) (hi : i0 ≤ h.length) :
    Turns Try.prog 22 #[.iface 48 (.pointer (some ⟨r, 0, none⟩)), .int .i64 (i0 : Int), .int .i64 (n : Int)] (fun e => e = .returned (.bool (decide (i0 < (downF n h i0).2)))) (RowsAt r h) (RowsAt r (downF n h i0).1) w := by
  refine turns_solo (rows_wide _ _) fun P hs0 => ?_
  obtain ⟨_, Vx, hQx, _⟩ := id hs0
  have hsm := rows_small hQx
  clear hQx
  have hend : ∀ (g : List It) (i : Nat) (wz : World), Solo P (RowsAt r g) wz → Just P w wz → downF n h i0 = (g, i) → i0 ≤ i → Ending.returned (.bool (decide (i0 < i))) = .returned (.bool (decide (i0 < (downF n h i0).2))) ∧ Just P w wz ∧ Solo P (RowsAt r (downF n h i0).1) wz := fun g i wz h1 h2 h3 _ => by
    rw [h3]; exact ⟨rfl, h2, h1⟩
  go_enter Try.func22, Try.ntmps22
  go_wp2_with fail
  go_loopw [7] (fun i wr => ∃ (g : List It) (k : Nat), i = .int .i64 (k : Int) ∧ downF n g k = downF n h i0 ∧ g.length = h.length ∧ i0 ≤ k ∧ k ≤ h.length ∧ Just P w wr ∧ Solo P (RowsAt r g) wr) (fun i _ => h.length - (intOf i).toNat)
  case atStart => exact ⟨h, i0, rfl, rfl, rfl, Nat.le_refl _, hi, Just.of_grow (Grow.refl w), hs0⟩
  case round =>
    obtain ⟨g, i, rfl, hdn, hgl, hi0, hil, hjr, hs⟩ := hrel
    have hw1 : IntKind.i64.wrap (2 * (i : Int)) = 2 * (i : Int) := by rw [IntKind.wrap_i64]; omega
    have hw2 : IntKind.i64.wrap (2 * (i : Int) + 1) = 2 * (i : Int) + 1 := by rw [IntKind.wrap_i64]; omega
    have hw3 : IntKind.i64.wrap (2 * (i : Int) + 1 + 1) = 2 * (i : Int) + 1 + 1 := by rw [IntKind.wrap_i64]; omega
    have hz : decide (2 * (i : Int) + 1 < 0) = false := decide_eq_false (by omega)
    by_cases hc : 2 * i + 1 < n
    · have hc' : decide ((n : Int) ≤ 2 * (i : Int) + 1) = false := decide_eq_false (by omega)
      by_cases h2 : 2 * i + 2 < n
      · have h2' : decide (2 * (i : Int) + 1 + 1 < (n : Int)) = true := decide_eq_true (by omega)
        by_cases hl : Lt (hat g (2 * i + 2)) (hat g (2 * i + 1))
        · skip
          have hl' := decide_eq_true hl
          have hk : kid n g i = 2 * i + 2 := by unfold kid; rw [if_pos ⟨h2, hl⟩]
          go_wp2_with fail
          go_at_call 41
          obtain ⟨_, Vx, hQx, _⟩ := id hs
          refine (rLess_at _ r g Vx hQx _ _ (2 * i + 2) (2 * i + 1) (by push_cast; omega) (by push_cast; omega) (by omega) (by omega)).mono ?_
          rintro e wa ⟨rfl, hgwa⟩
          have hs := hs.grow (RowsAt.framed _ _) hgwa
          have hjr := hjr.trans (Just.of_grow hgwa)
          clear hQx
          rw [hl']
          by_cases hL : Lt (hat g (2 * i + 2)) (hat g i)
          · have hL' := decide_eq_true hL
            have HD := Lib.hid (downF_step hc hk hL)
            go_wp2_with fail
            go_at_call 41
            obtain ⟨_, Vx, hQx, _⟩ := id hs
            refine (rLess_at _ r g Vx hQx _ _ (2 * i + 2) (i) (by push_cast; omega) (by push_cast; omega) (by omega) (by omega)).mono ?_
            rintro e wb ⟨rfl, hgwb⟩
            have hs := hs.grow (RowsAt.framed _ _) hgwb
            have hjr := hjr.trans (Just.of_grow hgwb)
            clear hQx
            rw [hL']
            go_wp2_with fail
            go_at_call 44
            refine (hs.call (rSwap_at _ r g _ _ i (2 * i + 2) (by push_cast; omega) (by push_cast; omega) (by omega) (by omega))).mono ?_
            rintro e wc ⟨rfl, hjc, hs⟩
            have hjr := hjr.trans hjc
            go_wp2_with fail
            go_roundw
            case rel => exact ⟨swapL g i (2 * i + 2), 2 * i + 2, by push_cast; rfl, by rw [← HD.out]; exact hdn, by rw [swapL_len]; exact hgl, by omega, by omega, hjr, hs⟩
            case measure => simp [intOf]; omega
          · have hL' := decide_eq_false hL
            have HD := Lib.hid (downF_stop hc hk hL)
            go_wp2_with fail
            go_at_call 41
            obtain ⟨_, Vx, hQx, _⟩ := id hs
            refine (rLess_at _ r g Vx hQx _ _ (2 * i + 2) (i) (by push_cast; omega) (by push_cast; omega) (by omega) (by omega)).mono ?_
            rintro e wb ⟨rfl, hgwb⟩
            have hs := hs.grow (RowsAt.framed _ _) hgwb
            have hjr := hjr.trans (Just.of_grow hgwb)
            clear hQx
            rw [hL']
            go_wp2_with fail
            go_ret
            exact hend g i wb hs hjr (by rw [← hdn, HD.out]) hi0
        · skip
          have hl' := decide_eq_false hl
          have hk : kid n g i = 2 * i + 1 := by unfold kid; rw [if_neg (fun hh => hl hh.2)]
          go_wp2_with fail
          go_at_call 41
          obtain ⟨_, Vx, hQx, _⟩ := id hs
          refine (rLess_at _ r g Vx hQx _ _ (2 * i + 2) (2 * i + 1) (by push_cast; omega) (by push_cast; omega) (by omega) (by omega)).mono ?_
          rintro e wa ⟨rfl, hgwa⟩
          have hs := hs.grow (RowsAt.framed _ _) hgwa
          have hjr := hjr.trans (Just.of_grow hgwa)
          clear hQx
          rw [hl']
          by_cases hL : Lt (hat g (2 * i + 1)) (hat g i)
          · have hL' := decide_eq_true hL
            have HD := Lib.hid (downF_step hc hk hL)
            go_wp2_with fail
            go_at_call 41
            obtain ⟨_, Vx, hQx, _⟩ := id hs
            refine (rLess_at _ r g Vx hQx _ _ (2 * i + 1) (i) (by push_cast; omega) (by push_cast; omega) (by omega) (by omega)).mono ?_
            rintro e wb ⟨rfl, hgwb⟩
            have hs := hs.grow (RowsAt.framed _ _) hgwb
            have hjr := hjr.trans (Just.of_grow hgwb)
            clear hQx
            rw [hL']
            go_wp2_with fail
            go_at_call 44
            refine (hs.call (rSwap_at _ r g _ _ i (2 * i + 1) (by push_cast; omega) (by push_cast; omega) (by omega) (by omega))).mono ?_
            rintro e wc ⟨rfl, hjc, hs⟩
            have hjr := hjr.trans hjc
            go_wp2_with fail
            go_roundw
            case rel => exact ⟨swapL g i (2 * i + 1), 2 * i + 1, by push_cast; rfl, by rw [← HD.out]; exact hdn, by rw [swapL_len]; exact hgl, by omega, by omega, hjr, hs⟩
            case measure => simp [intOf]; omega
          · have hL' := decide_eq_false hL
            have HD := Lib.hid (downF_stop hc hk hL)
            go_wp2_with fail
            go_at_call 41
            obtain ⟨_, Vx, hQx, _⟩ := id hs
            refine (rLess_at _ r g Vx hQx _ _ (2 * i + 1) (i) (by push_cast; omega) (by push_cast; omega) (by omega) (by omega)).mono ?_
            rintro e wb ⟨rfl, hgwb⟩
            have hs := hs.grow (RowsAt.framed _ _) hgwb
            have hjr := hjr.trans (Just.of_grow hgwb)
            clear hQx
            rw [hL']
            go_wp2_with fail
            go_ret
            exact hend g i wb hs hjr (by rw [← hdn, HD.out]) hi0
      · have h2' : decide (2 * (i : Int) + 1 + 1 < (n : Int)) = false := decide_eq_false (by omega)
        have hk : kid n g i = 2 * i + 1 := by unfold kid; rw [if_neg (fun hh => h2 hh.1)]
        by_cases hL : Lt (hat g (2 * i + 1)) (hat g i)
        · have hL' := decide_eq_true hL
          have HD := Lib.hid (downF_step hc hk hL)
          go_wp2_with fail
          go_at_call 41
          obtain ⟨_, Vx, hQx, _⟩ := id hs
          refine (rLess_at _ r g Vx hQx _ _ (2 * i + 1) (i) (by push_cast; omega) (by push_cast; omega) (by omega) (by omega)).mono ?_
          rintro e wb ⟨rfl, hgwb⟩
          have hs := hs.grow (RowsAt.framed _ _) hgwb
          have hjr := hjr.trans (Just.of_grow hgwb)
          clear hQx
          rw [hL']
          go_wp2_with fail
          go_at_call 44
          refine (hs.call (rSwap_at _ r g _ _ i (2 * i + 1) (by push_cast; omega) (by push_cast; omega) (by omega) (by omega))).mono ?_
          rintro e wc ⟨rfl, hjc, hs⟩
          have hjr := hjr.trans hjc
          go_wp2_with fail
          go_roundw
          case rel => exact ⟨swapL g i (2 * i + 1), 2 * i + 1, by push_cast; rfl, by rw [← HD.out]; exact hdn, by rw [swapL_len]; exact hgl, by omega, by omega, hjr, hs⟩
          case measure => simp [intOf]; omega
        · have hL' := decide_eq_false hL
          have HD := Lib.hid (downF_stop hc hk hL)
          go_wp2_with fail
          go_at_call 41
          obtain ⟨_, Vx, hQx, _⟩ := id hs
          refine (rLess_at _ r g Vx hQx _ _ (2 * i + 1) (i) (by push_cast; omega) (by push_cast; omega) (by omega) (by omega)).mono ?_
          rintro e wb ⟨rfl, hgwb⟩
          have hs := hs.grow (RowsAt.framed _ _) hgwb
          have hjr := hjr.trans (Just.of_grow hgwb)
          clear hQx
          rw [hL']
          go_wp2_with fail
          go_ret
          exact hend g i wb hs hjr (by rw [← hdn, HD.out]) hi0
    · have hc' : decide ((n : Int) ≤ 2 * (i : Int) + 1) = true := decide_eq_true (by omega)
      have HD := Lib.hid (downF_none (g := g) hc)
      go_wp2_with fail
      go_ret
      exact hend g i wr hs hjr (by rw [← hdn, HD.out]) hi0
end Go.Proofs.Ytjjafpgpnmdjlaa
