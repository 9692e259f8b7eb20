/- container/heap over rows: up; Fix, Push, Pop, Remove. -/
import Derived.Test.YtjjafpgpnmdjlaaHeap
namespace Go.Proofs.Ytjjafpgpnmdjlaa
open Go.RowKit Go.Hop
theorem upF_step {g : List It} {j : Nat} (hc : ¬ j = 0) (hL : Lt (hat g j) (hat g ((j - 1) / 2))) : upF g j = upF (swapL g ((j - 1) / 2) j) ((j - 1) / 2) := by
  rw [upF, dif_neg hc, if_pos hL]
theorem upF_stop {g : List It} {j : Nat} (hc : ¬ j = 0) (hL : ¬ Lt (hat g j) (hat g ((j - 1) / 2))) : upF g j = g := by
  rw [upF, dif_neg hc, if_neg hL]
theorem upF_zero {g : List It} : upF g 0 = g := by rw [upF, dif_pos rfl]
set_option maxRecDepth 20000 in
set_option maxHeartbeats 1600000 in
theorem up_any (w : World) (r : Nat) (h : List It) (j0 : Nat) (hj : j0 < h.length) :
    Turns Try.prog 23 #[.iface 48 (.pointer (some ⟨r, 0, none⟩)), .int .i64 (j0 : Int)] (fun e => e = .returned (.tuple #[])) (RowsAt r h) (RowsAt r (upF h j0)) w := by
  refine turns_solo (rows_wide _ _) fun P hs0 => ?_
  obtain ⟨_, Vx, hQx, _⟩ := id hs0
  have hsm := rows_small hQx
  clear hQx
  have hend : ∀ (g : List It) (wz : World), Solo P (RowsAt r g) wz → Just P w wz → upF h j0 = g → Just P w wz ∧ Solo P (RowsAt r (upF h j0)) wz := fun g wz h1 h2 h3 => by
    rw [h3]; exact ⟨h2, h1⟩
  go_enter Try.func23, Try.ntmps23
  go_wp2_with fail
  go_loopw [1] (fun i wr => ∃ (g : List It) (k : Nat), i = .int .i64 (k : Int) ∧ upF g k = upF h j0 ∧ g.length = h.length ∧ k < h.length ∧ Just P w wr ∧ Solo P (RowsAt r g) wr) (fun i _ => (intOf i).toNat)
  case atStart => exact ⟨h, j0, rfl, rfl, rfl, hj, Just.of_grow (Grow.refl w), hs0⟩
  case round =>
    obtain ⟨g, j, rfl, hup, hgl, hjl, hjr, hs⟩ := hrel
    by_cases h0 : j = 0
    · subst h0
      have HU := Lib.hid (upF_zero (g := g))
      go_wp2_with fail
      go_end0
      exact ⟨rfl, hend g wr hs hjr (by rw [← hup, HU.out])⟩
    · have hw1 : IntKind.i64.wrap ((j : Int) - 1) = (j : Int) - 1 := by rw [IntKind.wrap_i64]; omega
      have hq : Int.tdiv ((j : Int) - 1) 2 = (((j - 1) / 2 : Nat) : Int) := by rw [Int.tdiv_eq_ediv_of_nonneg (by omega)]; omega
      obtain ⟨p, HP⟩ : ∃ p : Nat, Hid (p = (j - 1) / 2) := ⟨_, rfl⟩
      rw [← HP.out] at hq
      have hpj : p < j := by rw [HP.out]; omega
      have hne : (((p : Nat) : Int) == (j : Int)) = false := beq_eq_false_iff_ne.2 (by omega)
      by_cases hL : Lt (hat g j) (hat g p)
      · have hL' := decide_eq_true hL
        have HD := Lib.hid (upF_step h0 (by rw [← HP.out]; exact hL))
        rw [← HP.out] at HD
        go_wp2_with fail
        go_at_call 41
        obtain ⟨_, Vx, hQx, _⟩ := id hs
        refine (rLess_at _ r g Vx hQx _ _ (j) (p) (by push_cast; omega) (by push_cast; omega) (by omega) (by omega)).mono ?_
        rintro e wb ⟨rfl, hgwb⟩
        have hs := hs.grow (RowsAt.framed _ _) hgwb
        have hjr := hjr.trans (Just.of_grow hgwb)
        clear hQx
        rw [hL']
        go_wp2_with fail
        go_at_call 44
        refine (hs.call (rSwap_at _ r g _ _ p j (by push_cast; rfl) (by push_cast; rfl) (by omega) (by omega))).mono ?_
        rintro e wc ⟨rfl, hjc, hs⟩
        have hjr := hjr.trans hjc
        go_wp2_with fail
        go_roundw
        case rel => exact ⟨swapL g p j, p, rfl, by rw [← HD.out]; exact hup, by rw [swapL_len]; exact hgl, by omega, hjr, hs⟩
        case measure => simp [intOf]; omega
      · have hL' := decide_eq_false hL
        have HD := Lib.hid (upF_stop h0 (by rw [← HP.out]; exact hL))
        go_wp2_with fail
        go_at_call 41
        obtain ⟨_, Vx, hQx, _⟩ := id hs
        refine (rLess_at _ r g Vx hQx _ _ (j) (p) (by push_cast; omega) (by push_cast; omega) (by omega) (by omega)).mono ?_
        rintro e wb ⟨rfl, hgwb⟩
        have hs := hs.grow (RowsAt.framed _ _) hgwb
        have hjr := hjr.trans (Just.of_grow hgwb)
        clear hQx
        rw [hL']
        go_wp2_with fail
        go_end0
        exact ⟨rfl, hend g wb hs hjr (by rw [← hup, HD.out])⟩
theorem up_at (w : World) (r : Nat) (h : List It) (x : Int) (j0 : Nat) (hx : x = (j0 : Int)) (hj : j0 < h.length) :
    Turns Try.prog 23 #[.iface 48 (.pointer (some ⟨r, 0, none⟩)), .int .i64 x] (fun e => e = .returned (.tuple #[])) (RowsAt r h) (RowsAt r (upF h j0)) w := by
  subst hx; exact up_any w r h j0 hj
theorem down_at (w : World) (r : Nat) (h : List It) (x y : Int) (i0 n : Nat) (hx : x = (i0 : Int)) (hy : y = (n : Int)) (hn : n ≤ h.length) (hi : i0 ≤ h.length) :
    Turns Try.prog 22 #[.iface 48 (.pointer (some ⟨r, 0, none⟩)), .int .i64 x, .int .i64 y] (fun e => e = .returned (.bool (decide (i0 < (downF n h i0).2)))) (RowsAt r h) (RowsAt r (downF n h i0).1) w := by
  subst hx hy; exact down_any w r h i0 n hn hi
theorem len_solo {P : Nat → Prop} {w : World} {r : Nat} {h : List It} (hs : Solo P (RowsAt r h) w) : Calls Try.prog 40 #[.pointer (some ⟨r, 0, none⟩)] w fun e w' => e = .returned (.int .i64 (h.length : Int)) ∧ w = w' := by
  obtain ⟨_, V, hQ, _⟩ := hs
  exact rLen_any w r h V hQ
theorem small_solo {P : Nat → Prop} {w : World} {r : Nat} {h : List It} (hs : Solo P (RowsAt r h) w) : h.length ≤ 1048576 := by
  obtain ⟨_, V, hQ, _⟩ := hs
  exact rows_small hQ
theorem Fix_any (w : World) (r : Nat) (h : List It) (i : Nat) (hi : i < h.length) :
    Turns Try.prog 18 #[.iface 48 (.pointer (some ⟨r, 0, none⟩)), .int .i64 (i : Int)] (fun e => e = .returned (.tuple #[])) (RowsAt r h) (RowsAt r (fixF h.length h i)) w := by
  refine turns_solo (rows_wide _ _) fun P hs => ?_
  unfold fixF
  by_cases hm : i < (downF h.length h i).2
  · have hm' : decide (i < (downF h.length h i).2) = true := decide_eq_true hm
    rw [if_pos hm]
    go_enter Try.func18, Try.ntmps18
    go_wp2_with fail
    go_at_call 40
    refine (len_solo hs).mono ?_
    rintro e wa ⟨rfl, rfl⟩
    go_wp2_with fail
    go_at_call 22
    refine (hs.call (down_at _ r h _ _ i h.length rfl rfl (Nat.le_refl _) (by omega))).mono ?_
    rintro e wb ⟨rfl, hj, hs⟩
    rw [hm']
    go_wp2_with fail
    go_end0
    exact ⟨rfl, hj, hs⟩
  · have hm' : decide (i < (downF h.length h i).2) = false := decide_eq_false hm
    rw [if_neg hm]
    go_enter Try.func18, Try.ntmps18
    go_wp2_with fail
    go_at_call 40
    refine (len_solo hs).mono ?_
    rintro e wa ⟨rfl, rfl⟩
    go_wp2_with fail
    go_at_call 22
    refine (hs.call (down_at _ r h _ _ i h.length rfl rfl (Nat.le_refl _) (by omega))).mono ?_
    rintro e wb ⟨rfl, hj, hs⟩
    rw [hm']
    go_wp2_with fail
    go_at_call 23
    refine (hs.call (up_at _ r _ _ i rfl (by rw [down_len]; exact hi))).mono ?_
    rintro e wc ⟨rfl, hj2, hs⟩
    go_wp2_with fail
    go_end0
    exact ⟨rfl, hj.trans hj2, hs⟩
theorem hPush_any (w : World) (r : Nat) (h : List It) (a : It) (hk : ∀ q, q < h.length → (hat h q).2 ≠ a.2) (hl : h.length < 1048576) (ha : in64 a.1 ∧ in64 a.2) :
    Turns Try.prog 19 #[.iface 48 (.pointer (some ⟨r, 0, none⟩)), .iface 36 (.agg #[.int .i64 a.1, .int .i64 a.2])] (fun e => e = .returned (.tuple #[])) (RowsAt r h) (RowsAt r (pushF h a)) w := by
  refine turns_solo (rows_wide _ _) fun P hs => ?_
  have hl1 : (h ++ [a]).length = h.length + 1 := by simp
  have hw1 : IntKind.i64.wrap ((h.length : Int) + 1 - 1) = (h.length : Int) := by rw [IntKind.wrap_i64]; omega
  go_enter Try.func19, Try.ntmps19
  go_wp2_with fail
  go_at_call 43
  refine (hs.call (rPush_any w r h a hk hl ha)).mono ?_
  rintro e wa ⟨rfl, hja, hs⟩
  go_wp2_with fail
  go_at_call 40
  refine (len_solo hs).mono ?_
  rintro e wb ⟨rfl, rfl⟩
  rw [hl1]
  go_wp2_with fail
  go_at_call 23
  refine (hs.call (up_at _ r _ _ h.length (by first | rfl | omega) (by rw [hl1]; omega))).mono ?_
  rintro e wc ⟨rfl, hjc, hs⟩
  go_wp2_with fail
  go_end0
  exact ⟨rfl, hja.trans hjc, hs⟩
theorem fix_zero (n : Nat) (g : List It) : fixF n g 0 = (downF n g 0).1 := by
  unfold fixF
  split
  · rfl
  · exact upF_zero
theorem pop_eq {h : List It} (hl : 0 < h.length) : ((downF (h.length - 1) (swapL h 0 (h.length - 1)) 0).1).take ((downF (h.length - 1) (swapL h 0 (h.length - 1)) 0).1.length - 1) = removeF h 0 := by
  rw [down_len, swapL_len]
  unfold removeF
  split
  · rename_i he
    rw [← he]
    simp
  · rw [fix_zero]
theorem hPop_any (w : World) (r : Nat) (h : List It) (hl : 0 < h.length) :
    Turns Try.prog 20 #[.iface 48 (.pointer (some ⟨r, 0, none⟩))] (fun e => e = .returned (.iface 36 (.agg #[.int .i64 (hat h 0).1, .int .i64 (hat h 0).2]))) (RowsAt r h) (RowsAt r (removeF h 0)) w := by
  refine turns_solo (rows_wide _ _) fun P hs => ?_
  have hsm := small_solo hs
  have hw1 : IntKind.i64.wrap ((h.length : Int) - 1) = (h.length : Int) - 1 := by rw [IntKind.wrap_i64]; omega
  have hd : hat (downF (h.length - 1) (swapL h 0 (h.length - 1)) 0).1 ((downF (h.length - 1) (swapL h 0 (h.length - 1)) 0).1.length - 1) = hat h 0 := by
    rw [down_len, swapL_len, down_far _ _ _ (by rw [swapL_len]; omega) _ (Nat.le_refl _), hat_swap hl (by omega), if_pos rfl]
  have HD := Lib.hid hd
  have HP := Lib.hid (pop_eq hl)
  clear hd
  go_enter Try.func20, Try.ntmps20
  go_wp2_with fail
  go_at_call 40
  refine (len_solo hs).mono ?_
  rintro e wb ⟨rfl, rfl⟩
  go_wp2_with fail
  go_at_call 44
  refine (hs.call (rSwap_at _ r h _ _ 0 (h.length - 1) rfl (by omega) hl (by omega))).mono ?_
  rintro e wc ⟨rfl, hjc, hs⟩
  go_wp2_with fail
  go_at_call 22
  refine (hs.call (down_at _ r _ _ _ 0 (h.length - 1) rfl (by omega) (by rw [swapL_len]; omega) (by omega))).mono ?_
  rintro e wd ⟨rfl, hjd, hs⟩
  go_wp2_with fail
  go_at_call 42
  refine (hs.call (rPop_any _ r _ (by rw [down_len, swapL_len]; exact hl))).mono ?_
  rintro e we ⟨rfl, hje, hs⟩
  rw [HD.out]
  rw [HP.out] at hs
  go_wp2_with fail
  go_ret
  exact ⟨rfl, (hjc.trans hjd).trans hje, hs⟩
set_option maxHeartbeats 800000 in
theorem hRemove_any (w : World) (r : Nat) (h : List It) (i : Nat) (hi : i < h.length) :
    Turns Try.prog 21 #[.iface 48 (.pointer (some ⟨r, 0, none⟩)), .int .i64 (i : Int)] (fun e => ∃ u, e = .returned u) (RowsAt r h) (RowsAt r (removeF h i)) w := by
  refine turns_solo (rows_wide _ _) fun P hs => ?_
  have hsm := small_solo hs
  have hw1 : IntKind.i64.wrap ((h.length : Int) - 1) = (h.length : Int) - 1 := by rw [IntKind.wrap_i64]; omega
  unfold removeF
  by_cases he : i = h.length - 1
  · have he' : (((h.length : Int) - 1) == (i : Int)) = true := beq_iff_eq.2 (by omega)
    rw [if_pos he]
    go_enter Try.func21, Try.ntmps21
    go_wp2_with fail
    go_at_call 40
    refine (len_solo hs).mono ?_
    rintro e wb ⟨rfl, rfl⟩
    go_wp2_with fail
    go_at_call 42
    refine (hs.call (rPop_any _ r _ (by omega))).mono ?_
    rintro e we ⟨rfl, hje, hs⟩
    go_wp2_with fail
    go_ret
    exact ⟨⟨_, rfl⟩, hje, hs⟩
  · have he' : (((h.length : Int) - 1) == (i : Int)) = false := beq_eq_false_iff_ne.2 (by omega)
    rw [if_neg he]
    unfold fixF
    have hfin : ∀ (g : List It), g.length = h.length → g.take (g.length - 1) = g.take (h.length - 1) := fun g hg => by rw [hg]
    by_cases hm : i < (downF (h.length - 1) (swapL h i (h.length - 1)) i).2
    · have hm' : decide (i < (downF (h.length - 1) (swapL h i (h.length - 1)) i).2) = true := decide_eq_true hm
      rw [if_pos hm]
      have HF := Lib.hid (hfin (downF (h.length - 1) (swapL h i (h.length - 1)) i).1 (by rw [down_len, swapL_len]))
      go_enter Try.func21, Try.ntmps21
      go_wp2_with fail
      go_at_call 40
      refine (len_solo hs).mono ?_
      rintro e wb ⟨rfl, rfl⟩
      go_wp2_with fail
      go_at_call 44
      refine (hs.call (rSwap_at _ r h _ _ i (h.length - 1) rfl (by omega) hi (by omega))).mono ?_
      rintro e wc ⟨rfl, hjc, hs⟩
      go_wp2_with fail
      go_at_call 22
      refine (hs.call (down_at _ r _ _ _ i (h.length - 1) rfl (by omega) (by rw [swapL_len]; omega) (by rw [swapL_len]; omega))).mono ?_
      rintro e wd ⟨rfl, hjd, hs⟩
      rw [hm']
      go_wp2_with fail
      go_at_call 42
      refine (hs.call (rPop_any _ r _ (by rw [down_len, swapL_len]; omega))).mono ?_
      rintro e we ⟨rfl, hje, hs⟩
      rw [HF.out] at hs
      go_wp2_with fail
      go_ret
      exact ⟨⟨_, rfl⟩, (hjc.trans hjd).trans hje, hs⟩
    · have hm' : decide (i < (downF (h.length - 1) (swapL h i (h.length - 1)) i).2) = false := decide_eq_false hm
      rw [if_neg hm]
      have HF := Lib.hid (hfin (upF (downF (h.length - 1) (swapL h i (h.length - 1)) i).1 i) (by rw [up_len, down_len, swapL_len]))
      go_enter Try.func21, Try.ntmps21
      go_wp2_with fail
      go_at_call 40
      refine (len_solo hs).mono ?_
      rintro e wb ⟨rfl, rfl⟩
      go_wp2_with fail
      go_at_call 44
      refine (hs.call (rSwap_at _ r h _ _ i (h.length - 1) rfl (by omega) hi (by omega))).mono ?_
      rintro e wc ⟨rfl, hjc, hs⟩
      go_wp2_with fail
      go_at_call 22
      refine (hs.call (down_at _ r _ _ _ i (h.length - 1) rfl (by omega) (by rw [swapL_len]; omega) (by rw [swapL_len]; omega))).mono ?_
      rintro e wd ⟨rfl, hjd, hs⟩
      rw [hm']
      go_wp2_with fail
      go_at_call 23
      refine (hs.call (up_at _ r _ _ i rfl (by rw [down_len, swapL_len]; exact hi))).mono ?_
      rintro e we ⟨rfl, hje, hs⟩
      go_wp2_with fail
      go_at_call 42
      refine (hs.call (rPop_any _ r _ (by rw [up_len, down_len, swapL_len]; omega))).mono ?_
      rintro e wf ⟨rfl, hjf, hs⟩
      rw [HF.out] at hs
      go_wp2_with fail
      go_ret
      exact ⟨⟨_, rfl⟩, ((hjc.trans hjd).trans hje).trans hjf, hs⟩
end Go.Proofs.Ytjjafpgpnmdjlaa
