/- The answer's Text: its walk. -/
import Derived.Test.YthkkfdnechmddaaDoorLrsort
import Derived.Test.YthkkfdnechmddaaDoorLrright
import Derived.Test.YthkkfdnechmddaaDoorLtext
namespace Go.Proofs.YthkkfdnechmddaaDoor
open Go.RowKit Go.Hop
theorem txt_first (d : Lb) : mk (txtL [d]) = ({ data := #[] } : ByteArray) ++ d.1 ++ { data := #[61] } ++ d.2 := by
  refine ba_ext ?_
  rw [app_data, app_data, app_data, mk_data, txtL_cons]
  simp [partL]
theorem txt_next {q : List Lb} (h : q ≠ []) (d : Lb) : mk (txtL (q ++ [d])) = mk (txtL q) ++ { data := #[44] } ++ d.1 ++ { data := #[61] } ++ d.2 := by
  refine ba_ext ?_
  rw [app_data, app_data, app_data, app_data, mk_data, mk_data, txtL_snoc, if_neg h]
  simp [partL]
set_option maxRecDepth 20000 in
set_option maxHeartbeats 1000000 in
theorem rText_any (w : World) (V : Nat → Prop) (A : Option Addr) (n c : Nat) (l : List Lb) (h : In w V 2 A n (lcells l)) (hl : ∀ d ∈ l, d.1.size ≤ maxLen ∧ d.2.size ≤ maxLen) (hn : n ≤ 9223372036854775807) :
    Calls Tryd.prog 12 #[.slice A n c] w fun e w' => e = .returned (.tuple #[.string (textOf l), .int .i64 (rightE l)]) ∧ Grow w w' := by
  have hri := rRight_any w V A n c l h hl hn
  have hll := LIn.len h
  by_cases hR : rightE l = 0
  · obtain ⟨h8, hf⟩ := right_zero hR
    obtain ⟨hok, hnd, _⟩ := (fineB_is l).1 hf
    rw [hR] at hri ⊢
    rw [text_zero hR]
    have hn8 : n ≤ 8 := by omega
    clear hf
    obtain ⟨T, HT⟩ : ∃ T : ByteArray, Hid (T = txt (can l)) := ⟨_, rfl⟩
    rw [← HT.out]
    go_enter Tryd.func12, Tryd.ntmps12
    go_wp2_with fail
    refine hri.mono ?_
    rintro e w1 ⟨rfl, hg1⟩
    clear hri
    have hso := rSort_any w1 V A n c l (h.grow hg1) (by omega)
    go_wp2_with fail
    refine hso.mono ?_
    rintro e w2 ⟨A1, c1, q, rfl, hq, hI, hg2⟩
    clear hso h
    have hg02 := below_trans hg1 hg2 hg1.size
    have hqc : q = can l := hq.can_ hnd
    have hqo : ∀ d ∈ q, okL d = true := fun d hd => hok d (hq.perm.mem_iff.1 hd)
    have hql : q.length = n := by rw [hq.len]; exact hll
    have HQC := Lib.hid hqc
    have HQL := Lib.hid hql
    have HLL := Lib.hid hll
    clear hqc hql hll hR hnd
    go_wp2_with fail
    go_loopw [5, 16] (fun o i wr => ∃ k : Nat, k ≤ n ∧ i = .int .i64 (k : Int) ∧ o = .string (mk (txtL (q.take k))) ∧ Grow w2 wr) (fun _ i _ => n - (intOf i).toNat)
    case atStart => exact ⟨0, by omega, rfl, rfl, Grow.refl _⟩
    case round =>
      obtain ⟨i, hin, rfl, rfl, hgr⟩ := hrel
      by_cases hi : i < n
      · have hit : decide ((i : Int) < (n : Int)) = true := decide_eq_true (by omega)
        obtain ⟨ad, hqi, rfl, e0, e1⟩ := lab_at (hI.grow hgr) hi
        have ce0 := e0 wr (Grow.refl _)
        have ce1 := e1 wr (Grow.refl _)
        have hdo := hqo _ (List.getElem_mem hqi)
        have htk : Hid (q.take (i + 1) = q.take i ++ [q[i]]) := Lib.hid (List.take_succ_eq_append_getElem hqi)
        generalize q[i] = d at ce0 ce1 hdo htk
        have hds := ok_small hdo
        have hts : (mk (txtL (q.take i))).size ≤ 528 := by
          have h1 := txt_len (q.take i) fun d hd => hqo d (List.mem_of_mem_take hd)
          have h2 : (q.take i).length ≤ i := List.length_take_le _ _
          show (txtL (q.take i)).toArray.size ≤ _
          rw [List.size_toArray]; omega
        have hin2 : ¬ n ≤ i := by omega
        have hga : Grow wr (wr.alloc (.cells #[.string d.1, .string d.2] 25)) := (Below.refl _ _).alloc (Nat.le_refl _) _
        clear e0 e1
        by_cases h0 : i = 0
        · have hnx : Hid (mk (txtL (q.take (i + 1))) = mk (txtL (q.take i)) ++ d.1 ++ { data := #[61] } ++ d.2) := Lib.hid (by
            rw [htk.out, h0]; exact txt_first d)
          have hp0 : decide ((0 : Int) < (i : Int)) = false := decide_eq_false (by omega)
          have hi0 : ¬ 0 < i := by omega
          have H0 := Lib.hid h0
          clear h0
          generalize hto : mk (txtL (q.take i)) = t0 at hnx hts ⊢
          clear hto
          go_wp2_with fail
          go_roundw
          case rel => exact ⟨i + 1, by omega, by go_num, by rw [hnx.out], hgr.trans hga⟩
          case measure => simp [intOf]; omega
        · have hnx : Hid (mk (txtL (q.take (i + 1))) = mk (txtL (q.take i)) ++ { data := #[44] } ++ d.1 ++ { data := #[61] } ++ d.2) := Lib.hid (by
            rw [htk.out]
            exact txt_next (fun e => h0 (by have := congrArg List.length e; rw [List.length_take] at this; simp only [List.length_nil] at this; omega)) d)
          have hp0 : decide ((0 : Int) < (i : Int)) = true := decide_eq_true (by omega)
          generalize hto : mk (txtL (q.take i)) = t0 at hnx hts ⊢
          clear hto
          go_wp2_with fail
          go_roundw
          case rel => exact ⟨i + 1, by omega, by go_num, by rw [hnx.out], hgr.trans hga⟩
          case measure => simp [intOf]; omega
      · obtain rfl : n = i := by omega
        have hit : decide ((n : Int) < (n : Int)) = false := decide_eq_false (by omega)
        have hT : mk (txtL (q.take n)) = T := by rw [HT.out, ← HQC.out, List.take_of_length_le (by have := HQL.out; omega)]; rfl
        rw [hT]
        have hgw := below_trans hg02 hgr hg02.size
        clear hT
        go_wp2_with fail
        go_ret2
        exact ⟨rfl, hgw⟩
  · rw [text_not hR]
    have hR2 : (rightE l == 0) = false := beq_eq_false_iff_ne.2 hR
    generalize rightE l = R at hri hR hR2 ⊢
    go_enter Tryd.func12, Tryd.ntmps12
    go_wp2_with fail
    refine hri.mono ?_
    rintro e w1 ⟨rfl, hg1⟩
    clear hri
    go_wp2_with fail
    go_ret2
    exact ⟨rfl, hg1⟩
end Go.Proofs.YthkkfdnechmddaaDoor
