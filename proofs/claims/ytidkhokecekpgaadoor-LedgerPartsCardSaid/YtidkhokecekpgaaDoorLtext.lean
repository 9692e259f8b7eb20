/- label.Text: its walk. -/
import Derived.Test.YtidkhokecekpgaaDoorLright
import Derived.Test.YtidkhokecekpgaaDoorLstrs
namespace Go.Proofs.YtidkhokecekpgaaDoor
open Go.RowKit Go.Hop
def eqB : ByteArray := { data := #[61] }
def commaB : ByteArray := { data := #[44] }
def partB (d : Lb) : ByteArray := d.1 ++ eqB ++ d.2
theorem app_data (a b : ByteArray) : (a ++ b).data.toList = a.data.toList ++ b.data.toList := by
  rw [ByteArray.data_append, Array.toList_append]
theorem partB_data (d : Lb) : (partB d).data.toList = partL d := by
  unfold partB partL
  rw [app_data, app_data, List.append_assoc]
  rfl
theorem ok_small {d : Lb} (h : okL d = true) : d.1.size ≤ 32 ∧ d.2.size ≤ 32 := by
  unfold okL at h
  simp only [Bool.and_eq_true] at h
  exact ⟨(name_small h.1).2, (name_small h.2).2⟩
theorem text_zero {l : List Lb} (h : rightE l = 0) : textOf l = txt (can l) := by unfold textOf; rw [if_pos h]
theorem text_not {l : List Lb} (h : rightE l ≠ 0) : textOf l = { data := #[] } := by unfold textOf; rw [if_neg h]; rfl
set_option maxRecDepth 20000 in
set_option maxHeartbeats 1000000 in
theorem Text_any (w : World) (V : Nat → Prop) (A : Option Addr) (n c : Nat) (l : List Lb) (h : In w V 2 A n (lcells l)) (hl : ∀ d ∈ l, d.1.size ≤ maxLen ∧ d.2.size ≤ maxLen) (hn : n ≤ 9223372036854775807) :
    Calls Tryd.prog 35 #[.slice A n c] w fun e w' => e = .returned (.tuple #[.string (textOf l), .int .i64 (rightE l)]) ∧ Grow w w' := by
  have hri := Right_any w V A n c l h hl hn
  have hll := LIn.len h
  by_cases hR : rightE l = 0
  · obtain ⟨h8, hf⟩ := right_zero hR
    obtain ⟨hok, hnd, _⟩ := (fineB_is l).1 hf
    rw [hR] at hri ⊢
    rw [text_zero hR]
    have hn8 : n ≤ 8 := by omega
    clear hf
    obtain ⟨T, HT⟩ : ∃ T : ByteArray, Hid (T = txt (can l)) := ⟨_, rfl⟩
    rw [← HT.out]
    go_enter Tryd.func35, Tryd.ntmps35
    go_wp2_with fail
    refine hri.mono ?_
    rintro e w1 ⟨rfl, hg1⟩
    clear hri
    have hso := sorted_any w1 V A n c l (h.grow hg1) (by omega)
    go_wp2_with fail
    refine hso.mono ?_
    rintro e w2 ⟨A1, q, rfl, hq, hI, hg2⟩
    clear hso h
    have hg02 := below_trans hg1 hg2 hg1.size
    have hqc : q = can l := hq.can_ hnd
    have hqo : ∀ d ∈ q, okL d = true := fun d hd => hok d (hq.perm.mem_iff.1 hd)
    have hql : q.length = n := by rw [hq.len]; exact hll
    have HQC := Lib.hid hqc
    have HQL := Lib.hid hql
    have HLL := Lib.hid hll
    clear hqc hql hll hR hnd
    go_wp2_with fail
    go_loopw [5, 16] (fun o i wr => ∃ k : Nat, k ≤ n ∧ i = .int .i64 (k : Int) ∧ Own wr (New w2 wr) 9 1 o k (((q.take k).map partB).map Value.string) ∧ Grow w2 wr) (fun _ i _ => n - (intOf i).toNat)
    case atStart => exact ⟨0, by omega, rfl, Own.nil, Grow.refl _⟩
    case round =>
      obtain ⟨i, hin, rfl, hO, hgr⟩ := hrel
      obtain ⟨Ab, cb, rfl, hIb, hnb, hmb⟩ := hO.in_
      have hsr := hgr.size
      by_cases hi : i < n
      · have hit : decide ((i : Int) < (n : Int)) = true := decide_eq_true (by omega)
        obtain ⟨ad, hqi, rfl, e0, e1⟩ := lab_at (hI.grow hgr) hi
        have ce0 := e0 wr (Grow.refl _)
        have ce1 := e1 wr (Grow.refl _)
        have hdo := hqo _ (List.getElem_mem hqi)
        have htk : Hid (((q.take (i + 1)).map partB).map Value.string = ((q.take i).map partB).map Value.string ++ [partB q[i]].map Value.string) := Lib.hid (by
          rw [List.take_succ_eq_append_getElem hqi, List.map_append, List.map_append]; rfl)
        generalize q[i] = d at ce0 ce1 hdo htk
        have hds := ok_small hdo
        have hin2 : ¬ n ≤ i := by omega
        clear e0 e1 hIb
        go_wp2_with (at_builtin; refine stay ?_)
        refine stay_out ?_
        have hga : Grow wr ((wr.alloc (.cells #[.string d.1, .string d.2] 36)).alloc (.cells #[.string (d.1 ++ { data := #[61] } ++ d.2)] 9)) := ((Below.refl _ _).alloc (Nat.le_refl _) _).alloc (by simp) _
        refine wpList_own (V := New w2 wr) strE _ rfl (.tmp 20) (.tmp 27) rfl (.slice Ab i cb) i (((q.take i).map partB).map Value.string) rfl (hO.grow (fun b hb => hb.2) hga) (wr.heap.size + 1 + 1) (some ⟨wr.heap.size + 1, 0, none⟩) 1 1 ([partB d].map Value.string) rfl (reads_laid (wr.alloc (.cells #[.string d.1, .string d.2] 36)) #[.string (d.1 ++ { data := #[61] } ++ d.2)] 9 (0, 0) (n := 1) (size := 1) rfl (wr.heap.size + 1) (by simp)) (scells_one _) (by omega) ?_
        intro v5 w5 hO5 hj5
        have hs5 := hj5.size
        simp at hs5
        rw [← htk.out] at hO5
        have hO6 : Own w5 (New w2 w5) 9 1 v5 (i + 1) (((q.take (i + 1)).map partB).map Value.string) := by
          refine hO5.mono fun b hb => ?_
          rcases hb with hb | hb
          · exact ⟨hb.1, by have := hb.2; omega⟩
          · have h6 := hb.1
            simp at h6
            exact ⟨by omega, hb.2⟩
        have hg6 : Grow w2 w5 := Below.trans (below_trans hgr hga hsr) (hj5.below (B := w2.heap.size) (fun b hb => hb.1) (by simp; omega))
        clear hO5 hj5 hO hga ce0 ce1
        go_wp2_with fail
        go_roundw
        case rel => exact ⟨i + 1, by omega, by go_num, hO6, hg6⟩
        case measure => simp [intOf]; omega
      · obtain rfl : n = i := by omega
        have hit : decide ((n : Int) < (n : Int)) = false := decide_eq_false (by omega)
        have hqt : q.take n = q := List.take_of_length_le (by have := HQL.out; omega)
        rw [hqt] at hIb
        have htl := txt_len q hqo
        have hqn := HQL.out
        have e : (q.map partB).map (·.data.toList) = q.map partL := by
          rw [List.map_map]
          exact List.map_congr_left fun d _ => partB_data d
        have hjo := Join_any wr _ Ab n cb (q.map partB) commaB hIb hnb (by omega) (by rw [e]; show (txtL q).length ≤ _; omega)
        rw [e] at hjo
        have hT : mk (Lib.join (q.map partL) commaB.data.toList) = T := by rw [HT.out, ← HQC.out]; rfl
        rw [hT] at hjo
        clear e hqt htl hqn hO hIb hT
        have hgw := below_trans hg02 hgr hg02.size
        go_wp2_with fail
        refine hjo.mono ?_
        rintro e w8 ⟨rfl, hg8⟩
        clear hjo
        go_wp2_with fail
        go_ret2
        exact ⟨rfl, below_trans hgw hg8 hgw.size⟩
  · rw [text_not hR]
    have hR2 : (rightE l == 0) = false := beq_eq_false_iff_ne.2 hR
    generalize rightE l = R at hri hR hR2 ⊢
    go_enter Tryd.func35, Tryd.ntmps35
    go_wp2_with fail
    refine hri.mono ?_
    rintro e w1 ⟨rfl, hg1⟩
    clear hri
    go_wp2_with fail
    go_ret2
    exact ⟨rfl, hg1⟩
end Go.Proofs.YtidkhokecekpgaaDoor
