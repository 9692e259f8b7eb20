/- The answer's split: its walk. -/
import Derived.Test.YthkkfdnechmddaaDoorLstrs
import Derived.Test.YthkkfdnechmddaaDoorMore
namespace Go.Proofs.YthkkfdnechmddaaDoor
open Go.RowKit Go.Hop
theorem cell_drop {s : ByteArray} {a k : Nat} (hk : k < s.size) (ha : a ≤ k) : s.data.toList.drop a = (s.data.toList.drop a).take (k - a) ++ s[k] :: s.data.toList.drop (k + 1) := by
  have hl : k < s.data.toList.length := by simpa using hk
  conv => lhs; rw [← List.take_append_drop (k - a) (s.data.toList.drop a)]
  rw [List.drop_drop, show a + (k - a) = k by omega, List.drop_eq_getElem_cons hl]
  rfl
theorem seg_no {s : ByteArray} {c : UInt8} {a k : Nat} (hk : k ≤ s.size) (h : ∀ j (hj : j < s.size), a ≤ j → j < k → s[j] ≠ c) : c ∉ (s.data.toList.drop a).take (k - a) := fun hm => by
  obtain ⟨i, hi, e⟩ := List.getElem_of_mem hm
  rw [List.length_take, List.length_drop] at hi
  rw [List.getElem_take, List.getElem_drop] at e
  have hl : s.data.toList.length = s.size := by rw [Array.length_toList]; rfl
  refine h (a + i) (by omega) (by omega) (by omega) ?_
  rw [← e]
  rfl
theorem ext_mk (s : ByteArray) (a k : Nat) : s.extract a k = mk ((s.data.toList.drop a).take (k - a)) := by
  refine ba_ext ?_
  rw [Lib.extract_data, mk_data]
set_option maxRecDepth 20000 in
set_option maxHeartbeats 1000000 in
theorem rsplit_any (w : World) (s : ByteArray) (c : UInt8) (hs : s.size ≤ 1000000) :
    Calls Tryd.prog 34 #[.string s, .int .u8 (c.toNat : Int)] w fun e w' => ∃ A cp, e = .returned (.slice A (cutAll c s.data.toList).length cp) ∧ In w' (New w w') 1 A (cutAll c s.data.toList).length (((cutAll c s.data.toList).map mk).map Value.string) ∧ Grow w w' := by
  obtain ⟨R, HR⟩ : ∃ R, Hid (R = cutAll c s.data.toList) := ⟨_, rfl⟩
  rw [← HR.out]
  go_enter Tryd.func34, Tryd.ntmps34
  go_wp2_with fail
  go_loopw [5, 6, 7] (fun o at_ i wr => ∃ (P : List (List UInt8)) (a k : Nat), a ≤ k ∧ k ≤ s.size ∧ at_ = .int .i64 (a : Int) ∧ i = .int .i64 (k : Int) ∧ P.length ≤ k ∧ R = P ++ cutAll c (s.data.toList.drop a) ∧ (∀ j (hj : j < s.size), a ≤ j → j < k → s[j] ≠ c) ∧ Own wr (New w wr) 9 1 o P.length ((P.map mk).map Value.string) ∧ Grow w wr) (fun _ _ i _ => s.size - (intOf i).toNat)
  case atStart => exact ⟨[], 0, 0, by omega, by omega, rfl, rfl, by simp, HR.out, fun _ _ _ h => absurd h (by omega), Own.nil, Grow.refl _⟩
  case round =>
    obtain ⟨P, a, k, hak, hks, rfl, rfl, hPk, hP, hno, hO, hgr⟩ := hrel
    obtain ⟨Ab, cb, rfl, hIb, hnb, hmb⟩ := hO.in_
    have HP := Lib.hid hP
    have HNO := Lib.hid hno
    have hsr := hgr.size
    clear hP hno hIb
    by_cases hk : k < s.size
    · have hkt : decide ((k : Int) < (s.size : Int)) = true := decide_eq_true (by omega)
      by_cases hc : s[k] = c
      · have hce : ((s[k].toNat : Int) == (c.toNat : Int)) = true := by rw [hc]; simp
        have hnx : Hid (R = (P ++ [(s.data.toList.drop a).take (k - a)]) ++ cutAll c (s.data.toList.drop (k + 1))) := Lib.hid (by
          have e := cell_drop hk hak
          rw [hc] at e
          have h2 := HP.out
          rw [e, cutAll_hit (seg_no hks HNO.out)] at h2
          rw [h2, List.append_assoc]; rfl)
        have hem := ext_mk s a k
        have HC := Lib.hid hc
        have HEM := Lib.hid hem
        generalize hseg : s.extract a k = sg at HEM
        have HSG := Lib.hid hseg
        have hga : Grow wr (wr.alloc (.cells #[.string sg] 9)) := (Below.refl _ _).alloc (Nat.le_refl _) _
        clear hc hem
        go_wp2_with (at_builtin; refine stay ?_)
        refine stay_out ?_
        refine wpList_own (V := New w wr) strE _ rfl (.tmp 19) (.tmp 24) rfl (.slice Ab P.length cb) P.length ((P.map mk).map Value.string) rfl (hO.grow (fun b hb => hb.2) hga) (wr.heap.size + 1) (some ⟨wr.heap.size, 0, none⟩) 1 1 ([sg].map Value.string) rfl (reads_laid wr #[.string sg] 9 (0, 0) (n := 1) (size := 1) rfl wr.heap.size rfl) (scells_one _) (by omega) ?_
        intro v5 w5 hO5 hj5
        have hs5 := hj5.size
        simp at hs5
        have hO6 : Own w5 (New w w5) 9 1 v5 (P ++ [(s.data.toList.drop a).take (k - a)]).length (((P ++ [(s.data.toList.drop a).take (k - a)]).map mk).map Value.string) := by
          rw [List.length_append, List.map_append, List.map_append, List.map_cons, ← HEM.out]
          refine hO5.mono fun b hb => ?_
          rcases hb with hb | hb
          · exact ⟨hb.1, by have := hb.2; omega⟩
          · have h6 := hb.1
            simp at h6
            exact ⟨by omega, hb.2⟩
        have hg6 : Grow w w5 := Below.trans (below_trans hgr hga hsr) (hj5.below (B := w.heap.size) (fun b hb => hb.1) (by simp; omega))
        have hPl : (P ++ [(s.data.toList.drop a).take (k - a)]).length ≤ k + 1 := by rw [List.length_append]; simp; omega
        generalize P ++ [(s.data.toList.drop a).take (k - a)] = P6 at hnx hO6 hPl
        clear hO5 hj5 hO hga
        go_wp2_with fail
        go_roundw
        case rel => exact ⟨P6, k + 1, k + 1, by omega, by omega, by go_num, by go_num, hPl, hnx.out, fun _ _ h1 h2 => absurd h1 (by omega), hO6, hg6⟩
        case measure => simp [intOf]; omega
      · have hce : ((s[k].toNat : Int) == (c.toNat : Int)) = false := beq_eq_false_iff_ne.2 fun e => hc (UInt8.toNat_inj.1 (by omega))
        have HC := Lib.hid hc
        clear hc
        go_wp2_with fail
        go_roundw
        case rel =>
          refine ⟨P, a, k + 1, by omega, by omega, rfl, by go_num, by omega, HP.out, fun j hj h1 h2 => ?_, hO, hgr⟩
          rcases Nat.lt_or_ge j k with h | h
          · exact HNO.out j hj h1 h
          · obtain rfl : j = k := by omega
            exact HC.out
        case measure => simp [intOf]; omega
    · obtain rfl : k = s.size := by omega
      have hkt : decide ((s.size : Int) < (s.size : Int)) = false := decide_eq_false (by omega)
      have hdt : (s.data.toList.drop a).take (s.size - a) = s.data.toList.drop a := List.take_of_length_le (by rw [List.length_drop, Array.length_toList]; exact Nat.le_refl _)
      have hfin : Hid (R = P ++ [s.data.toList.drop a]) := Lib.hid (by
        have h2 := HP.out
        have h3 := seg_no (Nat.le_refl s.size) HNO.out
        rw [hdt] at h3
        rwa [cutAll_no h3] at h2)
      have HEM := Lib.hid (ext_mk s a s.size)
      generalize hseg : s.extract a s.size = sg at HEM
      have HSG := Lib.hid hseg
      have HDT := Lib.hid hdt
      have hga : Grow wr (wr.alloc (.cells #[.string sg] 9)) := (Below.refl _ _).alloc (Nat.le_refl _) _
      clear hdt
      go_wp2_with (at_builtin; refine stay ?_)
      refine stay_out ?_
      refine wpList_own (V := New w wr) strE _ rfl (.tmp 28) (.tmp 32) rfl (.slice Ab P.length cb) P.length ((P.map mk).map Value.string) rfl (hO.grow (fun b hb => hb.2) hga) (wr.heap.size + 1) (some ⟨wr.heap.size, 0, none⟩) 1 1 ([sg].map Value.string) rfl (reads_laid wr #[.string sg] 9 (0, 0) (n := 1) (size := 1) rfl wr.heap.size rfl) (scells_one _) (by omega) ?_
      intro v5 w5 hO5 hj5
      have hs5 := hj5.size
      simp at hs5
      have hO6 : Own w5 (New w w5) 9 1 v5 R.length ((R.map mk).map Value.string) := by
        rw [hfin.out, List.length_append, List.map_append, List.map_append, List.map_cons, ← HDT.out, ← HEM.out]
        refine hO5.mono fun b hb => ?_
        rcases hb with hb | hb
        · exact ⟨hb.1, by have := hb.2; omega⟩
        · have h6 := hb.1
          simp at h6
          exact ⟨by omega, hb.2⟩
      have hg6 : Grow w w5 := Below.trans (below_trans hgr hga hsr) (hj5.below (B := w.heap.size) (fun b hb => hb.1) (by simp; omega))
      obtain ⟨A6, c6, rfl, hI6, _, _⟩ := hO6.in_
      clear hO5 hj5 hO hga hO6
      go_wp2_with fail
      go_ret
      exact ⟨A6, c6, rfl, hI6, hg6⟩
end Go.Proofs.YthkkfdnechmddaaDoor
