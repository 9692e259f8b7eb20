/- label.Parse: its walk. -/
import Derived.Test.YtidkhokecekpgaaDoorLtext
namespace Go.Proofs.YtidkhokecekpgaaDoor
open Go.RowKit Go.Hop
theorem piece_small (c : UInt8) : ∀ (s : List UInt8), ∀ p ∈ cutAll c s, p.length ≤ s.length
  | [], p, h => by
    rw [cutAll, List.mem_singleton] at h
    rw [h]; exact Nat.le_refl _
  | b :: r, p, h => by
    have ih := piece_small c r
    unfold cutAll at h
    split at h
    · rcases List.mem_cons.1 h with rfl | h
      · exact Nat.zero_le _
      · have := ih p h; rw [List.length_cons]; omega
    · split at h
      · rw [List.mem_singleton.1 h]; simp
      · rename_i q qs e
        rcases List.mem_cons.1 h with rfl | h
        · have := ih q (by rw [e]; exact List.mem_cons_self)
          rw [List.length_cons, List.length_cons]; omega
        · have := ih p (by rw [e]; exact List.mem_cons_of_mem _ h)
          rw [List.length_cons]; omega
theorem labelOf_small (p : List UInt8) : (labelOf p).1.size ≤ p.length ∧ (labelOf p).2.size ≤ p.length := by
  have e : ∀ l : List UInt8, (mk l).size = l.length := fun l => by show l.toArray.size = _; rw [List.size_toArray]
  unfold labelOf
  rw [e, e]
  unfold Lib.cut
  split
  · exact ⟨by rw [List.length_take]; omega, by rw [List.length_drop]; omega⟩
  · exact ⟨Nat.le_refl _, Nat.zero_le _⟩
theorem data_len (s : ByteArray) : s.data.toList.length = s.size := by rw [Array.length_toList]; rfl
theorem labels_small {s : ByteArray} (hs : s.size ≤ 1000000) : ∀ d ∈ labelsOf s, d.1.size ≤ maxLen ∧ d.2.size ≤ maxLen := fun d hd => by
  obtain ⟨p, hp, rfl⟩ := List.mem_map.1 hd
  have h1 := piece_small 44 _ p hp
  have h2 := labelOf_small p
  rw [data_len] at h1
  unfold maxLen
  omega
theorem parse_no1 {s : ByteArray} (h : rightE (labelsOf s) ≠ 0) : parseE s = 12 ∧ parseL s = [] := by
  have : parseOk s = false := by unfold parseOk; rw [decide_eq_false h, Bool.false_and]
  unfold parseE parseL; rw [this]; exact ⟨rfl, rfl⟩
theorem parse_no2 {s : ByteArray} (h : textOf (labelsOf s) ≠ s) : parseE s = 12 ∧ parseL s = [] := by
  by_cases h0 : rightE (labelsOf s) = 0
  · rw [text_zero h0] at h
    have : parseOk s = false := by unfold parseOk; rw [decide_eq_false h, Bool.and_false]
    unfold parseE parseL; rw [this]; exact ⟨rfl, rfl⟩
  · exact parse_no1 h0
theorem parse_yes {s : ByteArray} (h0 : rightE (labelsOf s) = 0) (h : textOf (labelsOf s) = s) : parseE s = 0 ∧ parseL s = labelsOf s := by
  rw [text_zero h0] at h
  have : parseOk s = true := by unfold parseOk; rw [decide_eq_true h0, decide_eq_true h]; rfl
  unfold parseE parseL; rw [this]; exact ⟨rfl, rfl⟩
set_option maxRecDepth 20000 in
set_option maxHeartbeats 1000000 in
theorem Parse_any (w : World) (s : ByteArray) (hs : s.size ≤ 1000000) :
    Calls Tryd.prog 16 #[.string s] w fun e w' => ∃ A c, e = .returned (.tuple #[.slice A (parseL s).length c, .int .i64 (parseE s)]) ∧ In w' (New w w') 2 A (parseL s).length (lcells (parseL s)) ∧ (parseL s).length ≤ c ∧ Grow w w' := by
  have hsp := Split_any w s 44 (by omega)
  obtain ⟨P, HP⟩ : ∃ P, Hid (P = cutAll 44 s.data.toList) := ⟨_, rfl⟩
  have HL : Hid (labelsOf s = P.map labelOf) := Lib.hid (by rw [HP.out]; rfl)
  have hPl : P.length ≤ s.size + 1 := by rw [HP.out, ← data_len]; exact cutAll_len 44 _
  have hps : ∀ p ∈ P, p.length ≤ s.size := fun p hp => by
    have := piece_small 44 s.data.toList p (by rw [← HP.out]; exact hp)
    rwa [data_len] at this
  rw [← HP.out] at hsp
  obtain ⟨K, HK⟩ : ∃ K : Nat, Hid (K = P.length) := ⟨_, rfl⟩
  rw [← HK.out] at hsp hPl
  go_enter Tryd.func16, Tryd.ntmps16
  go_wp2_with fail
  refine hsp.mono ?_
  rintro e w1 ⟨A, rfl, hI, hg1⟩
  clear hsp
  go_wp2_with fail
  go_loopw [4, 15] (fun o i wr => ∃ k : Nat, k ≤ K ∧ i = .int .i64 (k : Int) ∧ Own wr (New w1 wr) 36 2 o k (lcells ((P.take k).map labelOf)) ∧ Grow w1 wr) (fun _ i _ => K - (intOf i).toNat)
  case atStart => exact ⟨0, by omega, rfl, Own.nil, Grow.refl _⟩
  case round =>
    obtain ⟨i, hiK, rfl, hO, hgr⟩ := hrel
    obtain ⟨Ab, cb, rfl, hIb, hnb, hmb⟩ := hO.in_
    have hsr := hgr.size
    by_cases hi : i < K
    · have hit : decide ((i : Int) < (K : Int)) = true := decide_eq_true (by omega)
      have hI' : In wr (New w w1) 1 A K ((P.map mk).map Value.string) := hI.grow hgr
      obtain ⟨ad, hqi, rfl, e0⟩ := str_at hI' hi
      have ce0 := e0 wr (Grow.refl _)
      rw [List.getElem_map] at ce0
      have hqP : i < P.length := by simpa using hqi
      have hpm := hps _ (List.getElem_mem hqP)
      have htk : Hid (lcells ((P.take (i + 1)).map labelOf) = lcells ((P.take i).map labelOf) ++ lcells [labelOf P[i]]) := Lib.hid (by
        rw [List.take_succ_eq_append_getElem hqP, List.map_append]
        unfold lcells
        rw [List.flatMap_append]; rfl)
      generalize P[i] = p at ce0 hpm htk
      have hcu := Cut_any wr (mk p) 61 (by show p.toArray.size < _; rw [List.size_toArray]; omega)
      rw [mk_data] at hcu
      have hlo : Hid (labelOf p = (mk (Lib.cut p [61]).1, mk (Lib.cut p [61]).2.1)) := Lib.hid rfl
      generalize mk (Lib.cut p [61]).1 = x at hcu hlo
      generalize mk (Lib.cut p [61]).2.1 = y at hcu hlo
      generalize (Lib.cut p [61]).2.2 = z at hcu
      have hin2 : ¬ K ≤ i := by omega
      clear e0 hI' hIb
      go_wp2_with fail
      refine hcu.mono ?_
      rintro e w3 ⟨rfl, hg3⟩
      clear hcu ce0
      have hs3 := hg3.size
      have hga : Grow w3 (w3.alloc (.cells #[.string x, .string y] 36)) := (Below.refl _ _).alloc (Nat.le_refl _) _
      have hO3 := hO.grow (fun b hb => hb.2) hg3
      go_wp2_with (at_builtin; refine stay ?_)
      refine stay_out ?_
      refine wpList_own (V := New w1 wr) labelE _ rfl (.tmp 25) (.tmp 29) rfl (.slice Ab i cb) i (lcells ((P.take i).map labelOf)) rfl (hO3.grow (fun b hb => by have := hb.2; omega) hga) (w3.heap.size + 1) (some ⟨w3.heap.size, 0, none⟩) 1 1 (lcells [labelOf p]) rfl (by rw [hlo.out]; exact reads_laid w3 #[.string x, .string y] 36 (0, 0) (n := 1) (size := 2) rfl w3.heap.size rfl) (lcells_one _) (by omega) ?_
      intro v5 w5 hO5 hj5
      have hs5 := hj5.size
      simp at hs5
      rw [← htk.out] at hO5
      have hO6 : Own w5 (New w1 w5) 36 2 v5 (i + 1) (lcells ((P.take (i + 1)).map labelOf)) := by
        refine hO5.mono fun b hb => ?_
        rcases hb with hb | hb
        · exact ⟨hb.1, by have := hb.2; omega⟩
        · have h6 := hb.1
          simp at h6
          exact ⟨by omega, hb.2⟩
      have hg6 : Grow w1 w5 := Below.trans (below_trans (below_trans hgr hg3 hsr) hga (by omega)) (hj5.below (B := w1.heap.size) (fun b hb => hb.1) (by simp; omega))
      clear hO5 hj5 hO hO3 hga
      go_wp2_with fail
      go_roundw
      case rel => exact ⟨i + 1, by omega, by go_num, hO6, hg6⟩
      case measure => simp [intOf]; omega
    · obtain rfl : K = i := by omega
      have hit : decide ((K : Int) < (K : Int)) = false := decide_eq_false (by omega)
      have hPt : (P.take K).map labelOf = labelsOf s := by rw [HL.out, List.take_of_length_le (by have := HK.out; omega)]
      rw [hPt] at hIb
      have hls := labels_small hs
      have htx := Text_any wr _ Ab K cb (labelsOf s) hIb hls (by omega)
      have hKl : Hid ((labelsOf s).length = K) := Lib.hid (LIn.len hIb)
      have hgw := below_trans hg1 hgr hg1.size
      have hs1 := hg1.size
      clear hPt hO hls
      by_cases hR : rightE (labelsOf s) = 0
      · have hRb : (rightE (labelsOf s) == 0) = true := by rw [hR]; rfl
        by_cases hT : textOf (labelsOf s) = s
        · have HY := Lib.hid (parse_yes hR hT)
          rw [hR, hT] at htx
          clear hR hT hRb
          go_wp2_with fail
          refine htx.mono ?_
          rintro e w5 ⟨rfl, hg5⟩
          clear htx
          go_wp2_with (go_at_call 36; refine (clip_lab _ _ _ _ hnb).mono ?_; rintro e w' ⟨rfl, rfl⟩)
          go_ret2
          have hs5 := hg5.size
          rw [HY.out.1, HY.out.2, hKl.out]
          exact ⟨Ab, K, rfl, (hIb.grow hg5).mono fun b hb => ⟨by have := hb.1; omega, by have := hb.2; omega⟩, Nat.le_refl _, below_trans hgw hg5 hgw.size⟩
        · have HY := Lib.hid (parse_no2 hT)
          rw [hR] at htx
          have hTb := str_eqb hT
          clear hR hT hRb
          generalize textOf (labelsOf s) = T at htx hTb
          go_wp2_with fail
          refine htx.mono ?_
          rintro e w5 ⟨rfl, hg5⟩
          clear htx
          go_wp2_with fail
          go_ret2
          rw [HY.out.1, HY.out.2]
          exact ⟨none, 0, rfl, In.nil, Nat.le_refl _, below_trans hgw hg5 hgw.size⟩
      · have HY := Lib.hid (parse_no1 hR)
        have hRb : (rightE (labelsOf s) == 0) = false := beq_eq_false_iff_ne.2 hR
        clear hIb
        generalize textOf (labelsOf s) = T at htx
        generalize rightE (labelsOf s) = R at htx hR hRb
        go_wp2_with fail
        refine htx.mono ?_
        rintro e w5 ⟨rfl, hg5⟩
        clear htx
        go_wp2_with fail
        go_ret2
        rw [HY.out.1, HY.out.2]
        exact ⟨none, 0, rfl, In.nil, Nat.le_refl _, below_trans hgw hg5 hgw.size⟩
end Go.Proofs.YtidkhokecekpgaaDoor
