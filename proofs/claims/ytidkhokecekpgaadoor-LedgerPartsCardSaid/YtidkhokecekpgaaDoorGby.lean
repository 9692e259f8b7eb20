/- ledger.By: its walk. -/
import Derived.Test.YtidkhokecekpgaaDoorGsort
namespace Go.Proofs.YtidkhokecekpgaaDoor
open Go.RowKit Go.Hop
theorem byVL_take {name : ByteArray} {L : List Lb} {j : Nat} (hj : j < L.length) : byVL name (L.take (j + 1)) = if L[j].1 = name then L[j].2 else byVL name (L.take j) := by
  unfold byVL
  rw [List.take_succ_eq_append_getElem hj, List.foldl_append]
  rfl
theorem byM_take {name : ByteArray} {q : List Dl} {k : Nat} (hk : k < q.length) : byM name (q.take (k + 1)) = if parseE q[k].1 = 0 then byM name (q.take k) ++ [(byV name q[k].1, q[k].2)] else byM name (q.take k) := by
  unfold byM
  rw [List.take_succ_eq_append_getElem hk, List.filter_append, List.map_append]
  by_cases h : parseE q[k].1 = 0
  · rw [if_pos h, List.filter_cons, if_pos (decide_eq_true h)]; rfl
  · rw [if_neg h, List.filter_cons, if_neg (by simpa using h)]; simp
theorem byM_len (name : ByteArray) (q : List Dl) : (byM name q).length ≤ q.length := by
  unfold byM
  rw [List.length_map]
  exact List.length_filter_le _ _
theorem joinD_len : ∀ (q r : List Dl), (q.foldl putD r).length ≤ q.length + r.length
  | [], r => by simp
  | x :: q, r => by
    have := joinD_len q (putD r x)
    have := putD_len r x
    rw [List.foldl_cons, List.length_cons]
    omega
set_option maxRecDepth 100000 in
set_option maxHeartbeats 1000000 in
theorem By_any (w : World) (V : Nat → Prop) (A : Option Addr) (n c : Nat) (q : List Dl) (h : In w V 2 A n (dcells q)) (hn : n ≤ 1000000) (hf : Fit q) (name : ByteArray) :
    Calls Tryd.prog 8 #[.slice A n c, .string name] w fun e w' => ∃ A' r, e = .returned (.slice A' r.length r.length) ∧ ByD r (byM name q) ∧ In w' (New w w') 2 A' r.length (dcells r) ∧ Grow w w' := by
  have hll := DIn.len' h
  have HLL := Lib.hid hll
  clear hll
  go_enter Tryd.func8, Tryd.ntmps8
  go_wp2_with fail
  go_loopw [5, 15] (fun o i wr => ∃ (k : Nat) (r : List Dl), k ≤ n ∧ i = .int .i64 (k : Int) ∧ r = byM name (q.take k) ∧ r.length ≤ k ∧ Own wr (New w wr) 30 2 o r.length (dcells r) ∧ Grow w wr) (fun _ i _ => n - (intOf i).toNat)
  case atStart => exact ⟨0, [], by omega, rfl, rfl, by simp, Own.nil, Grow.refl _⟩
  case round =>
    obtain ⟨k, r, hkn, rfl, hr, hrk, hO, hgr⟩ := hrel
    obtain ⟨A1, c1, rfl, hI1, hn1, hm1⟩ := hO.in_
    obtain ⟨wo, rfl⟩ : ∃ wo : World, wo = wr := ⟨_, rfl⟩
    by_cases hk : k < n
    · have hd : decide ((k : Int) < (n : Int)) = true := decide_eq_true (by omega)
      obtain ⟨ad, hq, rfl, f0, f1⟩ := del_at (h.grow hgr) hk
      have e0 := f0 wo (Grow.refl _)
      have e1 := f1 wo (Grow.refl _)
      have hk' : ¬ n ≤ k := by omega
      have hbt := byM_take (name := name) hq
      rw [← hr] at hbt
      have HBT := Lib.hid hbt
      have hfk := hf _ (List.getElem_mem hq)
      generalize q[k] = d at e0 e1 HBT hfk
      clear f0 f1 hr hbt
      obtain ⟨x, HX⟩ : ∃ x : Nat, Hid (x = wo.heap.size) := ⟨_, rfl⟩
      obtain ⟨w2, HW⟩ : ∃ w2 : World, Hid (w2 = wo.alloc (.cells #[.string d.1, .int .u64 (d.2 : Int)] 30)) := ⟨_, rfl⟩
      have hg2 : Grow wo w2 := by rw [HW.out]; exact (Below.refl _ _).alloc (Nat.le_refl _) _
      have hB2 : Blk w2 x 30 #[.string d.1, .int .u64 (d.2 : Int)] := by rw [HW.out, HX.out]; exact Blk.made wo _ _
      have hP := Parse_any w2 d.1 hfk.1
      have hlenL : (parseL d.1).length ≤ 1048576 := by
        unfold parseL
        split
        · have hs := hfk.1
          unfold labelsOf; rw [List.length_map]; have := cutAll_len 44 d.1.data.toList; rw [data_len] at this; omega
        · simp
      have hE : parseE d.1 = 0 ∨ parseE d.1 = 12 := by unfold parseE; split <;> simp
      unfold byV at HBT
      generalize parseE d.1 = E at hP hE HBT
      generalize parseL d.1 = L at hP hlenL HBT
      obtain ⟨m, HM⟩ : ∃ m : Nat, Hid (m = L.length) := ⟨_, Lib.hid rfl⟩
      rw [← HM.out] at hP hlenL
      have c0 := hB2.cell 0
      have hgs := hgr.size
      have hO2 := hO.grows hg2
      have hgw2 := hgr.trans hg2
      go_wp2_with fail
      rw [← HX.out, ← HW.out]
      clear e0 e1 hI1 hO
      go_wp2_with fail
      refine hP.mono ?_
      rintro e w3 ⟨A2, c2, rfl, hI2, hnc2, hg3⟩
      clear hP c0
      have hO3 := hO2.grows hg3
      have hB3 := hB2.grow hg3
      have hgw3 := hgw2.trans hg3
      have hs23 : wo.heap.size ≤ w3.heap.size := Nat.le_trans hg2.size hg3.size
      clear hO2 hB2 hg2 hg3 hgw2
      rcases hE with rfl | rfl
      · have hbt := HBT.out
        rw [if_pos rfl] at hbt
        have HBT := Lib.hid hbt
        clear hbt
        go_wp2_with fail
        go_loopw [10, 29] (fun o i wr => ∃ (j : Nat) (v : ByteArray), j ≤ m ∧ o = .string v ∧ i = .int .i64 (j : Int) ∧ v = byVL name (L.take j) ∧ Grow w3 wr) (fun _ i _ => m - (intOf i).toNat)
        case atStart => exact ⟨0, mk [], by omega, rfl, rfl, rfl, Grow.refl _⟩
        case round =>
          obtain ⟨j, v, hjm, rfl, rfl, hv, hgz⟩ := hrel
          by_cases hj : j < m
          · have hd1 : decide ((j : Int) < (m : Int)) = true := decide_eq_true (by omega)
            obtain ⟨ae, hqj, rfl, g0, g1⟩ := lab_at (hI2.grow hgz) hj
            have i0 := g0 wr (Grow.refl _)
            have i1 := g1 wr (Grow.refl _)
            have hj' : ¬ m ≤ j := by omega
            have hbv := byVL_take (name := name) hqj
            rw [← hv] at hbv
            have HBV := Lib.hid hbv
            generalize L[j] = y at i0 i1 HBV
            clear g0 g1 hv hbv
            obtain ⟨wz, rfl⟩ : ∃ wz : World, wz = wr := ⟨_, rfl⟩
            obtain ⟨p, HPP⟩ : ∃ p : Nat, Hid (p = wz.heap.size) := ⟨_, rfl⟩
            obtain ⟨w4, HW4⟩ : ∃ w4 : World, Hid (w4 = wz.alloc (.cells #[.string y.1, .string y.2] 36)) := ⟨_, rfl⟩
            have hg4 : Grow wz w4 := by rw [HW4.out]; exact (Below.refl _ _).alloc (Nat.le_refl _) _
            have hB4 : Blk w4 p 36 #[.string y.1, .string y.2] := by rw [HW4.out, HPP.out]; exact Blk.made wz _ _
            have j0 := hB4.cell 0
            have j1 := hB4.cell 1
            have hgz4 := hgz.trans hg4
            by_cases hy : y.1 = name
            · have hey : (y.1.toList == name.toList) = true := by rw [hy]; simp
              have hbv := HBV.out
              rw [if_pos hy] at hbv
              have HBV := Lib.hid hbv
              clear hy hbv
              go_wp2_with fail
              go_roundw
              case rel => exact ⟨j + 1, y.2, by omega, rfl, by go_num, HBV.out.symm, by rw [← HW4.out]; exact hgz4⟩
              case measure => simp [intOf]; omega
            · have hey := str_eqb hy
              have hbv := HBV.out
              rw [if_neg hy] at hbv
              have HBV := Lib.hid hbv
              clear hy hbv
              go_wp2_with fail
              go_roundw
              case rel => exact ⟨j + 1, v, by omega, rfl, by go_num, HBV.out.symm, by rw [← HW4.out]; exact hgz4⟩
              case measure => simp [intOf]; omega
          · obtain rfl : j = m := by omega
            have hd1 : decide ((j : Int) < (j : Int)) = false := decide_eq_false (by omega)
            rw [List.take_of_length_le (by have := HM.out; omega)] at hv
            have hbt := HBT.out
            rw [← hv] at hbt
            have HBT := Lib.hid hbt
            clear hv hbt
            have hO4 := hO3.grows hgz
            have hB4 := hB3.grow hgz
            have c1' := hB4.cell 1
            have hgw4 := hgw3.trans hgz
            have hsz4 := hgz.size
            go_wp2_with (at_builtin; refine stay ?_)
            refine stay_out ?_
            have hga : Grow wr (wr.alloc (.cells #[.string v, .int .u64 (d.2 : Int)] 30)) := (Below.refl _ _).alloc (Nat.le_refl _) _
            refine wpList_own (V := New w wo) deltaE _ rfl (.tmp 40) (.tmp 45) rfl (.slice A1 r.length c1) r.length (dcells r) rfl (hO4.grows hga) (wr.heap.size + 1) (some ⟨wr.heap.size, 0, none⟩) 1 1 (dcells [(v, d.2)]) rfl (reads_laid wr #[.string v, .int .u64 (d.2 : Int)] 30 (0, 0) (n := 1) (size := 2) rfl wr.heap.size rfl) (dcells_one _) (by omega) ?_
            intro v5 w5 hO5 hj5
            have hs5 := hj5.size
            simp at hs5
            have hO6 : Own w5 (New w w5) 30 2 v5 (r ++ [(v, d.2)]).length (dcells (r ++ [(v, d.2)])) := by
              rw [List.length_append, show dcells (r ++ [(v, d.2)]) = dcells r ++ dcells [(v, d.2)] by unfold dcells; rw [List.flatMap_append]]
              refine hO5.mono fun b hb => ?_
              rcases hb with hb | hb
              · exact ⟨hb.1, by have := hb.2; omega⟩
              · have h6 := hb.1
                simp at h6
                exact ⟨by omega, hb.2⟩
            have hg6 : Grow w w5 := Below.trans (hgw4.trans hga) (hj5.below (B := w.heap.size) (fun b hb => hb.1) (by simp; omega))
            have hl6 : (r ++ [(v, d.2)]).length ≤ k + 1 := by simp; omega
            clear hO5 hj5 hO3 hO4 hga c1'
            have hbt := HBT.out
            clear HBT
            generalize r ++ [(v, d.2)] = r6 at hO6 hl6 hbt
            have HBT := Lib.hid hbt
            clear hbt
            go_wp2_with fail
            go_roundw
            case rel => exact ⟨k + 1, r6, by omega, by go_num, HBT.out.symm, hl6, hO6, hg6⟩
            case measure => simp [intOf]; omega
      · have hbt := HBT.out
        rw [if_neg (by decide)] at hbt
        have HBT := Lib.hid hbt
        have hO6 : Own w3 (New w w3) 30 2 (.slice A1 r.length c1) r.length (dcells r) := hO3.mono fun b hb => ⟨hb.1, by have := hb.2; omega⟩
        clear hbt hO3
        go_wp2_with fail
        go_roundw
        case rel => exact ⟨k + 1, r, by omega, by go_num, HBT.out.symm, by omega, hO6, hgw3⟩
        case measure => simp [intOf]; omega
    · obtain rfl : k = n := by omega
      have hd : decide ((k : Int) < (k : Int)) = false := decide_eq_false (by omega)
      rw [List.take_of_length_le (by have := HLL.out; omega)] at hr
      have hnum : ∀ d ∈ r, d.2 ≤ M64 := by
        rw [hr]
        intro d hd
        obtain ⟨e, he, rfl⟩ := List.mem_map.1 hd
        exact (hf e (List.mem_filter.1 he).1).2
      have HR := Lib.hid hr
      clear hr
      have hD := eDeltas_any wo (New w wo) A1 r.length c1 r hI1 (by omega) hnum
      have hjl := joinD_len r []
      have hjl2 : (joinD r).length ≤ k := by unfold joinD; simp at hjl; omega
      obtain ⟨m, HM⟩ : ∃ m : Nat, Hid (m = (joinD r).length) := ⟨_, Lib.hid rfl⟩
      rw [← HM.out] at hD hjl2
      go_wp2_with fail
      refine hD.mono ?_
      rintro e w2 ⟨A2, rfl, hO2, hg2⟩
      clear hD
      have hSo := sort_own w2 (New wo w2) A2 m (joinD r) hO2 (by omega)
      have hgw2 := hgr.trans hg2
      have hsz := hgr.size
      have hsz2 := hg2.size
      go_wp2_with fail
      refine hSo.mono ?_
      rintro e w3 ⟨rfl, r3, hp3, hs3, hI3, hj3⟩
      clear hSo
      have hszj := hj3.size
      have hr3 : r3.length = m := by rw [hp3.length_eq, ← HM.out]
      go_wp2_with fail
      go_ret
      rw [← hr3] at hI3 ⊢
      refine ⟨A2, r3, rfl, ⟨by rw [← HR.out]; exact hp3, hs3⟩, hI3.mono fun b hb => ⟨by have := hb.1; omega, by have := hb.2; omega⟩, Below.trans hgw2 (hj3.below (B := w.heap.size) (fun b hb => by have := hb.1; omega) (by omega))⟩
end Go.Proofs.YtidkhokecekpgaaDoor
