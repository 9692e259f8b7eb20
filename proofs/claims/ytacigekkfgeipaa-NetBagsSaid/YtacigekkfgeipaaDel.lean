/- slices.Delete of one element. -/
import Derived.Test.YtacigekkfgeipaaSnd
namespace Go.Proofs.Ytacigekkfgeipaa
open Go.RowKit Go.Hop
theorem delete_any (w : World) (R : Nat → Prop) (A : Option Addr) (n c i : Nat) (xs : List Value) (h : Row w R 35 3 (.slice A n c) n xs) (hi : i < n) (hn : n ≤ 1048576) (hx1 : ∀ u ∈ xs, u.oneCell' = true) :
    Calls Try.prog 28 #[.slice A n c, .int .i64 (i : Int), .int .i64 ((i : Int) + 1)] w fun e w' => e = .returned (.slice A (n - 1) c) ∧ Row w' R 35 3 (.slice A (n - 1) c) (n - 1) (xs.take (i * 3) ++ xs.drop ((i + 1) * 3)) ∧ Just R w w' := by
  obtain ⟨hlen, h | ⟨g, cap, cur, e1, hV, hg, hnc, hm, hsz, htk⟩⟩ := h
  · omega
  injection e1 with e1 _ e3
  subst e1 e3
  obtain ⟨A2, HA2⟩ : ∃ A2 : Option Addr, Hid (A2 = if c = i + 1 then some ⟨g, 0, none⟩ else some ⟨g, (i + 1) * 3, none⟩) := ⟨_, rfl⟩
  have hdl : (xs.drop ((i + 1) * 3)).length = (n - (i + 1)) * 3 := by rw [List.length_drop, hlen]; omega
  have hcell : ∀ j, w.cell? ⟨g, j, none⟩ = cur[j]? := fun j => cell_of_row w g j cur 35 (0, 0) hg
  have hcx : ∀ j u, xs[j]? = some u → cur[j]? = some u := fun j u hu => by
    rw [← htk, List.getElem?_take] at hu
    split at hu
    · simpa using hu
    · cases hu
  have hfz : ∀ j, w.frozen? ⟨g, j, none⟩ = false := fun j => Blk.frozen (show Blk w g 35 cur from hg) j
  have hrd : ∀ w1, Grow w w1 → Reads w1 w1.heap.size 3 A2 (n - (i + 1)) (xs.drop ((i + 1) * 3)) := fun w1 hgr => by
    refine ⟨hdl, fun hpos => ⟨⟨g, (i + 1) * 3, none⟩, by rw [HA2.out, if_neg (by omega)], Nat.lt_of_lt_of_le (Array.getElem?_eq_some_iff.1 hg).1 hgr.size, fun j u hu => ?_⟩⟩
    rw [List.getElem?_drop] at hu
    rw [Addr.add_lit, hgr.cell (show g < w.heap.size from (Array.getElem?_eq_some_iff.1 hg).1), hcell]
    exact hcx _ u hu
  have hci : ¬ c < i := by omega
  have hni : ¬ (n : Int) < (i : Int) + 1 := by omega
  have hni2 : ¬ (i : Int) + 1 < 0 := by omega
  have hgw := hg
  go_enter Try.func28, Try.ntmps28
  go_wp2_with fail
  refine wp_region_flow 6 33 [] rfl rfl (by kernel_rfl) (by kernel_rfl) (by kernel_rfl) ?_ ?_
  · intro x hx φ he
    cases hx
  intro ops' A' K' T hops hA' hK hT
  refine fl_mv 20 (by rfl) (by decide) (wanted_none (by rfl)) (by rw [hK.out]; rfl) (by rfl) _ (Or.inl (by rfl)) (.slice (some ⟨g, 0, none⟩) n c) (by rfl) ?_
  refine fl_mv 21 (by rfl) (by decide) (wanted_none (by rfl)) (by rw [hK.out]; rfl) (by rfl) _ (Or.inl (by rfl)) (.int .i64 (i : Int)) (by rfl) ?_
  refine fl_op2 22 (by rfl) (by decide) (wanted_none (by rfl)) (by rw [hK.out]; rfl) (by rfl) (.tmp 20) (.tmp 21) (.slice (some ⟨g, 0, none⟩) n c) (.int .i64 (i : Int)) (by rfl) (by rfl) (.slice (some ⟨g, 0, none⟩) i c) (fun ρ h1 h2 kk w1 (hg : Grow _ w1) hb hf => by go_simp) ?_
  refine fl_mv 23 (by rfl) (by decide) (wanted_none (by rfl)) (by rw [hK.out]; rfl) (by rfl) _ (Or.inl (by rfl)) (.slice (some ⟨g, 0, none⟩) n c) (by rfl) ?_
  refine fl_mv 24 (by rfl) (by decide) (wanted_none (by rfl)) (by rw [hK.out]; rfl) (by rfl) _ (Or.inl (by rfl)) (.int .i64 ((i : Int) + 1)) (by rfl) ?_
  refine fl_op2 25 (by rfl) (by decide) (wanted_none (by rfl)) (by rw [hK.out]; rfl) (by rfl) (.tmp 23) (.tmp 24) (.slice (some ⟨g, 0, none⟩) n c) (.int .i64 ((i : Int) + 1)) (by rfl) (by rfl) (.slice A2 (n - (i + 1)) (c - (i + 1))) (fun ρ h1 h2 kk w1 (hg : Grow _ w1) hb hf => by have hA := HA2.out; go_simp) ?_
  refine fl_end (fun _ _ w1 (hg : Grow _ w1) _ hfacts => hT _ _ ?_)
  clear hops hA' hK hT
  simp only [putsL, Act.put, List.setIfInBounds_toArray, List.set_cons_zero, List.set_cons_succ, List.drop_succ_cons, List.drop_zero]
  have hg1 : w1.heap[g]? = some (.cells cur 35 (0, 0)) := (hg.block g (Array.getElem?_eq_some_iff.1 hgw).1).trans hgw
  have hkm : i + (n - (i + 1)) = n - 1 := by omega
  have hncs : n * 3 ≤ c * 3 := Nat.mul_le_mul_right _ hnc
  refine wpList_app_run rfl (.tmp 22) (.tmp 25) rfl rfl rfl (run_append_over letterE w1 _ hg1 (hrd w1 hg) (fun u hu => hx1 u (List.mem_of_mem_drop hu)) (by omega) (by rw [hkm, hsz]; omega)) ?_
  rw [hkm]
  obtain ⟨cur1, k1, k2, k3⟩ := setCells_heap g 35 (0, 0) (xs.drop ((i + 1) * 3)) (i * 3) w1 cur hg1 (by rw [hdl, ← Nat.add_mul, hkm, hsz]; omega)
  have hO1 := setCells_only g (xs.drop ((i + 1) * 3)) (i * 3) w1
  have hsz1 := setCells_size g (xs.drop ((i + 1) * 3)) (i * 3) w1
  generalize w1.setCells g (i * 3) (xs.drop ((i + 1) * 3)) = w2 at k1 hO1 hsz1 ⊢
  have HK := Lib.hid (And.intro k2 k3)
  have HD := Lib.hid hdl
  have HZ := Lib.hid hsz
  have HKM := Lib.hid hkm
  have HL := Lib.hid hlen
  have HT := Lib.hid htk
  clear k2 k3 hdl hsz hkm hlen htk hsz1 hcx hcell hrd hfz
  have hcn : ¬ c = n - 1 := by omega
  have hcn2 : ¬ c < n := by omega
  have hcn3 : ¬ n < n - 1 := by omega
  have hn1 : n - (n - 1) = 1 := by omega
  have hcl : ∀ ty, (Builtin.clear_ #[40] ty #[.slice (some ⟨g, (n - 1) * 3, none⟩) (n - (n - 1)) (c - (n - 1))]).run Try.prog w2 = .ok (.tuple #[]) (w2.setCells g ((n - 1) * 3) (Builtin.zeroCells (.agg #[.int .i64 0, .int .i64 0, .slice none 0 0] : Value).cells 1).toList) := fun ty => by
    rw [hn1]
    refine run_clear_cells letterE (zero_run letterE) (by simp [Value.cells, Value.oneCell']) w2 ty g ((n - 1) * 3) 1 _ (by omega) (fun j hj => ?_) (fun j hj => Blk.frozen (show Blk w2 g 35 cur1 from k1) _)
    have := HK.out.1; have := HZ.out
    rw [cell_of_row w2 g _ cur1 35 (0, 0) k1, Array.getElem?_eq_getElem (by omega)]; rfl
  have hzl : (Builtin.zeroCells (.agg #[.int .i64 0, .int .i64 0, .slice none 0 0] : Value).cells 1).toList.length = 3 := by kernel_rfl
  obtain ⟨cur2, m1, m2, m3⟩ := setCells_heap g 35 (0, 0) (Builtin.zeroCells (.agg #[.int .i64 0, .int .i64 0, .slice none 0 0] : Value).cells 1).toList ((n - 1) * 3) w2 cur1 k1 (by rw [hzl]; have := HK.out.1; have := HZ.out; omega)
  have hO2 := setCells_only g (Builtin.zeroCells (.agg #[.int .i64 0, .int .i64 0, .slice none 0 0] : Value).cells 1).toList ((n - 1) * 3) w2
  generalize w2.setCells g ((n - 1) * 3) (Builtin.zeroCells (.agg #[.int .i64 0, .int .i64 0, .slice none 0 0] : Value).cells 1).toList = w3 at hcl m1 hO2
  have HM := Lib.hid (And.intro m2 m3)
  clear m2 m3 hzl hn1
  go_wp2_with fail
  go_ret
  have hj : Just R w w3 := (Just.of_grow hg).trans (Just.of_only (hO1.trans hO2) hV)
  obtain ⟨k2, k3⟩ := HK.out
  obtain ⟨m2, m3⟩ := HM.out
  have hlen := HL.out
  have hdl := HD.out
  have hsz := HZ.out
  have hkm := HKM.out
  have htk := HT.out
  have hti : cur.toList.take (i * 3) = xs.take (i * 3) := by rw [← htk, List.take_take, Nat.min_eq_left (by omega)]
  have hlti : (xs.take (i * 3)).length = i * 3 := by rw [List.length_take]; omega
  have hl2 : (xs.take (i * 3) ++ xs.drop ((i + 1) * 3)).length = (n - 1) * 3 := by rw [List.length_append, hlti, hdl]; omega
  refine ⟨rfl, ⟨hl2, .inr ⟨g, c, cur2, rfl, hV, m1, by omega, hm, by rw [m2, k2, hsz], ?_⟩⟩, hj⟩
  have h1 : cur1.toList.take ((n - 1) * 3) = xs.take (i * 3) ++ xs.drop ((i + 1) * 3) := by
    rw [k3, hti, ← hl2]; exact List.take_left
  rw [m3, h1, List.append_assoc, ← hl2]; exact List.take_left
end Go.Proofs.Ytacigekkfgeipaa
