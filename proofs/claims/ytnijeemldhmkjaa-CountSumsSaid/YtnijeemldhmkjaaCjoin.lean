/- Of each series one. -/
import Derived.Test.YtnijeemldhmkjaaCsame
namespace Go.Proofs.Ytnijeemldhmkjaa
open Go.RowKit Go.Hop
def sumS (a b : Nat) : Nat := if a + b ≤ M64 then a + b else M64
theorem sumS_le {a b : Nat} : sumS a b ≤ M64 := by unfold sumS; split <;> omega
theorem Sum_any (w : World) (a b : Nat) (ha : a ≤ M64) (hb : b ≤ M64) :
    Calls Try.prog 51 #[.int .u64 (a : Int), .int .u64 (b : Int)] w fun e w' => e = .returned (.int .u64 ((sumS a b : Nat) : Int)) ∧ w = w' := by
  unfold sumS
  unfold M64 at *
  by_cases h : a + b ≤ 18446744073709551615
  · rw [if_pos h]
    have hw : IntKind.u64.wrap ((a : Int) + (b : Int)) = ((a + b : Nat) : Int) := by rw [IntKind.wrap_u64]; omega
    have hd : decide (a + b < a) = false := decide_eq_false (by omega)
    go_enter Try.func51, Try.ntmps51
    go_wp2_with fail
    go_ret
    exact ⟨rfl, rfl⟩
  · rw [if_neg h]
    have hw : IntKind.u64.wrap ((a : Int) + (b : Int)) = ((a + b - 18446744073709551616 : Nat) : Int) := by rw [IntKind.wrap_u64]; omega
    have hd : decide (a + b - 18446744073709551616 < a) = true := decide_eq_true (by omega)
    go_enter Try.func51, Try.ntmps51
    go_wp2_with fail
    go_ret
    exact ⟨rfl, rfl⟩
/-- one cell of a row of one's own, stored -/
theorem own_set {w : World} {V : Nat → Prop} {e size n c g : Nat} {xs : List Value} (h : Own w V e size (.slice (some ⟨g, 0, none⟩) n c) n xs) {j : Nat} (hj : j < xs.length) (u : Value) : Own (w.setCell ⟨g, j, none⟩ u) V e size (.slice (some ⟨g, 0, none⟩) n c) n (xs.set j u) ∧ V g := by
  obtain ⟨h1, h2 | ⟨g', cap, cur, hv, hV, hg, hnc, hcm, hsz, htk⟩⟩ := h
  · cases h2.1
  · injection hv with hv1 _ hv3
    injection hv1 with hv1
    injection hv1 with hv1
    subst hv1 hv3
    refine ⟨⟨by rw [List.length_set]; exact h1, .inr ⟨_, _, cur.setIfInBounds j u, rfl, hV, ?_, hnc, hcm, by simpa using hsz, ?_⟩⟩, hV⟩
    · unfold World.setCell
      simp [Array.getElem?_modify, hg]
    · rw [Array.toList_setIfInBounds, List.take_set, htk]
theorem own_ptr {w : World} {V : Nat → Prop} {e size n c : Nat} {A : Option Addr} {xs : List Value} (h : Own w V e size (.slice A n c) n xs) (hn : 0 < n) : ∃ g, A = some ⟨g, 0, none⟩ ∧ g < w.heap.size ∧ V g ∧ ∀ i, w.frozen? ⟨g, i, none⟩ = false := by
  obtain ⟨h1, h2 | ⟨g', cap, cur, hv, hV, hg, hnc, hcm, hsz, htk⟩⟩ := h
  · injection h2.1 with _ h3 _
    omega
  · injection hv with hv1 _ hv3
    exact ⟨g', hv1, (Array.getElem?_eq_some_iff.1 hg).1, hV, fun i => Blk.frozen hg i⟩
/-- of each key of l one -/
structure Joined (l : List Dl) (jl : List Dl) : Prop where
  nodup : (jl.map (·.1)).Nodup
  mem : ∀ x : ByteArray, x ∈ jl.map (·.1) ↔ ∃ d ∈ l, d.1 = x
  num : ∀ d ∈ jl, d.2 ≤ M64
theorem joined_nil : Joined [] [] := ⟨List.nodup_nil, by simp, by simp⟩
theorem joined_app {l jl : List Dl} {d : Dl} (h : Joined l jl) (hn : ∀ e ∈ jl, e.1 ≠ d.1) (hd : d.2 ≤ M64) : Joined (l ++ [d]) (jl ++ [d]) := by
  refine ⟨?_, fun x => ?_, fun e he => ?_⟩
  · rw [List.map_append]
    refine List.nodup_append.2 ⟨h.nodup, by simp, fun a ha b hb e => ?_⟩
    obtain ⟨e', he', rfl⟩ := List.mem_map.1 ha
    simp only [List.map_cons, List.map_nil, List.mem_singleton] at hb
    exact hn e' he' (e.trans hb)
  · rw [List.map_append, List.mem_append, h.mem]
    simp only [List.map_cons, List.map_nil, List.mem_singleton, List.mem_append]
    constructor
    · rintro (⟨e, he, hx⟩ | rfl)
      · exact ⟨e, .inl he, hx⟩
      · exact ⟨d, .inr rfl, rfl⟩
    · rintro ⟨e, he | rfl, hx⟩
      · exact .inl ⟨e, he, hx⟩
      · exact .inr hx.symm
  · rcases List.mem_append.1 he with he | he
    · exact h.num e he
    · rw [List.mem_singleton.1 he]; exact hd
theorem joined_set {l jl : List Dl} {d dj : Dl} {j : Nat} (h : Joined l jl) (hj : jl[j]? = some dj) (hk : dj.1 = d.1) {v : Nat} (hv : v ≤ M64) : Joined (l ++ [d]) (jl.set j (dj.1, v)) := by
  have hm : (jl.set j (dj.1, v)).map (·.1) = jl.map (·.1) := by
    rw [List.map_set]
    obtain ⟨hlt, e⟩ := List.getElem?_eq_some_iff.1 hj
    apply List.ext_getElem (by simp)
    intro i h1 h2
    rw [List.getElem_set]
    split
    · rename_i hij; subst hij; simp [e]
    · rfl
  refine ⟨by rw [hm]; exact h.nodup, fun x => ?_, fun e he => ?_⟩
  · rw [hm, h.mem]
    have hdj : dj.1 ∈ jl.map (·.1) := List.mem_map.2 ⟨dj, List.mem_of_getElem? hj, rfl⟩
    constructor
    · rintro ⟨e, he, hx⟩; exact ⟨e, List.mem_append.2 (.inl he), hx⟩
    · rintro ⟨e, he, hx⟩
      rcases List.mem_append.1 he with he | he
      · exact ⟨e, he, hx⟩
      · rw [List.mem_singleton.1 he, ← hk] at hx
        rw [← hx]; exact (h.mem _).1 hdj
  · rcases List.mem_or_eq_of_mem_set he with he | he
    · exact h.num e he
    · rw [he]; exact hv
theorem dcells_set : ∀ (jl : List Dl) (j : Nat) (dj : Dl) (v : Nat), jl[j]? = some dj → dcells (jl.set j (dj.1, v)) = (dcells jl).set (j * 2 + 1) (.int .u64 (v : Int))
  | [], _, _, _, h => by simp at h
  | a :: jl, 0, dj, v, h => by
    simp only [List.getElem?_cons_zero, Option.some.injEq] at h
    subst h
    rfl
  | a :: jl, j + 1, dj, v, h => by
    rw [List.getElem?_cons_succ] at h
    have ih := dcells_set jl j dj v h
    rw [List.set_cons_succ]
    show dcell a ++ dcells (jl.set j (dj.1, v)) = (dcell a ++ dcells jl).set ((j + 1) * 2 + 1) _
    rw [ih, List.set_append_right _ _ (by rw [dcell_len]; omega), dcell_len, show (j + 1) * 2 + 1 - 2 = j * 2 + 1 by omega]
theorem joined_len {l jl : List Dl} (h : Joined l jl) (n : Nat) (hn : jl.length ≤ n) : jl.length ≤ n := hn
set_option maxRecDepth 100000 in
set_option maxHeartbeats 2000000 in
theorem Join_any (w : World) (A : Option Addr) (n c : Nat) (l : List Dl) (D : Nat → Prop) (hl : In w D 2 A n (dcells l)) (hDl : ∀ b, D b → b < w.heap.size) (hd : ∀ d ∈ l, d.1.size ≤ maxLen ∧ d.2 ≤ M64) (hn : n ≤ 1048576) :
    Calls Try.prog 36 #[.slice A n c] w fun e w' => ∃ v jl, e = .returned v ∧ Own w' (New w w') 34 2 v jl.length (dcells jl) ∧ Joined l jl ∧ jl.length ≤ n ∧ Grow w w' := by
  have hln : l.length = n := by have := hl.1; rw [dcells_len] at this; omega
  have k51 : ∀ (vs : Array Value) (w : World), (callFunc 51 vs).run Try.prog w = .ok (.enter 51 vs) w := fun vs w => by go_simp
  go_enter Try.func36, Try.ntmps36
  go_wp2_with fail
  go_loopw [3, 10] (fun o i wr => ∃ (k : Nat) (jl : List Dl), k ≤ n ∧ i = .int .i64 (k : Int) ∧ Own wr (New w wr) 34 2 o jl.length (dcells jl) ∧ Joined (l.take k) jl ∧ jl.length ≤ k ∧ Grow w wr) (fun _ i _ => n - (intOf i).toNat)
  case atStart => exact ⟨0, [], by omega, rfl, Own.nil, joined_nil, Nat.le_refl _, Grow.refl _⟩
  case round =>
    obtain ⟨k, jl, hkn, rfl, hO, hJ, hjk, hgw⟩ := hrel
    obtain ⟨A1, c1, rfl, hI1, hn1, hm1⟩ := hO.in_
    by_cases hk : k < n
    · have hkt : decide ((k : Int) < (n : Int)) = true := decide_eq_true (by omega)
      obtain ⟨ad0, hqk, rfl, he0, he1⟩ := del_at (hl.grow hgw) hk
      have hdk := hd _ (List.getElem_mem hqk)
      have htk : l.take (k + 1) = l.take k ++ [l[k]] := List.take_succ_eq_append_getElem hqk
      generalize l[k] = dk at he0 he1 hdk htk
      have f0' := he0 _ (Grow.refl _)
      have f1' := he1 _ (Grow.refl _)
      have hga0 : Grow wr (wr.alloc (.cells #[.string dk.1, .int .u64 (dk.2 : Int)] 34)) := (Below.refl _ wr).alloc (Nat.le_refl _) _
      have hBd0 := Blk.made wr 34 #[.string dk.1, .int .u64 (dk.2 : Int)]
      go_wp2_with fail
      obtain ⟨wa, HA⟩ : ∃ wa : World, Hid (wa = wr.alloc (.cells #[.string dk.1, .int .u64 (dk.2 : Int)] 34)) := ⟨_, rfl⟩
      obtain ⟨x, HX⟩ : ∃ x : Nat, Hid (x = wr.heap.size) := ⟨_, rfl⟩
      rw [← HA.out] at hga0 hBd0 ⊢
      rw [← HX.out] at hBd0 ⊢
      have hxw : wr.heap.size = x := HX.out.symm
      have hNl : ∀ b, New w wr b → b < wr.heap.size := fun b hb => hb.2
      go_loopw [6, 7, 16] (fun a _ i wq => ∃ i' : Nat, i' ≤ jl.length ∧ i = .int .i64 (i' : Int) ∧ Grow wa wq ∧ ((a = .int .i64 (-1) ∧ ∀ e ∈ jl.take i', e.1 ≠ dk.1) ∨ ∃ (j : Nat) (hj : j < jl.length), a = .int .i64 (j : Int) ∧ jl[j].1 = dk.1)) (fun _ _ i _ => jl.length - (intOf i).toNat)
      case atStart => exact ⟨0, by omega, rfl, Grow.refl _, .inl ⟨rfl, by simp⟩⟩
      case round =>
        obtain ⟨i, hil, rfl, hgq, hat⟩ := hrel
        by_cases hi : i < jl.length
        · have hit : decide ((i : Int) < (jl.length : Int)) = true := decide_eq_true (by omega)
          obtain ⟨ad, hqi, rfl, f0, f1⟩ := del_at (hI1.grow (hga0.trans hgq)) hi
          have hBd := hBd0.grow hgq
          have htki : jl.take (i + 1) = jl.take i ++ [jl[i]] := List.take_succ_eq_append_getElem hqi
          by_cases he : jl[i].1 = dk.1
          · have he' := he
            generalize jl[i] = ji at f0 f1 he
            have hx' : (ji.1.toList == dk.1.toList) = true := beq_iff_eq.2 (txt_eq.2 he)
            clear f0' f1' he0 he1
            go_wp2_with fail
            refine wp_region_flow 8 49 [] rfl rfl (by kernel_rfl) (by kernel_rfl) (by kernel_rfl) ?_ ?_
            · intro x hx φ he
              cases hx
            intro ops' A' K' T hops hA' hK hT
            refine fl_mv 19 (by rfl) (by decide) (wanted_none (by rfl)) (by rw [hK.out]; rfl) (by rfl) _ (Or.inl (by rfl)) (.slice (some ad) jl.length c1) (by rfl) ?_
            refine fl_mv 20 (by rfl) (by decide) (wanted_none (by rfl)) (by rw [hK.out]; rfl) (by rfl) _ (Or.inl (by rfl)) (.int .i64 (i : Int)) (by rfl) ?_
            refine fl_op2 21 (by rfl) (by decide) (wanted_none (by rfl)) (by rw [hK.out]; rfl) (by rfl) (.tmp 19) (.tmp 20) (.slice (some ad) jl.length c1) (.int .i64 (i : Int)) (by rfl) (by rfl) (.pointer (some (ad.add (i * 2)))) (fun ρ h1 h2 kk w1 (hg : Grow _ w1) hb hf => by go_simp; try (intro hlt; omega)) ?_
            refine fl_op1 22 (by rfl) (by decide) (wanted_none (by rfl)) (by rw [hK.out]; rfl) (by rfl) (.tmp 21) (.pointer (some (ad.add (i * 2)))) (by rfl) (.pointer (some (ad.add (i * 2)))) (fun ρ h1 kk w1 (hg : Grow _ w1) hb hf => by go_simp) ?_
            refine fl_op1 23 (by rfl) (by decide) (wanted_none (by rfl)) (by rw [hK.out]; rfl) (by rfl) (.tmp 22) (.pointer (some (ad.add (i * 2)))) (by rfl) (.string ji.1) (fun ρ h1 kk w1 (hg : Grow _ w1) hb hf => by have e0 := f0 w1 hg; go_simp) ?_
            refine fl_op1 24 (by rfl) (by decide) (wanted_none (by rfl)) (by rw [hK.out]; rfl) (by rfl) (.tmp 5) (.pointer (some ⟨x, 0, none⟩)) (by rfl) (.pointer (some ⟨x, 0, none⟩)) (fun ρ h1 kk w1 (hg : Grow _ w1) hb hf => by go_simp) ?_
            refine fl_op1 25 (by rfl) (by decide) (wanted_none (by rfl)) (by rw [hK.out]; rfl) (by rfl) (.tmp 24) (.pointer (some ⟨x, 0, none⟩)) (by rfl) (.string dk.1) (fun ρ h1 kk w1 (hg : Grow _ w1) hb hf => by have c := (hBd.grow hg).cell 0; go_simp) ?_
            refine fl_op2 26 (by rfl) (by decide) (wanted_none (by rfl)) (by rw [hK.out]; rfl) (by rfl) (.tmp 23) (.tmp 25) (.string ji.1) (.string dk.1) (by rfl) (by rfl) (.bool true) (fun ρ h1 h2 kk w1 (hg : Grow _ w1) hb hf => by go_simp) ?_
            refine fl_end (fun _ _ w1 (hg : Grow _ w1) _ hfacts => hT _ _ ?_)
            clear hops hA' hK hT
            simp only [putsL, Act.put, List.setIfInBounds_toArray, List.set_cons_zero, List.set_cons_succ, List.drop_succ_cons, List.drop_zero]
            clear hfacts
            go_wp2_with fail
            go_roundw
            case rel => exact ⟨i + 1, by omega, by go_num, hgq.trans hg, .inr ⟨i, hi, rfl, he'⟩⟩
            case measure => simp [intOf]; omega
          · have he' := he
            generalize jl[i] = ji at f0 f1 he htki
            have hx' : (ji.1.toList == dk.1.toList) = false := beq_eq_false_iff_ne.2 fun e => he (txt_eq.1 e)
            clear f0' f1' he0 he1
            go_wp2_with fail
            refine wp_region_flow 8 49 [] rfl rfl (by kernel_rfl) (by kernel_rfl) (by kernel_rfl) ?_ ?_
            · intro x hx φ he
              cases hx
            intro ops' A' K' T hops hA' hK hT
            refine fl_mv 19 (by rfl) (by decide) (wanted_none (by rfl)) (by rw [hK.out]; rfl) (by rfl) _ (Or.inl (by rfl)) (.slice (some ad) jl.length c1) (by rfl) ?_
            refine fl_mv 20 (by rfl) (by decide) (wanted_none (by rfl)) (by rw [hK.out]; rfl) (by rfl) _ (Or.inl (by rfl)) (.int .i64 (i : Int)) (by rfl) ?_
            refine fl_op2 21 (by rfl) (by decide) (wanted_none (by rfl)) (by rw [hK.out]; rfl) (by rfl) (.tmp 19) (.tmp 20) (.slice (some ad) jl.length c1) (.int .i64 (i : Int)) (by rfl) (by rfl) (.pointer (some (ad.add (i * 2)))) (fun ρ h1 h2 kk w1 (hg : Grow _ w1) hb hf => by go_simp; try (intro hlt; omega)) ?_
            refine fl_op1 22 (by rfl) (by decide) (wanted_none (by rfl)) (by rw [hK.out]; rfl) (by rfl) (.tmp 21) (.pointer (some (ad.add (i * 2)))) (by rfl) (.pointer (some (ad.add (i * 2)))) (fun ρ h1 kk w1 (hg : Grow _ w1) hb hf => by go_simp) ?_
            refine fl_op1 23 (by rfl) (by decide) (wanted_none (by rfl)) (by rw [hK.out]; rfl) (by rfl) (.tmp 22) (.pointer (some (ad.add (i * 2)))) (by rfl) (.string ji.1) (fun ρ h1 kk w1 (hg : Grow _ w1) hb hf => by have e0 := f0 w1 hg; go_simp) ?_
            refine fl_op1 24 (by rfl) (by decide) (wanted_none (by rfl)) (by rw [hK.out]; rfl) (by rfl) (.tmp 5) (.pointer (some ⟨x, 0, none⟩)) (by rfl) (.pointer (some ⟨x, 0, none⟩)) (fun ρ h1 kk w1 (hg : Grow _ w1) hb hf => by go_simp) ?_
            refine fl_op1 25 (by rfl) (by decide) (wanted_none (by rfl)) (by rw [hK.out]; rfl) (by rfl) (.tmp 24) (.pointer (some ⟨x, 0, none⟩)) (by rfl) (.string dk.1) (fun ρ h1 kk w1 (hg : Grow _ w1) hb hf => by have c := (hBd.grow hg).cell 0; go_simp) ?_
            refine fl_op2 26 (by rfl) (by decide) (wanted_none (by rfl)) (by rw [hK.out]; rfl) (by rfl) (.tmp 23) (.tmp 25) (.string ji.1) (.string dk.1) (by rfl) (by rfl) (.bool false) (fun ρ h1 h2 kk w1 (hg : Grow _ w1) hb hf => by go_simp) ?_
            refine fl_end (fun _ _ w1 (hg : Grow _ w1) _ hfacts => hT _ _ ?_)
            clear hops hA' hK hT
            simp only [putsL, Act.put, List.setIfInBounds_toArray, List.set_cons_zero, List.set_cons_succ, List.drop_succ_cons, List.drop_zero]
            clear hfacts
            go_wp2_with fail
            go_roundw
            case rel =>
              refine ⟨i + 1, by omega, by go_num, hgq.trans hg, ?_⟩
              rcases hat with ⟨ha, hno⟩ | hj
              · refine .inl ⟨ha, fun e h => ?_⟩
                rw [htki] at h
                rcases List.mem_append.1 h with h | h
                · exact hno e h
                · rw [List.mem_singleton.1 h]; exact he
              · exact .inr hj
            case measure => simp [intOf]; omega
        · obtain rfl : i = jl.length := by omega
          have hit : decide ((jl.length : Int) < (jl.length : Int)) = false := decide_eq_false (by omega)
          rcases hat with ⟨rfl, hno⟩ | ⟨j, hj, rfl, hje⟩
          · rw [List.take_length] at hno
            have hneg : decide ((-1 : Int) < 0) = true := rfl
            have hga1 : Grow wr (wr.alloc (.cells #[.string dk.1, .int .u64 (dk.2 : Int)] 34)) := (Below.refl _ wr).alloc (Nat.le_refl _) _
            have hBd := hBd0.grow hgq
            have hBc0 := hBd.cell 0
            have hBc1 := hBd.cell 1
            have hgwq := hga0.trans hgq
            have hswq := hgwq.size
            have hOq := hO.grow hNl hgwq
            clear f0' f1' he0 he1
            go_wp2_with (at_builtin; refine stay ?_)
            refine stay_out ?_
            refine wpList_own (V := _) deltaE _ rfl (.tmp 31) (.tmp 33) rfl (.slice A1 jl.length c1) jl.length (dcells jl) rfl (hOq.grow (fun b hb => by have := hb.2; omega) hga1) (wr.heap.size + 1) (some ⟨wr.heap.size, 0, none⟩) 1 1 (dcells [dk]) rfl (reads_laid wr _ 34 _ rfl _ rfl) (dcells_one _) (by omega) ?_
            intro v5 w5 hO5 hj5
            have hs5 := hj5.size
            simp at hs5
            have hsw := hgw.size
            have hg5 : Grow w w5 := Below.trans (below_trans (hgw.trans hgwq) hga1 (by omega)) (hj5.below (B := w.heap.size) (fun b hb => hb.1) (by simp; omega))
            have hO6 : Own w5 (New w w5) 34 2 v5 (jl ++ [dk]).length (dcells (jl ++ [dk])) := by
              rw [List.length_append]
              have : dcells (jl ++ [dk]) = dcells jl ++ dcells [dk] := by unfold dcells; rw [List.flatMap_append]
              rw [this]
              refine hO5.mono fun b hb => ?_
              rcases hb with hb | hb
              · exact ⟨hb.1, by have := hb.2; omega⟩
              · have h6 := hb.1
                simp at h6
                exact ⟨by omega, hb.2⟩
            have hJ6 := joined_app hJ hno hdk.2
            rw [← htk] at hJ6
            have hl6 : (jl ++ [dk]).length ≤ k + 1 := by simp; omega
            clear hO5 hj5
            go_wp2_with fail
            go_roundw
            case rel => exact ⟨k + 1, jl ++ [dk], by omega, by go_num, hO6, hJ6, hl6, hg5⟩
            case measure => simp [intOf]; omega
          · obtain ⟨g, rfl, hgl, hgV, hfz⟩ := own_ptr hO (by omega)
            obtain ⟨ad, hqj, e, f0, f1⟩ := del_at (hI1.grow (hga0.trans hgq)) hj
            injection e with e
            subst e
            have hneg : decide ((j : Int) < 0) = false := decide_eq_false (by omega)
            have hBd := hBd0.grow hgq
            have hgwq := hga0.trans hgq
            have hswq := hgwq.size
            have hOq := hO.grow hNl hgwq
            have hjq : jl[j]? = some jl[j] := List.getElem?_eq_getElem hj
            have hvj := hJ.num _ (List.getElem_mem hj)
            generalize jl[j] = dj at f0 f1 hje hjq hvj
            obtain ⟨xj, vj⟩ := dj
            have f1 : ∀ w1, Grow wr w1 → w1.cell? ⟨g, j * 2 + 1, none⟩ = some (.int .u64 (vj : Int)) := fun w1 hg => by
              have h := f1 w1 hg
              by_cases h0 : j * 2 = 0
              · simpa [Addr.add, h0] using h
              · simpa [Addr.add, h0] using h
            clear f0' f1' he0 he1 f0
            go_wp2_with fail
            refine wp_region_flow 12 49 [(9, .inl (.int .u64 ((sumS vj dk.2 : Nat) : Int)))] rfl rfl (by kernel_rfl) (by kernel_rfl) (by kernel_rfl) ?_ ?_
            · intro x hx φ he
              simp only [List.mem_cons, List.not_mem_nil, or_false] at hx
              rcases hx with rfl <;> cases he
            intro ops' A' K' T hops hA' hK hT
            refine fl_mv 35 (by rfl) (by decide) (wanted_none (by rfl)) (by rw [hK.out]; rfl) (by rfl) _ (Or.inl (by rfl)) (.slice (some ⟨g, 0, none⟩) jl.length c1) (by rfl) ?_
            refine fl_mv 36 (by rfl) (by decide) (wanted_none (by rfl)) (by rw [hK.out]; rfl) (by rfl) _ (Or.inl (by rfl)) (.int .i64 (j : Int)) (by rfl) ?_
            refine fl_mv 37 (by rfl) (by decide) (wanted_none (by rfl)) (by rw [hK.out]; rfl) (by rfl) _ (Or.inl (by rfl)) (.slice (some ⟨g, 0, none⟩) jl.length c1) (by rfl) ?_
            refine fl_mv 38 (by rfl) (by decide) (wanted_none (by rfl)) (by rw [hK.out]; rfl) (by rfl) _ (Or.inl (by rfl)) (.int .i64 (j : Int)) (by rfl) ?_
            refine fl_op2 39 (by rfl) (by decide) (wanted_none (by rfl)) (by rw [hK.out]; rfl) (by rfl) (.tmp 37) (.tmp 38) (.slice (some ⟨g, 0, none⟩) jl.length c1) (.int .i64 (j : Int)) (by rfl) (by rfl) (.pointer (some ⟨g, j * 2, none⟩)) (fun ρ h1 h2 kk w1 (hg : Grow _ w1) hb hf => by go_simp; try (intro hlt; omega)) ?_
            refine fl_op1 40 (by rfl) (by decide) (wanted_none (by rfl)) (by rw [hK.out]; rfl) (by rfl) (.tmp 39) (.pointer (some ⟨g, j * 2, none⟩)) (by rfl) (.pointer (some ⟨g, j * 2 + 1, none⟩)) (fun ρ h1 kk w1 (hg : Grow _ w1) hb hf => by go_simp) ?_
            refine fl_op1 41 (by rfl) (by decide) (wanted_none (by rfl)) (by rw [hK.out]; rfl) (by rfl) (.tmp 40) (.pointer (some ⟨g, j * 2 + 1, none⟩)) (by rfl) (.int .u64 (vj : Int)) (fun ρ h1 kk w1 (hg : Grow _ w1) hb hf => by have e1 := f1 w1 hg; go_simp) ?_
            refine fl_op1 42 (by rfl) (by decide) (wanted_none (by rfl)) (by rw [hK.out]; rfl) (by rfl) (.tmp 5) (.pointer (some ⟨x, 0, none⟩)) (by rfl) (.pointer (some ⟨x, 1, none⟩)) (fun ρ h1 kk w1 (hg : Grow _ w1) hb hf => by go_simp) ?_
            refine fl_op1 43 (by rfl) (by decide) (wanted_none (by rfl)) (by rw [hK.out]; rfl) (by rfl) (.tmp 42) (.pointer (some ⟨x, 1, none⟩)) (by rfl) (.int .u64 (dk.2 : Int)) (fun ρ h1 kk w1 (hg : Grow _ w1) hb hf => by have c := (hBd.grow hg).cell 1; go_simp) ?_
            refine fl_call 44 (by rfl) (by decide) (wanted_none (by rfl)) (.int .u64 ((sumS vj dk.2 : Nat) : Int)) (by rw [hK.out]; rfl) 51 _ _ (by rfl) [.int .u64 (vj : Int), .int .u64 (dk.2 : Int)] (by rfl) k51 (fun kk w1 (hg : Grow _ w1) hb hf => calls_behind (by rfl) (by exact grew_same (Sum_any w1 vj dk.2 hvj hdk.2))) ?_
            refine fl_op2 45 (by rfl) (by decide) (wanted_none (by rfl)) (by rw [hK.out]; rfl) (by rfl) (.tmp 35) (.tmp 36) (.slice (some ⟨g, 0, none⟩) jl.length c1) (.int .i64 (j : Int)) (by rfl) (by rfl) (.pointer (some ⟨g, j * 2, none⟩)) (fun ρ h1 h2 kk w1 (hg : Grow _ w1) hb hf => by go_simp; try (intro hlt; omega)) ?_
            refine fl_op1 46 (by rfl) (by decide) (wanted_none (by rfl)) (by rw [hK.out]; rfl) (by rfl) (.tmp 45) (.pointer (some ⟨g, j * 2, none⟩)) (by rfl) (.pointer (some ⟨g, j * 2 + 1, none⟩)) (fun ρ h1 kk w1 (hg : Grow _ w1) hb hf => by go_simp) ?_
            refine fl_end (fun _ _ w1 (hg : Grow _ w1) _ hfacts => hT _ _ ?_)
            clear hops hA' hK hT
            simp only [putsL, Act.put, List.setIfInBounds_toArray, List.set_cons_zero, List.set_cons_succ, List.drop_succ_cons, List.drop_zero]
            clear hfacts
            have hO1 := hOq.grow (fun b hb => by have := hb.2; omega) hg
            obtain ⟨_, eg, _, _, hfz1⟩ := own_ptr hO1 (by omega)
            injection eg with eg
            injection eg with eg
            subst eg
            have hfz1 := hfz1 (j * 2 + 1)
            have hc1 := f1 w1 hg
            have hO5 := (own_set hO1 (j := j * 2 + 1) (by rw [dcells_len]; omega) (.int .u64 ((sumS vj dk.2 : Nat) : Int))).1
            rw [← dcells_set jl j (xj, vj) (sumS vj dk.2) hjq] at hO5
            have hs1 := hg.size
            have hJ6 := joined_set hJ hjq hje (sumS_le (a := vj) (b := dk.2))
            rw [← htk] at hJ6
            have hl6 : (jl.set j (xj, sumS vj dk.2)).length = jl.length := List.length_set
            have hsw := hgw.size
            go_wp2_with fail
            go_roundw
            case rel =>
              refine ⟨k + 1, jl.set j (xj, sumS vj dk.2), by omega, by go_num, ?_, hJ6, by omega, ?_⟩
              · rw [hl6]
                exact hO5.mono fun b hb => ⟨hb.1, by have := hb.2; simp [World.setCell]; omega⟩
              · exact ((hgw.trans hgwq).trans hg).setCell (p := ⟨g, j * 2 + 1, none⟩) hgV.1 _
            case measure => simp [intOf]; omega
    · obtain rfl : k = n := by omega
      have hkt : decide ((k : Int) < (k : Int)) = false := decide_eq_false (by omega)
      rw [List.take_of_length_le (by omega)] at hJ
      go_wp2_with fail
      go_ret
      exact ⟨_, jl, rfl, hO, hJ, hjk, hgw⟩
end Go.Proofs.Ytnijeemldhmkjaa
