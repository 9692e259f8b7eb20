/- The answer's queue: what is done. -/
import Derived.Test.YtnlfkeajolfboaaRq2
namespace Go.Proofs.Ytnlfkeajolfboaa
open Go.RowKit Go.Hop
theorem pb_done {ps : List PB} {s : Int} {i : Nat} (hi : i < ps.length) (h : ps[i].b.seq = s) (hn : ∀ (j : Nat) (hj : j < ps.length), j < i → ps[j].b.seq ≠ s) :
    doneB (ps.map PB.abs) s = true ∧ doneL (ps.map PB.abs) s = (ps.take i ++ ps.drop (i + 1)).map PB.abs := by
  have h1 : ps.map PB.abs = (ps.map PB.b).map Bat.abs := by rw [List.map_map]; rfl
  have hi' : i < (ps.map PB.b).length := by simpa using hi
  obtain ⟨a, b⟩ := done_some (q := ps.map PB.b) (s := s) hi' (by simpa using h) (fun j hj hji => by have := hn j (by simpa using hj) hji; simpa using this)
  rw [h1]
  refine ⟨a, b.trans ?_⟩
  rw [← List.map_take, ← List.map_drop, ← List.map_append, List.map_map]; rfl
theorem pb_none {ps : List PB} {s : Int} (h : ∀ x ∈ ps, x.b.seq ≠ s) : doneB (ps.map PB.abs) s = false ∧ doneL (ps.map PB.abs) s = ps.map PB.abs := by
  have h1 : ps.map PB.abs = (ps.map PB.b).map Bat.abs := by rw [List.map_map]; rfl
  rw [h1]
  exact done_none fun b hb => by obtain ⟨x, hx, rfl⟩ := List.mem_map.1 hb; exact h x hx
set_option maxRecDepth 20000 in
theorem rDone_any (w : World) (g : Nat) (l : List Ab) (last s : Int) :
    Turns Try.prog 21 #[.pointer (some ⟨g, 0, none⟩), .int .i64 s] (fun e => e = .returned (.bool (doneB l s))) (RQAt g l last) (RQAt g (doneL l s) last) w := by
  intro V hQ hV
  have hQ' := hQ
  obtain ⟨h1, A0, c0, ps, D, hl, h3, hB, hI, hnc, hcm, h8, h9⟩ := hQ
  have cc0 := hB.cell 0
  have HLL := Lib.hid hl
  clear hl
  go_enter Try.func21, Try.ntmps21
  go_wp2_with fail
  go_loop [11] (fun i => ∃ k : Nat, k ≤ ps.length ∧ i = .int .i64 k ∧ (∀ (j : Nat) (hj : j < ps.length), j < k → ps[j].b.seq ≠ s)) (fun i => ps.length - (intOf i).toNat)
  case atStart => exact ⟨0, by omega, rfl, fun j hj h0 => absurd h0 (by omega)⟩
  case round =>
    obtain ⟨k, hkn, rfl, hne⟩ := hrel
    by_cases hk : k < ps.length
    · obtain ⟨ad, hkq, rfl, hVd, hBd, e0, _⟩ := hI.rec_ (by omega) pb_len hk
      have e0 := e0 _ rfl
      rw [Nat.mul_one] at e0
      have hx := h8 _ (List.getElem_mem hkq)
      have b00 := hx.blk.cell 0
      have hkne : ps[k].b.seq ≠ s → ∀ (j : Nat) (hj : j < ps.length), j < k + 1 → ps[j].b.seq ≠ s := fun h0 j hj hjk => by
        rcases Nat.lt_or_ge j k with h1 | h1
        · exact hne j hj h1
        · have : j = k := by omega
          subst this; exact h0
      have hke : ps[k].b.seq = s → doneB (ps.map PB.abs) s = true ∧ doneL (ps.map PB.abs) s = (ps.take k ++ ps.drop (k + 1)).map PB.abs := fun h0 => pb_done hkq h0 hne
      have HE := Lib.hid hke
      have HN := Lib.hid hkne
      clear hke hkne hne hx
      generalize ps[k].p = p at e0 b00
      have b0 : w.cell? ⟨p, 0, none⟩ = some (.int .i64 ps[k].b.seq) := b00
      clear b00
      generalize ps[k].b.seq = sq at b0 HE HN
      by_cases hs : sq = s
      · have hbs : (sq == s) = true := by rw [hs]; exact beq_self_eq_true s
        obtain ⟨d1, d2⟩ := HE.out hs
        have HDD := Lib.hid (And.intro d1 d2)
        clear hs HE HN d1 d2
        obtain ⟨B, HBd⟩ : ∃ B : Nat, Hid (B = w.heap.size) := ⟨_, rfl⟩
        have HB : ∀ w1, Just (FromB B) w w1 → B ≤ w1.heap.size := fun w1 h => HBd.out ▸ h.size
        have hgB : ¬ FromB B g := fun h => by have := hB.lt; have : B ≤ g := h; have := HBd.out; omega
        have hDB : ∀ b, D b → ¬ FromB B b := fun b hb h => by have := hV b (h9 b hb).1; have : B ≤ b := h; have := HBd.out; omega
        obtain ⟨A2, HA2⟩ : ∃ A2 : Option Addr, Hid (A2 = if c0 = k + 1 then some ad else some (ad.add (k + 1))) := ⟨_, rfl⟩
        have hI1 : ∀ w1, Just (FromB B) w w1 → Reads w1 w1.heap.size 1 (some ad) k ((ps.flatMap PB.cells).take (k * 1)) := fun w1 hj => ((hI.just hj hDB).take (by omega)).reads
        have hI2 : ∀ w1, Just (FromB B) w w1 → Reads w1 w1.heap.size 1 A2 (ps.length - (k + 1)) ((ps.flatMap PB.cells).drop ((k + 1) * 1)) := fun w1 hj => by
          have := (hI.just hj hDB).reads.cut (k := k + 1) (by omega) hnc
          rw [Option.map_some, Nat.mul_one, ← HA2.out] at this
          rw [Nat.mul_one]; exact this
        have hone1 : ∀ u ∈ (ps.flatMap PB.cells).take (k * 1), u.oneCell' = true := fun u hu => pbs_one ps u (List.mem_of_mem_take hu)
        have hone2 : ∀ u ∈ (ps.flatMap PB.cells).drop ((k + 1) * 1), u.oneCell' = true := fun u hu => pbs_one ps u (List.mem_of_mem_drop hu)
        have hck : ¬ c0 < k := by omega
        have hnk : ¬ ps.length < k + 1 := by omega
        have hnk2 : ¬ (ps.length : Int) < (k : Int) + 1 := by omega
        have hnk3 : ¬ (k : Int) + 1 < 0 := by omega
        have hkw : IntKind.i64.wrap ((k : Int) + 1) = (k : Int) + 1 := by rw [IntKind.wrap_i64]; omega
        go_wp2_with fail
        refine wp_region_reg rfl ?_
        refine reg_flow (TwoSt B 8 16) (twoSt_ok B 8 16) 0 17 46 [(1, .inr (KF 0 (OwnF B 65 1 0 []))), (8, .inr (KF 1 (OwnF B 65 1 k ((ps.flatMap PB.cells).take (k * 1))))), (16, .inr (KF 2 (OwnF B 65 1 (k + (ps.length - (k + 1))) ((ps.flatMap PB.cells).take (k * 1) ++ (ps.flatMap PB.cells).drop ((k + 1) * 1)))))] rfl (by kernel_rfl) (by kernel_rfl) (by kernel_rfl) ?_ (Just.of_grow (Grow.refl _).drew) trivial ?_
        · intro x hx φ he
          simp only [List.mem_cons, List.not_mem_nil, or_false] at hx
          rcases hx with rfl | rfl | rfl <;> cases he
          all_goals first | exact lasts_quiet (lasting_bytes _) | exact kf_lasts (ownF_lasting _ _ _ _ _) _
        intro ops' A' K' T hops hA' hK hT
        refine fl_mv 26 (by rfl) (by decide) (wanted_none (by rfl)) (by rw [hK.out]; rfl) (by rfl) _ (Or.inl (by rfl)) (.pointer (some ⟨g, 0, none⟩)) (by rfl) ?_
        refine fl_any 27 (by rfl) (by decide) (wanted_none (by rfl)) (KF 0 (OwnF B 65 1 0 [])) (by rw [hK.out]; rfl) (fun kk w1 (hg : Just (FromB B) _ w1) hb hf => by refine upon_behindAny (φ := KF 0 (OwnF B 65 1 0 [])) (by rfl) ?_; exact upon_imp (two_made ptrE (HB w1 hg) rfl) fun u w2 h => ⟨h.1, early_of h.2⟩) (fun v27 => ?_)
        refine fl_mv 28 (by rfl) (by decide) (wanted_none (by rfl)) (by rw [hK.out]; rfl) (by rfl) _ (Or.inl (by rfl)) (.pointer (some ⟨g, 0, none⟩)) (by rfl) ?_
        refine fl_op1 29 (by rfl) (by decide) (wanted_none (by rfl)) (by rw [hK.out]; rfl) (by rfl) (.tmp 28) (.pointer (some ⟨g, 0, none⟩)) (by rfl) (.pointer (some ⟨g, 0, none⟩)) (fun ρ h1 kk w1 (hg : Just (FromB B) _ w1) hb hf => by go_simp) ?_
        refine fl_op1 30 (by rfl) (by decide) (wanted_none (by rfl)) (by rw [hK.out]; rfl) (by rfl) (.tmp 29) (.pointer (some ⟨g, 0, none⟩)) (by rfl) (.pointer (some ⟨g, 0, none⟩)) (fun ρ h1 kk w1 (hg : Just (FromB B) _ w1) hb hf => by go_simp) ?_
        refine fl_op1 31 (by rfl) (by decide) (wanted_none (by rfl)) (by rw [hK.out]; rfl) (by rfl) (.tmp 30) (.pointer (some ⟨g, 0, none⟩)) (by rfl) (.slice (some ad) ps.length c0) (fun ρ h1 kk w1 (hg : Just (FromB B) _ w1) hb hf => by have c := (hg.blk hB (fun h => hgB h)).cell 0; go_simp) ?_
        refine fl_mv 32 (by rfl) (by decide) (wanted_none (by rfl)) (by rw [hK.out]; rfl) (by rfl) _ (Or.inl (by rfl)) (.int .i64 (k : Int)) (by rfl) ?_
        refine fl_op2 33 (by rfl) (by decide) (wanted_none (by rfl)) (by rw [hK.out]; rfl) (by rfl) (.tmp 31) (.tmp 32) (.slice (some ad) ps.length c0) (.int .i64 (k : Int)) (by rfl) (by rfl) (.slice (some ad) k c0) (fun ρ h1 h2 kk w1 (hg : Just (FromB B) _ w1) hb hf => by go_simp) ?_
        refine fl_any2 34 (by rfl) (by decide) (wanted_none (by rfl)) (KF 1 (OwnF B 65 1 k ((ps.flatMap PB.cells).take (k * 1)))) (by rw [hK.out]; rfl) (.tmp 27) (.tmp 33) (v27) (.slice (some ad) k c0) (by rfl) (by rfl) (fun ρ h1 h2 kk w1 (hg : Just (FromB B) _ w1) hb hf => by obtain rfl := before_some 0 (by rfl) hb; have hI := hb.1; refine upon_turnAny (φ := KF 1 (OwnF B 65 1 k ((ps.flatMap PB.cells).take (k * 1)))) 0 (by rfl) ?_; have hu : OwnF B _ 1 0 [] v27 w1 := (facts_take hf (by rw [hA'.out]; kernel_rfl)); exact upon_imp (two_app ptrE hu h1 h2 (hI1 w1 hg) hone1 (by omega) (HB w1 hg) rfl) fun u w2 h => ⟨h.1, trivial, by have h3 := h.2.2; simp only [Nat.zero_add, List.nil_append] at h3; exact h3⟩) (fun v34 => ?_)
        refine fl_mv 35 (by rfl) (by decide) (wanted_none (by rfl)) (by rw [hK.out]; rfl) (by rfl) _ (Or.inl (by rfl)) (.pointer (some ⟨g, 0, none⟩)) (by rfl) ?_
        refine fl_op1 36 (by rfl) (by decide) (wanted_none (by rfl)) (by rw [hK.out]; rfl) (by rfl) (.tmp 35) (.pointer (some ⟨g, 0, none⟩)) (by rfl) (.pointer (some ⟨g, 0, none⟩)) (fun ρ h1 kk w1 (hg : Just (FromB B) _ w1) hb hf => by go_simp) ?_
        refine fl_op1 37 (by rfl) (by decide) (wanted_none (by rfl)) (by rw [hK.out]; rfl) (by rfl) (.tmp 36) (.pointer (some ⟨g, 0, none⟩)) (by rfl) (.pointer (some ⟨g, 0, none⟩)) (fun ρ h1 kk w1 (hg : Just (FromB B) _ w1) hb hf => by go_simp) ?_
        refine fl_op1 38 (by rfl) (by decide) (wanted_none (by rfl)) (by rw [hK.out]; rfl) (by rfl) (.tmp 37) (.pointer (some ⟨g, 0, none⟩)) (by rfl) (.slice (some ad) ps.length c0) (fun ρ h1 kk w1 (hg : Just (FromB B) _ w1) hb hf => by have c := (hg.blk hB (fun h => hgB h)).cell 0; go_simp) ?_
        refine fl_mv 39 (by rfl) (by decide) (wanted_none (by rfl)) (by rw [hK.out]; rfl) (by rfl) _ (Or.inl (by rfl)) (.int .i64 (k : Int)) (by rfl) ?_
        refine fl_op2 40 (by rfl) (by decide) (wanted_none (by rfl)) (by rw [hK.out]; rfl) (by rfl) (.tmp 39) (.const (.int .i64 1)) (.int .i64 (k : Int)) (.int .i64 1) (by rfl) (by rfl) (.int .i64 ((k : Int) + 1)) (fun ρ h1 h2 kk w1 (hg : Just (FromB B) _ w1) hb hf => by go_simp) ?_
        refine fl_op2 41 (by rfl) (by decide) (wanted_none (by rfl)) (by rw [hK.out]; rfl) (by rfl) (.tmp 38) (.tmp 40) (.slice (some ad) ps.length c0) (.int .i64 ((k : Int) + 1)) (by rfl) (by rfl) (.slice A2 (ps.length - (k + 1)) (c0 - (k + 1))) (fun ρ h1 h2 kk w1 (hg : Just (FromB B) _ w1) hb hf => by have hA := HA2.out; go_simp) ?_
        refine fl_any2 42 (by rfl) (by decide) (wanted_none (by rfl)) (KF 2 (OwnF B 65 1 (k + (ps.length - (k + 1))) ((ps.flatMap PB.cells).take (k * 1) ++ (ps.flatMap PB.cells).drop ((k + 1) * 1)))) (by rw [hK.out]; rfl) (.tmp 34) (.tmp 41) (v34) (.slice A2 (ps.length - (k + 1)) (c0 - (k + 1))) (by rfl) (by rfl) (fun ρ h1 h2 kk w1 (hg : Just (FromB B) _ w1) hb hf => by obtain rfl := before_some 1 (by rfl) hb; have hI := hb.1; refine upon_turnAny (φ := KF 2 (OwnF B 65 1 (k + (ps.length - (k + 1))) ((ps.flatMap PB.cells).take (k * 1) ++ (ps.flatMap PB.cells).drop ((k + 1) * 1)))) 1 (by rfl) ?_; exact two_app ptrE (show OwnF B _ 1 k _ v34 w1 from (facts_take hf (by rw [hA'.out]; kernel_rfl))) h1 h2 (hI2 w1 hg) hone2 (by omega) (HB w1 hg) rfl) (fun v42 => ?_)
        refine fl_end (fun _ _ w1 (hg : Just (FromB B) _ w1) hend hfacts => hT _ _ ?_)
        clear hops hA' hK hT
        simp only [putsL, Act.put, List.setIfInBounds_toArray, List.set_cons_zero, List.set_cons_succ]
        have hF : OwnF B 65 1 (k + (ps.length - (k + 1))) ((ps.flatMap PB.cells).take (k * 1) ++ (ps.flatMap PB.cells).drop ((k + 1) * 1)) v42 w1 := hfacts.1
        clear hend hfacts
        obtain ⟨A4, c4, hv4, hI4, hn4, hm4⟩ := Own.in_ hF
        subst hv4
        have hB1 := hg.blk hB (fun h => hgB h)
        have f0 := hB1.frozen 0
        have c00 := hB1.cell 0
        refine reg_line 17 20 (by kernel_rfl) (by kernel_rfl) ?_
        simp only [List.take_succ_cons, List.take_zero, List.drop_succ_cons, List.drop_zero]
        go_wp2_with fail
        refine reg_end ?_
        go_wp2_with fail
        go_ret
        rw [← HLL.out, HDD.out.1, HDD.out.2]
        have hBw : B = w.heap.size := HBd.out
        have hkl : k + (ps.length - (k + 1)) = ps.length - 1 := by omega
        rw [hkl] at hI4 hn4 ⊢
        have hps' : (ps.take k ++ ps.drop (k + 1)).length = ps.length - 1 := by rw [List.length_append, List.length_take, List.length_drop]; omega
        have hcs : (ps.take k ++ ps.drop (k + 1)).flatMap PB.cells = (ps.flatMap PB.cells).take (k * 1) ++ (ps.flatMap PB.cells).drop ((k + 1) * 1) := by
          rw [List.flatMap_append, flat_take PB.cells 1 pb_len, flat_drop PB.cells 1 pb_len]
        have hmem : ∀ b ∈ ps.take k ++ ps.drop (k + 1), b ∈ ps := fun b hb => by
          rcases List.mem_append.1 hb with h | h
          · exact List.mem_of_mem_take h
          · exact List.mem_of_mem_drop h
        have hjs := just_at w1 g 0 (.slice A4 (ps.length - 1) c4)
        have hgw := hB.lt
        refine ⟨rfl, ⟨.inl h1, A4, c4, ps.take k ++ ps.drop (k + 1), fun b => D b ∨ (B ≤ b ∧ b < w1.heap.size), rfl, by omega, ?_, ?_, ?_, hm4, fun x hx => ?_, fun b hb => ?_⟩, ?_⟩
        · rw [hps']; exact hB1.put 0 _
        · rw [hps', hcs]
          exact (In.just hI4 hjs fun b hb h => by have := hb.1; rw [show b = g from h] at this; omega).mono fun b hb => .inr hb
        · rw [hps']; exact hn4
        · exact (((h8 x (hmem x hx)).just hg hDB).just hjs fun b hb h => (h9 b hb).2 h).mono fun _ => .inl
        · rcases hb with hb | hb
          · exact ⟨.inl (h9 b hb).1, (h9 b hb).2⟩
          · exact ⟨.inr ⟨by omega, by rw [setCell_size]; exact hb.2⟩, by omega⟩
        · refine Just.trans ?_ (hjs.imp fun x hx => by rw [show x = g from hx]; exact h1)
          exact ⟨hg.os, hg.tape, hg.output, hg.size, fun i hi _ => hg.block i hi fun h => by have : B ≤ i := h; omega⟩
      · have hbs : (sq == s) = false := beq_eq_false_iff_ne.2 hs
        have HI := Lib.hid (HN.out hs)
        clear hs HE HN
        go_wp2_with fail
        go_round
        case rel => exact ⟨k + 1, by omega, by go_num, HI.out⟩
        case measure => simp [intOf]; omega
    · obtain rfl : k = ps.length := by omega
      obtain ⟨d1, d2⟩ := pb_none (ps := ps) (s := s) fun x hx => by
        obtain ⟨i, hi, rfl⟩ := List.mem_iff_getElem.1 hx
        exact hne i hi hi
      rw [HLL.out] at d1 d2
      have HDD := Lib.hid (And.intro d1 d2)
      clear d1 d2 hne
      go_wp2_with fail
      go_ret
      rw [HDD.out.1, HDD.out.2]
      exact ⟨rfl, hQ'.wide (fun _ => .inl), Just.of_grow (Grow.refl w)⟩
end Go.Proofs.Ytnlfkeajolfboaa
