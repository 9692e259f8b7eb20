/- The same asks, of both: its walk. -/
import Derived.Test.YtjjafpgpnmdjlaaAsks
namespace Go.Proofs.Ytjjafpgpnmdjlaa
open Go.RowKit Go.Hop
set_option maxRecDepth 100000 in
set_option maxHeartbeats 4000000 in
theorem play_any (w : World) (V : Nat → Prop) (A : Option Addr) (n c : Nat) (q : List Ask) (hq : Asks w V A n q) (hV : ∀ b, V b → b < w.heap.size) :
    Calls Try.prog 7 #[.slice A n c] w fun e w' => e = .returned (.bool true) ∧ Grow w w' := by
  have k14 : ∀ (vs : Array Value) (w : World), (callFunc 14 vs).run Try.prog w = .ok (.enter 14 vs) w := fun vs w => by go_simp
  have k15 : ∀ (vs : Array Value) (w : World), (callFunc 15 vs).run Try.prog w = .ok (.enter 15 vs) w := fun vs w => by go_simp
  have k13 : ∀ (vs : Array Value) (w : World), (callFunc 13 vs).run Try.prog w = .ok (.enter 13 vs) w := fun vs w => by go_simp
  go_enter Try.func7, Try.ntmps7
  go_wp2_with fail
  refine (New_any w).mono ?_
  rintro e w1 ⟨t, rfl, hT, hg1⟩
  have hs1 := hg1.size
  have hg2 : Grow w1 (w1.alloc (.cells #[.slice none 0 0] 45)) := (Below.refl _ _).alloc (Nat.le_refl _) _
  have hduo : Duo (fun b => w.heap.size ≤ b) (TimersAt t []) (PlainAt w1.heap.size []) (w1.alloc (.cells #[.slice none 0 0] 45)) :=
    Solo.with_ (w := w1) (U := New w1 (w1.alloc (.cells #[.slice none 0 0] 45))) (Solo.make (V := New w w1) hT (fun b hb => by omega) (fun b hb => hb)) (TimersAt.framed _ _) hg2 ⟨⟨Nat.le_refl _, by simp⟩, none, 0, fun _ => False, Blk.made w1 _ _, In.nil, Nat.le_refl _, Nat.zero_le _, fun _ h => h.elim⟩ (fun b hb => hb)
  have hbelow := below_trans hg1 hg2 hg1.size
  obtain ⟨p, HP⟩ : ∃ p : Nat, Hid (p = w1.heap.size) := ⟨_, rfl⟩
  have hpw : w.heap.size ≤ p := by rw [HP.out]; exact hs1
  go_wp2_with fail
  rw [← HP.out] at hduo ⊢
  clear hT
  go_loopw [5] (fun i wr => ∃ (k : Nat) (S : List It), k ≤ n ∧ k ≤ 150 ∧ i = .int .i64 (k : Int) ∧ S.length ≤ k ∧ Duo (fun b => w.heap.size ≤ b) (TimersAt t S) (PlainAt p S) wr ∧ Below w.heap.size w wr) (fun i _ => 150 - (intOf i).toNat)
  case atStart => exact ⟨0, [], by omega, by omega, rfl, by simp, hduo, hbelow⟩
  case round =>
    obtain ⟨k, S, hkn, hk150, rfl, hlen, hd, hbl⟩ := hrel
    by_cases hk : k < n
    · by_cases hk8 : k < 150
      · obtain ⟨ad, hqk, rfl, hVa, hba, e0, e12⟩ := hq.row.rec_ (by omega) ask_len hk
        have hin := hq.all _ (List.getElem_mem hqk)
        have e0 := e0 _ rfl
        have e1 := e12 0 _ rfl
        have e2 := e12 1 _ rfl
        have hkeep : ∀ p : Addr, p.block < w.heap.size → wr.cell? p = w.cell? p := fun p hp => hbl.cell hp
        have f0 := (hkeep (ad.add (k * 3)) (by rw [block_add]; exact hba)).trans e0
        have f1 := (hkeep ⟨(ad.add (k * 3)).block, (ad.add (k * 3)).off + 1, none⟩ (show (ad.add (k * 3)).block < _ by rw [block_add]; exact hba)).trans e1
        have f2 := (hkeep ⟨(ad.add (k * 3)).block, (ad.add (k * 3)).off + 2, none⟩ (show (ad.add (k * 3)).block < _ by rw [block_add]; exact hba)).trans e2
        clear e0 e1 e2 e12 hkeep
        generalize q[k] = a at hin f0 f1 f2
        obtain ⟨kd, key, z⟩ := a
        obtain ⟨hkd, hk64, hz64⟩ := hin
        dsimp only at hkd hk64 hz64 f0 f1 f2
        have hga : Grow wr (wr.alloc (.cells #[.int .i64 kd, .int .i64 key, .int .i64 z] 24)) := (Below.refl wr.heap.size wr).alloc (Nat.le_refl _) _
        have hBx0 := Blk.made wr 24 #[.int .i64 kd, .int .i64 key, .int .i64 z]
        obtain ⟨x, HX⟩ : ∃ x : Nat, Hid (x = wr.heap.size) := ⟨_, rfl⟩
        obtain ⟨wa, HA⟩ : ∃ wa : World, Hid (wa = wr.alloc (.cells #[.int .i64 kd, .int .i64 key, .int .i64 z] 24)) := ⟨_, rfl⟩
        have hda : Duo (Past w.heap.size x) (TimersAt t S) (PlainAt p S) wa := HA.out ▸ hd.beside (TimersAt.framed t _) (PlainAt.framed p _) hga fun b hb hs => ⟨hb, by have := HX.out; simp at hs; omega⟩
        have hBx : Blk wa x 24 #[.int .i64 kd, .int .i64 key, .int .i64 z] := by rw [HA.out, HX.out]; exact hBx0
        have hbla : Below w.heap.size w wa := HA.out ▸ below_trans hbl hga hbl.size
        obtain ⟨_, V', U', hTa, hPa, _, hV', hU'⟩ := id hda
        obtain ⟨_, A2, c2, D2, hBp, hI2, hnc2, hcm2, hD2⟩ := id hPa
        have hKS : Keys S := hTa.facts.1
        have hsm : S.length ≤ 1048576 := by omega
        clear hBx0 hd hga hbl hTa hPa hV' hU'
        by_cases h3 : kd = 3
        · subst h3
          go_wp2_with fail
          rw [← HA.out, ← HX.out]
          refine wp_region_reg rfl ?_
          refine reg_flow (DuoSt (Past w.heap.size x) (TimersAt t S) (TimersAt t (noKey key S)) (PlainAt p S) (PlainAt p (noKey key S)) 3 7) (duoSt_ok (TimersAt.framed t _) (TimersAt.framed t _) (PlainAt.framed p _) (PlainAt.framed p _)) 0 9 164 [(3, .inl (.bool (hasKey key S))), (7, .inl (.bool (hasKey key S)))] rfl (by kernel_rfl) (by kernel_rfl) (by kernel_rfl) ?_ (Just.of_grow (Grow.refl _).drew) (hda.grow (TimersAt.framed t _) (PlainAt.framed p _) (Grow.refl _).drew) ?_
          · intro x hx φ he
            simp only [List.mem_cons, List.not_mem_nil, or_false] at hx
            rcases hx with rfl | rfl <;> cases he
          intro ops' A' K' T hops hA' hK hT
          refine fl_mv 47 (by rfl) (by decide) (wanted_none (by rfl)) (by rw [hK.out]; rfl) (by rfl) _ (Or.inl (by rfl)) (.pointer (some ⟨t, 0, none⟩)) (by rfl) ?_
          refine fl_op1 48 (by rfl) (by decide) (wanted_none (by rfl)) (by rw [hK.out]; rfl) (by rfl) (.tmp 6) (.pointer (some ⟨x, 0, none⟩)) (by rfl) (.pointer (some ⟨x, 1, none⟩)) (fun ρ h1 kk w1 (hg : Just (Past w.heap.size x) _ w1) hb hf => by go_simp) ?_
          refine fl_op1 49 (by rfl) (by decide) (wanted_none (by rfl)) (by rw [hK.out]; rfl) (by rfl) (.tmp 48) (.pointer (some ⟨x, 1, none⟩)) (by rfl) (.int .i64 key) (fun ρ h1 kk w1 (hg : Just (Past w.heap.size x) _ w1) hb hf => by have c := (hg.blk hBx (fun h => h.2 rfl)).cell 1; go_simp) ?_
          refine fl_call 50 (by rfl) (by decide) (wanted_none (by rfl)) (.bool (hasKey key S)) (by rw [hK.out]; rfl) 14 _ _ (by rfl) [.pointer (some ⟨t, 0, none⟩), .int .i64 key] (by rfl) k14 (fun kk w1 (hg : Just (Past w.heap.size x) _ w1) hb hf => calls_turn 0 (by rfl) (by obtain rfl := before_some 0 (by rfl) hb; have hI := hb.1; exact hI.left (PlainAt.framed p _) (Stop_any w1 t S key hk64))) ?_
          refine fl_mv 51 (by rfl) (by decide) (wanted_none (by rfl)) (by rw [hK.out]; rfl) (by rfl) _ (Or.inl (by rfl)) (.pointer (some ⟨p, 0, none⟩)) (by rfl) ?_
          refine fl_op1 52 (by rfl) (by decide) (wanted_none (by rfl)) (by rw [hK.out]; rfl) (by rfl) (.tmp 6) (.pointer (some ⟨x, 0, none⟩)) (by rfl) (.pointer (some ⟨x, 1, none⟩)) (fun ρ h1 kk w1 (hg : Just (Past w.heap.size x) _ w1) hb hf => by go_simp) ?_
          refine fl_op1 53 (by rfl) (by decide) (wanted_none (by rfl)) (by rw [hK.out]; rfl) (by rfl) (.tmp 52) (.pointer (some ⟨x, 1, none⟩)) (by rfl) (.int .i64 key) (fun ρ h1 kk w1 (hg : Just (Past w.heap.size x) _ w1) hb hf => by have c := (hg.blk hBx (fun h => h.2 rfl)).cell 1; go_simp) ?_
          refine fl_call 54 (by rfl) (by decide) (wanted_none (by rfl)) (.bool (hasKey key S)) (by rw [hK.out]; rfl) 15 _ _ (by rfl) [.pointer (some ⟨p, 0, none⟩), .int .i64 key] (by rfl) k15 (fun kk w1 (hg : Just (Past w.heap.size x) _ w1) hb hf => calls_turn 1 (by rfl) (by obtain rfl := before_some 1 (by rfl) hb; have hI := hb.1; exact hI.right (TimersAt.framed t _) (pstop_any w1 p S key hKS hsm))) ?_
          refine fl_op2 55 (by rfl) (by decide) (wanted_none (by rfl)) (by rw [hK.out]; rfl) (by rfl) (.tmp 50) (.tmp 54) (.bool (hasKey key S)) (.bool (hasKey key S)) (by rfl) (by rfl) (.bool false) (fun ρ h1 h2 kk w1 (hg : Just (Past w.heap.size x) _ w1) hb hf => by go_simp) ?_
          refine fl_end (fun _ _ w1 (hg : Just (Past w.heap.size x) _ w1) hend hfacts => hT _ _ ?_)
          clear hops hA' hK hT
          simp only [putsL, Act.put, List.setIfInBounds_toArray, List.set_cons_zero, List.set_cons_succ]
          have hd6 : Duo (Past w.heap.size x) (TimersAt t (noKey key S)) (PlainAt p (noKey key S)) w1 := hend
          have hb6 := Below.trans hbla (hg.below (B := w.heap.size) (fun b hb => hb.1) hbla.size)
          have hlen2 : (noKey key S).length ≤ k + 1 := by have : (noKey key S).length ≤ S.length := List.length_filter_le _ _; omega
          clear hend hfacts hda hbla hg HA hBp hI2
          refine reg_end ?_
          generalize hl2 : noKey key S = l2 at hd6 hlen2
          clear hl2
          obtain ⟨_, V6, U6, hT6, hP6, _, hV6, hU6⟩ := id hd6
          obtain ⟨_, A2, c2, D2, hBp, hI2, _, _, _⟩ := id hP6
          go_wp2_with fail
          skip
          refine (Next_any w1 t l2 V6 hT6).mono ?_
          rintro e w3 ⟨rfl, hg3⟩
          cases l2 with
          | nil =>
            unfold firstV
            skip
            have hg4 : Grow w3 (w3.alloc (.cells #[.int .i64 0, .int .i64 0] 36)) := (Below.refl _ _).alloc (Nat.le_refl _) _
            have hBn := Blk.made w3 36 #[.int .i64 0, .int .i64 0]
            have hg5 := hg3.trans hg4
            have hT4 := TimersAt.framed _ _ _ (w3.alloc (.cells #[.int .i64 0, .int .i64 0] 36)) _ hT6 fun b hb => hg5.block b (hV6 b hb).2
            have hVn : ∀ b, V6 b → b < (w3.alloc (.cells #[.int .i64 0, .int .i64 0] 36)).heap.size := fun b hb => Nat.lt_of_lt_of_le (hV6 b hb).2 hg5.size
            have hd7 := (hd6.grow (TimersAt.framed t _) (PlainAt.framed p _) hg5).wide (P' := fun b => w.heap.size ≤ b) (fun b hb => hb.1)
            have hBp7 := hBp.grow hg5
            have hI7 := hI2.grow hg5
            obtain ⟨wn, HN⟩ : ∃ wn : World, Hid (wn = w3.alloc (.cells #[.int .i64 0, .int .i64 0] 36)) := ⟨_, rfl⟩
            obtain ⟨y, HY⟩ : ∃ y : Nat, Hid (y = w3.heap.size) := ⟨_, rfl⟩
            have hb7 : Below w.heap.size w wn := HN.out ▸ below_trans hb6 hg5 hb6.size
            rw [← HN.out] at hT4 hd7 hBn hBp7 hI7 hVn
            rw [← HY.out] at hBn
            have hlm : (([] : List It).length : Int) = 0 := rfl
            have hcp : ∀ w2, Grow wn w2 → w2.cell? ⟨p, 0, none⟩ = some (.slice A2 0 c2) := fun w2 hg => (hBp7.grow hg).cell 0
            have hcn0 : ∀ w2, Grow wn w2 → w2.cell? ⟨y, 0, none⟩ = some (.int .i64 0) := fun w2 hg => (hBn.grow hg).cell 0
            have hcn1 : ∀ w2, Grow wn w2 → w2.cell? ⟨y, 1, none⟩ = some (.int .i64 0) := fun w2 hg => (hBn.grow hg).cell 1
            have hT5 : ∀ w2, Grow wn w2 → TimersAt t ([] : List It) w2 V6 := fun w2 hg => TimersAt.framed _ _ _ _ _ hT4 fun b hb => hg.block b (hVn b hb)
            go_wp2_with fail
            rw [← HN.out, ← HY.out]
            clear hg4 hg5 hBn hT6 hP6 hV6 hU6 hT4 hBp7 hI7 hBp hI2
            refine wp_region_flow 40 164 [(1, .inl (.int .i64 0))] rfl rfl (by kernel_rfl) (by kernel_rfl) (by kernel_rfl) ?_ ?_
            · intro x hx φ he
              simp only [List.mem_cons, List.not_mem_nil, or_false] at hx
              rcases hx with rfl <;> cases he
            intro ops' A' K' T hops hA' hK hT
            refine fl_mv 122 (by rfl) (by decide) (wanted_none (by rfl)) (by rw [hK.out]; rfl) (by rfl) _ (Or.inl (by rfl)) (.pointer (some ⟨t, 0, none⟩)) (by rfl) ?_
            refine fl_call 123 (by rfl) (by decide) (wanted_none (by rfl)) (.int .i64 0) (by rw [hK.out]; rfl) 13 _ _ (by rfl) [.pointer (some ⟨t, 0, none⟩)] (by rfl) k13 (fun kk w1 (hg : Grow _ w1) hb hf => calls_behind (by rfl) (by exact grew_same (tLen_n (hT5 w1 hg) hlm))) ?_
            refine fl_mv 124 (by rfl) (by decide) (wanted_none (by rfl)) (by rw [hK.out]; rfl) (by rfl) _ (Or.inl (by rfl)) (.pointer (some ⟨p, 0, none⟩)) (by rfl) ?_
            refine fl_op1 125 (by rfl) (by decide) (wanted_none (by rfl)) (by rw [hK.out]; rfl) (by rfl) (.tmp 124) (.pointer (some ⟨p, 0, none⟩)) (by rfl) (.pointer (some ⟨p, 0, none⟩)) (fun ρ h1 kk w1 (hg : Grow _ w1) hb hf => by go_simp) ?_
            refine fl_op1 126 (by rfl) (by decide) (wanted_none (by rfl)) (by rw [hK.out]; rfl) (by rfl) (.tmp 125) (.pointer (some ⟨p, 0, none⟩)) (by rfl) (.pointer (some ⟨p, 0, none⟩)) (fun ρ h1 kk w1 (hg : Grow _ w1) hb hf => by go_simp) ?_
            refine fl_op1 127 (by rfl) (by decide) (wanted_none (by rfl)) (by rw [hK.out]; rfl) (by rfl) (.tmp 126) (.pointer (some ⟨p, 0, none⟩)) (by rfl) (.slice A2 0 c2) (fun ρ h1 kk w1 (hg : Grow _ w1) hb hf => by have c := hcp w1 hg; go_simp) ?_
            refine fl_op1 128 (by rfl) (by decide) (wanted_none (by rfl)) (by rw [hK.out]; rfl) (by rfl) (.tmp 127) (.slice A2 0 c2) (by rfl) (.int .i64 0) (fun ρ h1 kk w1 (hg : Grow _ w1) hb hf => by go_simp) ?_
            refine fl_op2 129 (by rfl) (by decide) (wanted_none (by rfl)) (by rw [hK.out]; rfl) (by rfl) (.tmp 123) (.tmp 128) (.int .i64 0) (.int .i64 0) (by rfl) (by rfl) (.bool false) (fun ρ h1 h2 kk w1 (hg : Grow _ w1) hb hf => by go_simp) ?_
            refine fl_mv 130 (by rfl) (by decide) (wanted_none (by rfl)) (by rw [hK.out]; rfl) (by rfl) _ (Or.inl (by rfl)) (.bool false) (by rfl) ?_
            refine fl_mv 131 (by rfl) (by decide) (wanted_if hops 8 false (by rfl) 130 (by rfl) false (by rfl)) (by rw [hK.out]; rfl) (by rfl) _ (Or.inl (by rfl)) (.bool false) (by rfl) ?_
            refine fl_mv 132 (by rfl) (by decide) (wanted_if hops 8 false (by rfl) 130 (by rfl) false (by rfl)) (by rw [hK.out]; rfl) (by rfl) _ (Or.inl (by rfl)) (.pointer (some ⟨p, 0, none⟩)) (by rfl) ?_
            refine fl_op1 133 (by rfl) (by decide) (wanted_if hops 8 false (by rfl) 130 (by rfl) false (by rfl)) (by rw [hK.out]; rfl) (by rfl) (.tmp 132) (.pointer (some ⟨p, 0, none⟩)) (by rfl) (.pointer (some ⟨p, 0, none⟩)) (fun ρ h1 kk w1 (hg : Grow _ w1) hb hf => by go_simp) ?_
            refine fl_op1 134 (by rfl) (by decide) (wanted_if hops 8 false (by rfl) 130 (by rfl) false (by rfl)) (by rw [hK.out]; rfl) (by rfl) (.tmp 133) (.pointer (some ⟨p, 0, none⟩)) (by rfl) (.pointer (some ⟨p, 0, none⟩)) (fun ρ h1 kk w1 (hg : Grow _ w1) hb hf => by go_simp) ?_
            refine fl_op1 135 (by rfl) (by decide) (wanted_if hops 8 false (by rfl) 130 (by rfl) false (by rfl)) (by rw [hK.out]; rfl) (by rfl) (.tmp 134) (.pointer (some ⟨p, 0, none⟩)) (by rfl) (.slice A2 0 c2) (fun ρ h1 kk w1 (hg : Grow _ w1) hb hf => by have c := hcp w1 hg; go_simp) ?_
            refine fl_op1 136 (by rfl) (by decide) (wanted_if hops 8 false (by rfl) 130 (by rfl) false (by rfl)) (by rw [hK.out]; rfl) (by rfl) (.tmp 135) (.slice A2 0 c2) (by rfl) (.int .i64 0) (fun ρ h1 kk w1 (hg : Grow _ w1) hb hf => by go_simp) ?_
            refine fl_op2 137 (by rfl) (by decide) (wanted_if hops 8 false (by rfl) 130 (by rfl) false (by rfl)) (by rw [hK.out]; rfl) (by rfl) (.tmp 136) (.const (.int .i64 0)) (.int .i64 0) (.int .i64 0) (by rfl) (by rfl) (.bool false) (fun ρ h1 h2 kk w1 (hg : Grow _ w1) hb hf => by go_simp) ?_
            refine fl_op2 138 (by rfl) (by decide) (wanted_if hops 8 false (by rfl) 130 (by rfl) false (by rfl)) (by rw [hK.out]; rfl) (by rfl) (.tmp 131) (.tmp 137) (.bool false) (.bool false) (by rfl) (by rfl) (.bool false) (fun ρ h1 h2 kk w1 (hg : Grow _ w1) hb hf => by go_simp) ?_
            refine fl_pick 139 (by rfl) (by decide) (wanted_none (by rfl)) (by rw [hK.out]; rfl) (by rfl) _ _ _ (by rfl) false (by rfl) (.bool false) (by rfl) ?_
            refine fl_mv 140 (by rfl) (by decide) (wanted_none (by rfl)) (by rw [hK.out]; rfl) (by rfl) _ (Or.inl (by rfl)) (.bool false) (by rfl) ?_
            refine fl_mv 141 (by rfl) (by decide) (wanted_if hops 18 false (by rfl) 140 (by rfl) false (by rfl)) (by rw [hK.out]; rfl) (by rfl) _ (Or.inl (by rfl)) (.bool false) (by rfl) ?_
            refine fl_mv 142 (by rfl) (by decide) (wanted_if hops 18 false (by rfl) 140 (by rfl) false (by rfl)) (by rw [hK.out]; rfl) (by rfl) _ (Or.inl (by rfl)) (.bool false) (by rfl) ?_
            refine fl_skip 143 (by rfl) (by decide) (wanted_if hops 20 true (by rfl) 142 (by rfl) false (by rfl)) (by rfl) ?_
            refine fl_skip 144 (by rfl) (by decide) (wanted_if hops 20 true (by rfl) 142 (by rfl) false (by rfl)) (by rfl) ?_
            refine fl_skip 145 (by rfl) (by decide) (wanted_if hops 20 true (by rfl) 142 (by rfl) false (by rfl)) (by rfl) ?_
            refine fl_skip 146 (by rfl) (by decide) (wanted_if hops 20 true (by rfl) 142 (by rfl) false (by rfl)) (by rfl) ?_
            refine fl_skip 147 (by rfl) (by decide) (wanted_if hops 20 true (by rfl) 142 (by rfl) false (by rfl)) (by rfl) ?_
            refine fl_skip 148 (by rfl) (by decide) (wanted_if hops 20 true (by rfl) 142 (by rfl) false (by rfl)) (by rfl) ?_
            refine fl_skip 149 (by rfl) (by decide) (wanted_if hops 20 true (by rfl) 142 (by rfl) false (by rfl)) (by rfl) ?_
            refine fl_skip 150 (by rfl) (by decide) (wanted_if hops 20 true (by rfl) 142 (by rfl) false (by rfl)) (by rfl) ?_
            refine fl_pick 151 (by rfl) (by decide) (wanted_if hops 18 false (by rfl) 140 (by rfl) false (by rfl)) (by rw [hK.out]; rfl) (by rfl) _ _ _ (by rfl) false (by rfl) (.bool false) (by rfl) ?_
            refine fl_pick 152 (by rfl) (by decide) (wanted_none (by rfl)) (by rw [hK.out]; rfl) (by rfl) _ _ _ (by rfl) false (by rfl) (.bool false) (by rfl) ?_
            refine fl_mv 153 (by rfl) (by decide) (wanted_none (by rfl)) (by rw [hK.out]; rfl) (by rfl) _ (Or.inl (by rfl)) (.bool false) (by rfl) ?_
            refine fl_mv 154 (by rfl) (by decide) (wanted_if hops 31 false (by rfl) 153 (by rfl) false (by rfl)) (by rw [hK.out]; rfl) (by rfl) _ (Or.inl (by rfl)) (.bool false) (by rfl) ?_
            refine fl_op1 155 (by rfl) (by decide) (wanted_if hops 31 false (by rfl) 153 (by rfl) false (by rfl)) (by rw [hK.out]; rfl) (by rfl) (.tmp 154) (.bool false) (by rfl) (.bool true) (fun ρ h1 kk w1 (hg : Grow _ w1) hb hf => by go_simp) ?_
            refine fl_mv 156 (by rfl) (by decide) (wanted_if hops 31 false (by rfl) 153 (by rfl) false (by rfl)) (by rw [hK.out]; rfl) (by rfl) _ (Or.inl (by rfl)) (.bool true) (by rfl) ?_
            refine fl_op1 157 (by rfl) (by decide) (wanted_if hops 34 true (by rfl) 156 (by rfl) true (by rfl)) (by rw [hK.out]; rfl) (by rfl) (.tmp 10) (.pointer (some ⟨y, 0, none⟩)) (by rfl) (.agg #[.int .i64 0, .int .i64 0]) (fun ρ h1 kk w1 (hg : Grow _ w1) hb hf => by have c := hcn0 w1 hg; have c1 := hcn1 w1 hg; go_simp) ?_
            refine fl_det 158 (by rfl) (by decide) (wanted_if hops 34 true (by rfl) 156 (by rfl) true (by rfl)) (by rw [hK.out]; rfl) (by rfl) (.agg #[.int .i64 0, .int .i64 0]) (fun kk w1 (hg : Grow _ w1) hb hf => by go_simp) ?_
            refine fl_op2 159 (by rfl) (by decide) (wanted_if hops 34 true (by rfl) 156 (by rfl) true (by rfl)) (by rw [hK.out]; rfl) (by rfl) (.tmp 157) (.tmp 158) (.agg #[.int .i64 0, .int .i64 0]) (.agg #[.int .i64 0, .int .i64 0]) (by rfl) (by rfl) (.bool false) (fun ρ h1 h2 kk w1 (hg : Grow _ w1) hb hf => by go_simp) ?_
            refine fl_pick 160 (by rfl) (by decide) (wanted_if hops 31 false (by rfl) 153 (by rfl) false (by rfl)) (by rw [hK.out]; rfl) (by rfl) _ _ _ (by rfl) true (by rfl) (.bool false) (by rfl) ?_
            refine fl_pick 161 (by rfl) (by decide) (wanted_none (by rfl)) (by rw [hK.out]; rfl) (by rfl) _ _ _ (by rfl) false (by rfl) (.bool false) (by rfl) ?_
            refine fl_end (fun _ _ w1 (hg : Grow _ w1) _ hfacts => hT _ _ ?_)
            clear hops hA' hK hT
            simp only [putsL, Act.put, List.setIfInBounds_toArray, List.set_cons_zero, List.set_cons_succ, List.drop_succ_cons, List.drop_zero]
            clear hfacts
            have hd8 := hd7.grow (TimersAt.framed t _) (PlainAt.framed p _) hg
            have hb8 := below_trans hb7 hg hb7.size
            go_wp2_with fail
            go_roundw
            case rel => exact ⟨k + 1, _, by omega, by omega, by go_num, hlen2, hd8, hb8⟩
            case measure => simp [intOf]; omega
          | cons a l =>
            unfold firstV
            obtain ⟨a1, a2⟩ := a
            have hg4 : Grow w3 (w3.alloc (.cells #[.int .i64 a1, .int .i64 a2] 36)) := (Below.refl _ _).alloc (Nat.le_refl _) _
            have hBn := Blk.made w3 36 #[.int .i64 a1, .int .i64 a2]
            have hg5 := hg3.trans hg4
            have hT4 := TimersAt.framed _ _ _ (w3.alloc (.cells #[.int .i64 a1, .int .i64 a2] 36)) _ hT6 fun b hb => hg5.block b (hV6 b hb).2
            have hVn : ∀ b, V6 b → b < (w3.alloc (.cells #[.int .i64 a1, .int .i64 a2] 36)).heap.size := fun b hb => Nat.lt_of_lt_of_le (hV6 b hb).2 hg5.size
            have hd7 := (hd6.grow (TimersAt.framed t _) (PlainAt.framed p _) hg5).wide (P' := fun b => w.heap.size ≤ b) (fun b hb => hb.1)
            have hBp7 := hBp.grow hg5
            have hI7 := hI2.grow hg5
            obtain ⟨wn, HN⟩ : ∃ wn : World, Hid (wn = w3.alloc (.cells #[.int .i64 a1, .int .i64 a2] 36)) := ⟨_, rfl⟩
            obtain ⟨y, HY⟩ : ∃ y : Nat, Hid (y = w3.heap.size) := ⟨_, rfl⟩
            have hb7 : Below w.heap.size w wn := HN.out ▸ below_trans hb6 hg5 hb6.size
            rw [← HN.out] at hT4 hd7 hBn hBp7 hI7 hVn
            rw [← HY.out] at hBn
            obtain ⟨m, HM⟩ : ∃ m : Nat, Hid (m = ((a1, a2) :: l).length) := ⟨_, rfl⟩
            have hlm : (((a1, a2) :: l).length : Int) = (m : Int) := by rw [HM.out]
            have hm0 : 0 < m := by rw [HM.out]; simp
            obtain ⟨ad6, rfl, _, hadB, e0, e1⟩ := itc_rec hI7 (k := 0) (by simp)
            have hh0 : hat ((a1, a2) :: l) 0 = (a1, a2) := rfl
            rw [hh0] at e0 e1
            simp only [Nat.zero_mul, Addr.add_zero'] at e0 e1
            rw [← HM.out] at hBp7
            have he0 : ∀ w2, Grow wn w2 → w2.cell? ad6 = some (.int .i64 a1) := fun w2 hg => (hg.cell hadB).trans e0
            have he1 : ∀ w2, Grow wn w2 → w2.cell? ⟨ad6.block, ad6.off + 1, none⟩ = some (.int .i64 a2) := fun w2 hg => (hg.cell (p := ⟨ad6.block, ad6.off + 1, none⟩) hadB).trans e1
            have hcp : ∀ w2, Grow wn w2 → w2.cell? ⟨p, 0, none⟩ = some (.slice (some ad6) m c2) := fun w2 hg => (hBp7.grow hg).cell 0
            have hcn0 : ∀ w2, Grow wn w2 → w2.cell? ⟨y, 0, none⟩ = some (.int .i64 a1) := fun w2 hg => (hBn.grow hg).cell 0
            have hcn1 : ∀ w2, Grow wn w2 → w2.cell? ⟨y, 1, none⟩ = some (.int .i64 a2) := fun w2 hg => (hBn.grow hg).cell 1
            have hT5 : ∀ w2, Grow wn w2 → TimersAt t ((a1, a2) :: l) w2 V6 := fun w2 hg => TimersAt.framed _ _ _ _ _ hT4 fun b hb => hg.block b (hVn b hb)
            go_wp2_with fail
            rw [← HN.out, ← HY.out]
            clear hg4 hg5 hBn hT6 hP6 hV6 hU6 hT4 hBp7 hI7 hBp hI2
            refine wp_region_flow 40 164 [(1, .inl (.int .i64 (m : Int)))] rfl rfl (by kernel_rfl) (by kernel_rfl) (by kernel_rfl) ?_ ?_
            · intro x hx φ he
              simp only [List.mem_cons, List.not_mem_nil, or_false] at hx
              rcases hx with rfl <;> cases he
            intro ops' A' K' T hops hA' hK hT
            refine fl_mv 122 (by rfl) (by decide) (wanted_none (by rfl)) (by rw [hK.out]; rfl) (by rfl) _ (Or.inl (by rfl)) (.pointer (some ⟨t, 0, none⟩)) (by rfl) ?_
            refine fl_call 123 (by rfl) (by decide) (wanted_none (by rfl)) (.int .i64 (m : Int)) (by rw [hK.out]; rfl) 13 _ _ (by rfl) [.pointer (some ⟨t, 0, none⟩)] (by rfl) k13 (fun kk w1 (hg : Grow _ w1) hb hf => calls_behind (by rfl) (by exact grew_same (tLen_n (hT5 w1 hg) hlm))) ?_
            refine fl_mv 124 (by rfl) (by decide) (wanted_none (by rfl)) (by rw [hK.out]; rfl) (by rfl) _ (Or.inl (by rfl)) (.pointer (some ⟨p, 0, none⟩)) (by rfl) ?_
            refine fl_op1 125 (by rfl) (by decide) (wanted_none (by rfl)) (by rw [hK.out]; rfl) (by rfl) (.tmp 124) (.pointer (some ⟨p, 0, none⟩)) (by rfl) (.pointer (some ⟨p, 0, none⟩)) (fun ρ h1 kk w1 (hg : Grow _ w1) hb hf => by go_simp) ?_
            refine fl_op1 126 (by rfl) (by decide) (wanted_none (by rfl)) (by rw [hK.out]; rfl) (by rfl) (.tmp 125) (.pointer (some ⟨p, 0, none⟩)) (by rfl) (.pointer (some ⟨p, 0, none⟩)) (fun ρ h1 kk w1 (hg : Grow _ w1) hb hf => by go_simp) ?_
            refine fl_op1 127 (by rfl) (by decide) (wanted_none (by rfl)) (by rw [hK.out]; rfl) (by rfl) (.tmp 126) (.pointer (some ⟨p, 0, none⟩)) (by rfl) (.slice (some ad6) m c2) (fun ρ h1 kk w1 (hg : Grow _ w1) hb hf => by have c := hcp w1 hg; go_simp) ?_
            refine fl_op1 128 (by rfl) (by decide) (wanted_none (by rfl)) (by rw [hK.out]; rfl) (by rfl) (.tmp 127) (.slice (some ad6) m c2) (by rfl) (.int .i64 (m : Int)) (fun ρ h1 kk w1 (hg : Grow _ w1) hb hf => by go_simp) ?_
            refine fl_op2 129 (by rfl) (by decide) (wanted_none (by rfl)) (by rw [hK.out]; rfl) (by rfl) (.tmp 123) (.tmp 128) (.int .i64 (m : Int)) (.int .i64 (m : Int)) (by rfl) (by rfl) (.bool false) (fun ρ h1 h2 kk w1 (hg : Grow _ w1) hb hf => by go_simp) ?_
            refine fl_mv 130 (by rfl) (by decide) (wanted_none (by rfl)) (by rw [hK.out]; rfl) (by rfl) _ (Or.inl (by rfl)) (.bool false) (by rfl) ?_
            refine fl_mv 131 (by rfl) (by decide) (wanted_if hops 8 false (by rfl) 130 (by rfl) false (by rfl)) (by rw [hK.out]; rfl) (by rfl) _ (Or.inl (by rfl)) (.bool true) (by rfl) ?_
            refine fl_mv 132 (by rfl) (by decide) (wanted_if hops 8 false (by rfl) 130 (by rfl) false (by rfl)) (by rw [hK.out]; rfl) (by rfl) _ (Or.inl (by rfl)) (.pointer (some ⟨p, 0, none⟩)) (by rfl) ?_
            refine fl_op1 133 (by rfl) (by decide) (wanted_if hops 8 false (by rfl) 130 (by rfl) false (by rfl)) (by rw [hK.out]; rfl) (by rfl) (.tmp 132) (.pointer (some ⟨p, 0, none⟩)) (by rfl) (.pointer (some ⟨p, 0, none⟩)) (fun ρ h1 kk w1 (hg : Grow _ w1) hb hf => by go_simp) ?_
            refine fl_op1 134 (by rfl) (by decide) (wanted_if hops 8 false (by rfl) 130 (by rfl) false (by rfl)) (by rw [hK.out]; rfl) (by rfl) (.tmp 133) (.pointer (some ⟨p, 0, none⟩)) (by rfl) (.pointer (some ⟨p, 0, none⟩)) (fun ρ h1 kk w1 (hg : Grow _ w1) hb hf => by go_simp) ?_
            refine fl_op1 135 (by rfl) (by decide) (wanted_if hops 8 false (by rfl) 130 (by rfl) false (by rfl)) (by rw [hK.out]; rfl) (by rfl) (.tmp 134) (.pointer (some ⟨p, 0, none⟩)) (by rfl) (.slice (some ad6) m c2) (fun ρ h1 kk w1 (hg : Grow _ w1) hb hf => by have c := hcp w1 hg; go_simp) ?_
            refine fl_op1 136 (by rfl) (by decide) (wanted_if hops 8 false (by rfl) 130 (by rfl) false (by rfl)) (by rw [hK.out]; rfl) (by rfl) (.tmp 135) (.slice (some ad6) m c2) (by rfl) (.int .i64 (m : Int)) (fun ρ h1 kk w1 (hg : Grow _ w1) hb hf => by go_simp) ?_
            refine fl_op2 137 (by rfl) (by decide) (wanted_if hops 8 false (by rfl) 130 (by rfl) false (by rfl)) (by rw [hK.out]; rfl) (by rfl) (.tmp 136) (.const (.int .i64 0)) (.int .i64 (m : Int)) (.int .i64 0) (by rfl) (by rfl) (.bool true) (fun ρ h1 h2 kk w1 (hg : Grow _ w1) hb hf => by go_simp) ?_
            refine fl_op2 138 (by rfl) (by decide) (wanted_if hops 8 false (by rfl) 130 (by rfl) false (by rfl)) (by rw [hK.out]; rfl) (by rfl) (.tmp 131) (.tmp 137) (.bool true) (.bool true) (by rfl) (by rfl) (.bool false) (fun ρ h1 h2 kk w1 (hg : Grow _ w1) hb hf => by go_simp) ?_
            refine fl_pick 139 (by rfl) (by decide) (wanted_none (by rfl)) (by rw [hK.out]; rfl) (by rfl) _ _ _ (by rfl) false (by rfl) (.bool false) (by rfl) ?_
            refine fl_mv 140 (by rfl) (by decide) (wanted_none (by rfl)) (by rw [hK.out]; rfl) (by rfl) _ (Or.inl (by rfl)) (.bool false) (by rfl) ?_
            refine fl_mv 141 (by rfl) (by decide) (wanted_if hops 18 false (by rfl) 140 (by rfl) false (by rfl)) (by rw [hK.out]; rfl) (by rfl) _ (Or.inl (by rfl)) (.bool true) (by rfl) ?_
            refine fl_mv 142 (by rfl) (by decide) (wanted_if hops 18 false (by rfl) 140 (by rfl) false (by rfl)) (by rw [hK.out]; rfl) (by rfl) _ (Or.inl (by rfl)) (.bool true) (by rfl) ?_
            refine fl_op1 143 (by rfl) (by decide) (wanted_if hops 20 true (by rfl) 142 (by rfl) true (by rfl)) (by rw [hK.out]; rfl) (by rfl) (.tmp 10) (.pointer (some ⟨y, 0, none⟩)) (by rfl) (.agg #[.int .i64 a1, .int .i64 a2]) (fun ρ h1 kk w1 (hg : Grow _ w1) hb hf => by have c := hcn0 w1 hg; have c1 := hcn1 w1 hg; go_simp) ?_
            refine fl_mv 144 (by rfl) (by decide) (wanted_if hops 20 true (by rfl) 142 (by rfl) true (by rfl)) (by rw [hK.out]; rfl) (by rfl) _ (Or.inl (by rfl)) (.pointer (some ⟨p, 0, none⟩)) (by rfl) ?_
            refine fl_op1 145 (by rfl) (by decide) (wanted_if hops 20 true (by rfl) 142 (by rfl) true (by rfl)) (by rw [hK.out]; rfl) (by rfl) (.tmp 144) (.pointer (some ⟨p, 0, none⟩)) (by rfl) (.pointer (some ⟨p, 0, none⟩)) (fun ρ h1 kk w1 (hg : Grow _ w1) hb hf => by go_simp) ?_
            refine fl_op1 146 (by rfl) (by decide) (wanted_if hops 20 true (by rfl) 142 (by rfl) true (by rfl)) (by rw [hK.out]; rfl) (by rfl) (.tmp 145) (.pointer (some ⟨p, 0, none⟩)) (by rfl) (.pointer (some ⟨p, 0, none⟩)) (fun ρ h1 kk w1 (hg : Grow _ w1) hb hf => by go_simp) ?_
            refine fl_op1 147 (by rfl) (by decide) (wanted_if hops 20 true (by rfl) 142 (by rfl) true (by rfl)) (by rw [hK.out]; rfl) (by rfl) (.tmp 146) (.pointer (some ⟨p, 0, none⟩)) (by rfl) (.slice (some ad6) m c2) (fun ρ h1 kk w1 (hg : Grow _ w1) hb hf => by have c := hcp w1 hg; go_simp) ?_
            refine fl_op2 148 (by rfl) (by decide) (wanted_if hops 20 true (by rfl) 142 (by rfl) true (by rfl)) (by rw [hK.out]; rfl) (by rfl) (.tmp 147) (.const (.int .i64 0)) (.slice (some ad6) m c2) (.int .i64 0) (by rfl) (by rfl) (.pointer (some ad6)) (fun ρ h1 h2 kk w1 (hg : Grow _ w1) hb hf => by go_simp; try (intro hlt; omega)) ?_
            refine fl_op1 149 (by rfl) (by decide) (wanted_if hops 20 true (by rfl) 142 (by rfl) true (by rfl)) (by rw [hK.out]; rfl) (by rfl) (.tmp 148) (.pointer (some ad6)) (by rfl) (.agg #[.int .i64 a1, .int .i64 a2]) (fun ρ h1 kk w1 (hg : Grow _ w1) hb hf => by have c := he0 w1 hg; have c1 := he1 w1 hg; go_simp) ?_
            refine fl_op2 150 (by rfl) (by decide) (wanted_if hops 20 true (by rfl) 142 (by rfl) true (by rfl)) (by rw [hK.out]; rfl) (by rfl) (.tmp 143) (.tmp 149) (.agg #[.int .i64 a1, .int .i64 a2]) (.agg #[.int .i64 a1, .int .i64 a2]) (by rfl) (by rfl) (.bool false) (fun ρ h1 h2 kk w1 (hg : Grow _ w1) hb hf => by go_simp) ?_
            refine fl_pick 151 (by rfl) (by decide) (wanted_if hops 18 false (by rfl) 140 (by rfl) false (by rfl)) (by rw [hK.out]; rfl) (by rfl) _ _ _ (by rfl) true (by rfl) (.bool false) (by rfl) ?_
            refine fl_pick 152 (by rfl) (by decide) (wanted_none (by rfl)) (by rw [hK.out]; rfl) (by rfl) _ _ _ (by rfl) false (by rfl) (.bool false) (by rfl) ?_
            refine fl_mv 153 (by rfl) (by decide) (wanted_none (by rfl)) (by rw [hK.out]; rfl) (by rfl) _ (Or.inl (by rfl)) (.bool false) (by rfl) ?_
            refine fl_mv 154 (by rfl) (by decide) (wanted_if hops 31 false (by rfl) 153 (by rfl) false (by rfl)) (by rw [hK.out]; rfl) (by rfl) _ (Or.inl (by rfl)) (.bool true) (by rfl) ?_
            refine fl_op1 155 (by rfl) (by decide) (wanted_if hops 31 false (by rfl) 153 (by rfl) false (by rfl)) (by rw [hK.out]; rfl) (by rfl) (.tmp 154) (.bool true) (by rfl) (.bool false) (fun ρ h1 kk w1 (hg : Grow _ w1) hb hf => by go_simp) ?_
            refine fl_mv 156 (by rfl) (by decide) (wanted_if hops 31 false (by rfl) 153 (by rfl) false (by rfl)) (by rw [hK.out]; rfl) (by rfl) _ (Or.inl (by rfl)) (.bool false) (by rfl) ?_
            refine fl_skip 157 (by rfl) (by decide) (wanted_if hops 34 true (by rfl) 156 (by rfl) false (by rfl)) (by rfl) ?_
            refine fl_skip 158 (by rfl) (by decide) (wanted_if hops 34 true (by rfl) 156 (by rfl) false (by rfl)) (by rfl) ?_
            refine fl_skip 159 (by rfl) (by decide) (wanted_if hops 34 true (by rfl) 156 (by rfl) false (by rfl)) (by rfl) ?_
            refine fl_pick 160 (by rfl) (by decide) (wanted_if hops 31 false (by rfl) 153 (by rfl) false (by rfl)) (by rw [hK.out]; rfl) (by rfl) _ _ _ (by rfl) false (by rfl) (.bool false) (by rfl) ?_
            refine fl_pick 161 (by rfl) (by decide) (wanted_none (by rfl)) (by rw [hK.out]; rfl) (by rfl) _ _ _ (by rfl) false (by rfl) (.bool false) (by rfl) ?_
            refine fl_end (fun _ _ w1 (hg : Grow _ w1) _ hfacts => hT _ _ ?_)
            clear hops hA' hK hT
            simp only [putsL, Act.put, List.setIfInBounds_toArray, List.set_cons_zero, List.set_cons_succ, List.drop_succ_cons, List.drop_zero]
            clear hfacts
            have hd8 := hd7.grow (TimersAt.framed t _) (PlainAt.framed p _) hg
            have hb8 := below_trans hb7 hg hb7.size
            go_wp2_with fail
            go_roundw
            case rel => exact ⟨k + 1, _, by omega, by omega, by go_num, hlen2, hd8, hb8⟩
            case measure => simp [intOf]; omega
        · have h3' : (kd == 3) = false := beq_eq_false_iff_ne.2 h3
          by_cases h4 : kd = 4
          · subst h4
            have cp : wa.cell? ⟨p, 0, none⟩ = some (.slice A2 S.length c2) := hBp.cell 0
            have cx : wa.cell? ⟨x, 2, none⟩ = some (.int .i64 z) := hBx.cell 2
            go_wp2_with fail
            rw [← HA.out, ← HX.out]
            go_loopw [7] (fun i wr => ∃ kk : Nat, kk ≤ S.length ∧ i = .int .i64 (kk : Int) ∧ (∀ q, q < kk → (hat S q).1 ≤ z) ∧ Grow wa wr) (fun i _ => S.length - (intOf i).toNat)
            case atStart => exact ⟨0, by omega, rfl, fun q hq => by omega, Grow.refl _⟩
            case round =>
              obtain ⟨kk, hkn2, rfl, hpr, hgr⟩ := hrel
              have hdr := hda.grow (TimersAt.framed t _) (PlainAt.framed p _) hgr
              have hBxr := hBx.grow hgr
              have hI2r := hI2.grow hgr
              have hblr := below_trans hbla hgr hbla.size
              by_cases hkk : kk < S.length
              · have hkk' : decide ((kk : Int) < (S.length : Int)) = true := decide_eq_true (by omega)
                obtain ⟨ad2, hA2, _, hadB, e0, _⟩ := itc_rec hI2r hkk
                subst hA2
                have hcp : ∀ w2, Grow wr w2 → w2.cell? ⟨p, 0, none⟩ = some (.slice (some ad2) S.length c2) := fun w2 hg => (hBp.grow (hgr.trans hg)).cell 0
                have he0 : ∀ w2, Grow wr w2 → w2.cell? (ad2.add (kk * 2)) = some (.int .i64 (hat S kk).1) := fun w2 hg => (hg.cell (by rw [block_add]; exact hadB)).trans e0
                clear e0
                by_cases hle : (hat S kk).1 ≤ z
                · have HNE : Hid (∀ q, q < kk + 1 → (hat S q).1 ≤ z) := Lib.hid fun q hq => by
                    by_cases hqk : q = kk
                    · rw [hqk]; exact hle
                    · exact hpr q (by omega)
                  go_wp2_with fail
                  refine wp_region_flow 20 164 [] rfl rfl (by kernel_rfl) (by kernel_rfl) (by kernel_rfl) ?_ ?_
                  · intro x hx φ he
                    cases hx
                  intro ops' A' K' T hops hA' hK hT
                  refine fl_mv 58 (by rfl) (by decide) (wanted_none (by rfl)) (by rw [hK.out]; rfl) (by rfl) _ (Or.inl (by rfl)) (.int .i64 (kk : Int)) (by rfl) ?_
                  refine fl_mv 59 (by rfl) (by decide) (wanted_none (by rfl)) (by rw [hK.out]; rfl) (by rfl) _ (Or.inl (by rfl)) (.pointer (some ⟨p, 0, none⟩)) (by rfl) ?_
                  refine fl_op1 60 (by rfl) (by decide) (wanted_none (by rfl)) (by rw [hK.out]; rfl) (by rfl) (.tmp 59) (.pointer (some ⟨p, 0, none⟩)) (by rfl) (.pointer (some ⟨p, 0, none⟩)) (fun ρ h1 kk w1 (hg : Grow _ w1) hb hf => by go_simp) ?_
                  refine fl_op1 61 (by rfl) (by decide) (wanted_none (by rfl)) (by rw [hK.out]; rfl) (by rfl) (.tmp 60) (.pointer (some ⟨p, 0, none⟩)) (by rfl) (.pointer (some ⟨p, 0, none⟩)) (fun ρ h1 kk w1 (hg : Grow _ w1) hb hf => by go_simp) ?_
                  refine fl_op1 62 (by rfl) (by decide) (wanted_none (by rfl)) (by rw [hK.out]; rfl) (by rfl) (.tmp 61) (.pointer (some ⟨p, 0, none⟩)) (by rfl) (.slice (some ad2) S.length c2) (fun ρ h1 kk w1 (hg : Grow _ w1) hb hf => by have c := hcp w1 hg; go_simp) ?_
                  refine fl_op1 63 (by rfl) (by decide) (wanted_none (by rfl)) (by rw [hK.out]; rfl) (by rfl) (.tmp 62) (.slice (some ad2) S.length c2) (by rfl) (.int .i64 (S.length : Int)) (fun ρ h1 kk w1 (hg : Grow _ w1) hb hf => by go_simp) ?_
                  refine fl_op2 64 (by rfl) (by decide) (wanted_none (by rfl)) (by rw [hK.out]; rfl) (by rfl) (.tmp 58) (.tmp 63) (.int .i64 (kk : Int)) (.int .i64 (S.length : Int)) (by rfl) (by rfl) (.bool true) (fun ρ h1 h2 kk w1 (hg : Grow _ w1) hb hf => by go_simp; try omega) ?_
                  refine fl_mv 65 (by rfl) (by decide) (wanted_none (by rfl)) (by rw [hK.out]; rfl) (by rfl) _ (Or.inl (by rfl)) (.bool true) (by rfl) ?_
                  refine fl_mv 66 (by rfl) (by decide) (wanted_if hops 7 true (by rfl) 65 (by rfl) true (by rfl)) (by rw [hK.out]; rfl) (by rfl) _ (Or.inl (by rfl)) (.pointer (some ⟨p, 0, none⟩)) (by rfl) ?_
                  refine fl_op1 67 (by rfl) (by decide) (wanted_if hops 7 true (by rfl) 65 (by rfl) true (by rfl)) (by rw [hK.out]; rfl) (by rfl) (.tmp 66) (.pointer (some ⟨p, 0, none⟩)) (by rfl) (.pointer (some ⟨p, 0, none⟩)) (fun ρ h1 kk w1 (hg : Grow _ w1) hb hf => by go_simp) ?_
                  refine fl_op1 68 (by rfl) (by decide) (wanted_if hops 7 true (by rfl) 65 (by rfl) true (by rfl)) (by rw [hK.out]; rfl) (by rfl) (.tmp 67) (.pointer (some ⟨p, 0, none⟩)) (by rfl) (.pointer (some ⟨p, 0, none⟩)) (fun ρ h1 kk w1 (hg : Grow _ w1) hb hf => by go_simp) ?_
                  refine fl_op1 69 (by rfl) (by decide) (wanted_if hops 7 true (by rfl) 65 (by rfl) true (by rfl)) (by rw [hK.out]; rfl) (by rfl) (.tmp 68) (.pointer (some ⟨p, 0, none⟩)) (by rfl) (.slice (some ad2) S.length c2) (fun ρ h1 kk w1 (hg : Grow _ w1) hb hf => by have c := hcp w1 hg; go_simp) ?_
                  refine fl_mv 70 (by rfl) (by decide) (wanted_if hops 7 true (by rfl) 65 (by rfl) true (by rfl)) (by rw [hK.out]; rfl) (by rfl) _ (Or.inl (by rfl)) (.int .i64 (kk : Int)) (by rfl) ?_
                  refine fl_op2 71 (by rfl) (by decide) (wanted_if hops 7 true (by rfl) 65 (by rfl) true (by rfl)) (by rw [hK.out]; rfl) (by rfl) (.tmp 69) (.tmp 70) (.slice (some ad2) S.length c2) (.int .i64 (kk : Int)) (by rfl) (by rfl) (.pointer (some (ad2.add (kk * 2)))) (fun ρ h1 h2 kk w1 (hg : Grow _ w1) hb hf => by go_simp; try (intro hlt; omega)) ?_
                  refine fl_op1 72 (by rfl) (by decide) (wanted_if hops 7 true (by rfl) 65 (by rfl) true (by rfl)) (by rw [hK.out]; rfl) (by rfl) (.tmp 71) (.pointer (some (ad2.add (kk * 2)))) (by rfl) (.pointer (some (ad2.add (kk * 2)))) (fun ρ h1 kk w1 (hg : Grow _ w1) hb hf => by go_simp) ?_
                  refine fl_op1 73 (by rfl) (by decide) (wanted_if hops 7 true (by rfl) 65 (by rfl) true (by rfl)) (by rw [hK.out]; rfl) (by rfl) (.tmp 72) (.pointer (some (ad2.add (kk * 2)))) (by rfl) (.int .i64 (hat S kk).1) (fun ρ h1 kk w1 (hg : Grow _ w1) hb hf => by have c := he0 w1 hg; go_simp) ?_
                  refine fl_op1 74 (by rfl) (by decide) (wanted_if hops 7 true (by rfl) 65 (by rfl) true (by rfl)) (by rw [hK.out]; rfl) (by rfl) (.tmp 6) (.pointer (some ⟨x, 0, none⟩)) (by rfl) (.pointer (some ⟨x, 2, none⟩)) (fun ρ h1 kk w1 (hg : Grow _ w1) hb hf => by go_simp) ?_
                  refine fl_op1 75 (by rfl) (by decide) (wanted_if hops 7 true (by rfl) 65 (by rfl) true (by rfl)) (by rw [hK.out]; rfl) (by rfl) (.tmp 74) (.pointer (some ⟨x, 2, none⟩)) (by rfl) (.int .i64 z) (fun ρ h1 kk w1 (hg : Grow _ w1) hb hf => by have c := (hBxr.grow hg).cell 2; go_simp) ?_
                  refine fl_op2 76 (by rfl) (by decide) (wanted_if hops 7 true (by rfl) 65 (by rfl) true (by rfl)) (by rw [hK.out]; rfl) (by rfl) (.tmp 73) (.tmp 75) (.int .i64 (hat S kk).1) (.int .i64 z) (by rfl) (by rfl) (.bool true) (fun ρ h1 h2 kk w1 (hg : Grow _ w1) hb hf => by go_simp; try omega) ?_
                  refine fl_pick 77 (by rfl) (by decide) (wanted_none (by rfl)) (by rw [hK.out]; rfl) (by rfl) _ _ _ (by rfl) true (by rfl) (.bool true) (by rfl) ?_
                  refine fl_end (fun _ _ w1 (hg : Grow _ w1) _ hfacts => hT _ _ ?_)
                  clear hops hA' hK hT
                  simp only [putsL, Act.put, List.setIfInBounds_toArray, List.set_cons_zero, List.set_cons_succ, List.drop_succ_cons, List.drop_zero]
                  clear hfacts
                  go_wp2_with fail
                  go_roundw
                  case rel => exact ⟨kk + 1, by omega, by go_num, HNE.out, hgr.trans hg⟩
                  case measure => simp [intOf]; omega
                · have HNX : kk < S.length → z < (hat S kk).1 := fun _ => by omega
                  have hle : z < (hat S kk).1 := by omega
                  go_wp2_with fail
                  refine wp_region_flow 20 164 [] rfl rfl (by kernel_rfl) (by kernel_rfl) (by kernel_rfl) ?_ ?_
                  · intro x hx φ he
                    cases hx
                  intro ops' A' K' T hops hA' hK hT
                  refine fl_mv 58 (by rfl) (by decide) (wanted_none (by rfl)) (by rw [hK.out]; rfl) (by rfl) _ (Or.inl (by rfl)) (.int .i64 (kk : Int)) (by rfl) ?_
                  refine fl_mv 59 (by rfl) (by decide) (wanted_none (by rfl)) (by rw [hK.out]; rfl) (by rfl) _ (Or.inl (by rfl)) (.pointer (some ⟨p, 0, none⟩)) (by rfl) ?_
                  refine fl_op1 60 (by rfl) (by decide) (wanted_none (by rfl)) (by rw [hK.out]; rfl) (by rfl) (.tmp 59) (.pointer (some ⟨p, 0, none⟩)) (by rfl) (.pointer (some ⟨p, 0, none⟩)) (fun ρ h1 kk w1 (hg : Grow _ w1) hb hf => by go_simp) ?_
                  refine fl_op1 61 (by rfl) (by decide) (wanted_none (by rfl)) (by rw [hK.out]; rfl) (by rfl) (.tmp 60) (.pointer (some ⟨p, 0, none⟩)) (by rfl) (.pointer (some ⟨p, 0, none⟩)) (fun ρ h1 kk w1 (hg : Grow _ w1) hb hf => by go_simp) ?_
                  refine fl_op1 62 (by rfl) (by decide) (wanted_none (by rfl)) (by rw [hK.out]; rfl) (by rfl) (.tmp 61) (.pointer (some ⟨p, 0, none⟩)) (by rfl) (.slice (some ad2) S.length c2) (fun ρ h1 kk w1 (hg : Grow _ w1) hb hf => by have c := hcp w1 hg; go_simp) ?_
                  refine fl_op1 63 (by rfl) (by decide) (wanted_none (by rfl)) (by rw [hK.out]; rfl) (by rfl) (.tmp 62) (.slice (some ad2) S.length c2) (by rfl) (.int .i64 (S.length : Int)) (fun ρ h1 kk w1 (hg : Grow _ w1) hb hf => by go_simp) ?_
                  refine fl_op2 64 (by rfl) (by decide) (wanted_none (by rfl)) (by rw [hK.out]; rfl) (by rfl) (.tmp 58) (.tmp 63) (.int .i64 (kk : Int)) (.int .i64 (S.length : Int)) (by rfl) (by rfl) (.bool true) (fun ρ h1 h2 kk w1 (hg : Grow _ w1) hb hf => by go_simp; try omega) ?_
                  refine fl_mv 65 (by rfl) (by decide) (wanted_none (by rfl)) (by rw [hK.out]; rfl) (by rfl) _ (Or.inl (by rfl)) (.bool true) (by rfl) ?_
                  refine fl_mv 66 (by rfl) (by decide) (wanted_if hops 7 true (by rfl) 65 (by rfl) true (by rfl)) (by rw [hK.out]; rfl) (by rfl) _ (Or.inl (by rfl)) (.pointer (some ⟨p, 0, none⟩)) (by rfl) ?_
                  refine fl_op1 67 (by rfl) (by decide) (wanted_if hops 7 true (by rfl) 65 (by rfl) true (by rfl)) (by rw [hK.out]; rfl) (by rfl) (.tmp 66) (.pointer (some ⟨p, 0, none⟩)) (by rfl) (.pointer (some ⟨p, 0, none⟩)) (fun ρ h1 kk w1 (hg : Grow _ w1) hb hf => by go_simp) ?_
                  refine fl_op1 68 (by rfl) (by decide) (wanted_if hops 7 true (by rfl) 65 (by rfl) true (by rfl)) (by rw [hK.out]; rfl) (by rfl) (.tmp 67) (.pointer (some ⟨p, 0, none⟩)) (by rfl) (.pointer (some ⟨p, 0, none⟩)) (fun ρ h1 kk w1 (hg : Grow _ w1) hb hf => by go_simp) ?_
                  refine fl_op1 69 (by rfl) (by decide) (wanted_if hops 7 true (by rfl) 65 (by rfl) true (by rfl)) (by rw [hK.out]; rfl) (by rfl) (.tmp 68) (.pointer (some ⟨p, 0, none⟩)) (by rfl) (.slice (some ad2) S.length c2) (fun ρ h1 kk w1 (hg : Grow _ w1) hb hf => by have c := hcp w1 hg; go_simp) ?_
                  refine fl_mv 70 (by rfl) (by decide) (wanted_if hops 7 true (by rfl) 65 (by rfl) true (by rfl)) (by rw [hK.out]; rfl) (by rfl) _ (Or.inl (by rfl)) (.int .i64 (kk : Int)) (by rfl) ?_
                  refine fl_op2 71 (by rfl) (by decide) (wanted_if hops 7 true (by rfl) 65 (by rfl) true (by rfl)) (by rw [hK.out]; rfl) (by rfl) (.tmp 69) (.tmp 70) (.slice (some ad2) S.length c2) (.int .i64 (kk : Int)) (by rfl) (by rfl) (.pointer (some (ad2.add (kk * 2)))) (fun ρ h1 h2 kk w1 (hg : Grow _ w1) hb hf => by go_simp; try (intro hlt; omega)) ?_
                  refine fl_op1 72 (by rfl) (by decide) (wanted_if hops 7 true (by rfl) 65 (by rfl) true (by rfl)) (by rw [hK.out]; rfl) (by rfl) (.tmp 71) (.pointer (some (ad2.add (kk * 2)))) (by rfl) (.pointer (some (ad2.add (kk * 2)))) (fun ρ h1 kk w1 (hg : Grow _ w1) hb hf => by go_simp) ?_
                  refine fl_op1 73 (by rfl) (by decide) (wanted_if hops 7 true (by rfl) 65 (by rfl) true (by rfl)) (by rw [hK.out]; rfl) (by rfl) (.tmp 72) (.pointer (some (ad2.add (kk * 2)))) (by rfl) (.int .i64 (hat S kk).1) (fun ρ h1 kk w1 (hg : Grow _ w1) hb hf => by have c := he0 w1 hg; go_simp) ?_
                  refine fl_op1 74 (by rfl) (by decide) (wanted_if hops 7 true (by rfl) 65 (by rfl) true (by rfl)) (by rw [hK.out]; rfl) (by rfl) (.tmp 6) (.pointer (some ⟨x, 0, none⟩)) (by rfl) (.pointer (some ⟨x, 2, none⟩)) (fun ρ h1 kk w1 (hg : Grow _ w1) hb hf => by go_simp) ?_
                  refine fl_op1 75 (by rfl) (by decide) (wanted_if hops 7 true (by rfl) 65 (by rfl) true (by rfl)) (by rw [hK.out]; rfl) (by rfl) (.tmp 74) (.pointer (some ⟨x, 2, none⟩)) (by rfl) (.int .i64 z) (fun ρ h1 kk w1 (hg : Grow _ w1) hb hf => by have c := (hBxr.grow hg).cell 2; go_simp) ?_
                  refine fl_op2 76 (by rfl) (by decide) (wanted_if hops 7 true (by rfl) 65 (by rfl) true (by rfl)) (by rw [hK.out]; rfl) (by rfl) (.tmp 73) (.tmp 75) (.int .i64 (hat S kk).1) (.int .i64 z) (by rfl) (by rfl) (.bool false) (fun ρ h1 h2 kk w1 (hg : Grow _ w1) hb hf => by go_simp; try omega) ?_
                  refine fl_pick 77 (by rfl) (by decide) (wanted_none (by rfl)) (by rw [hK.out]; rfl) (by rfl) _ _ _ (by rfl) true (by rfl) (.bool false) (by rfl) ?_
                  refine fl_end (fun _ _ w1 (hg : Grow _ w1) _ hfacts => hT _ _ ?_)
                  clear hops hA' hK hT
                  simp only [putsL, Act.put, List.setIfInBounds_toArray, List.set_cons_zero, List.set_cons_succ, List.drop_succ_cons, List.drop_zero]
                  clear he0
                  clear hfacts
                  have cz : w1.cell? ⟨x, 2, none⟩ = some (.int .i64 z) := (hBxr.grow hg).cell 2
                  go_wp2_with fail
                  have hd9 := hdr.grow (TimersAt.framed t _) (PlainAt.framed p _) hg
                  have hb9 := below_trans hblr hg hblr.size
                  have HDL := Lib.hid (due_cut hkn2 hpr HNX)
                  have hkl : (S.take kk).length = kk := by rw [List.length_take]; omega
                  have hcall := due_duo z hd9 (PlainAt.framed p S)
                  rw [HDL.out.1, HDL.out.2, hkl] at hcall
                  clear hpr HNX hd9 hdr hBxr hcp hblr
                  refine hcall.mono ?_
                  rintro e w5 ⟨A5, c5, rfl, hO, hj5, hd5⟩
                  clear hcall
                  have hb5 := Below.trans hb9 (hj5.below (fun _ h => h.1) hb9.size)
                  clear hb9 hg hj5
                  obtain ⟨_, V5, U5, _, hP5, _, _, hU5⟩ := id hd5
                  obtain ⟨hUp, A5', c5', D5', hBp5, hI5, hnc5, hcm5, hD5⟩ := id hP5
                  go_wp2_with fail
                  go_loopw [90] (fun i wr => ∃ j : Nat, j ≤ kk ∧ i = .int .i64 (j : Int) ∧ Grow w5 wr) (fun i _ => kk - (intOf i).toNat)
                  case atStart => exact ⟨0, by omega, rfl, Grow.refl _⟩
                  case round =>
                    obtain ⟨j, hjn, rfl, hgr⟩ := hrel
                    by_cases hj : j < kk
                    · have hj' : decide ((j : Int) < (kk : Int)) = true := decide_eq_true (by omega)
                      obtain ⟨g, rfl, _, hgl, hc⟩ := own_item hO hj
                      obtain ⟨ad5, hA5, _, hadB, e0, e1⟩ := itc_rec hI5 (k := j) (by omega)
                      subst hA5
                      have hd0 : ∀ w2, Grow wr w2 → w2.cell? ⟨g, j * 2, none⟩ = some (.int .i64 (hat S j).1) := fun w2 hg => by rw [← hat_take9 hj hkn2]; exact (hc w2 ((hgr.trans hg).block g hgl)).1
                      have hd1 : ∀ w2, Grow wr w2 → w2.cell? ⟨g, j * 2 + 1, none⟩ = some (.int .i64 (hat S j).2) := fun w2 hg => by rw [← hat_take9 hj hkn2]; exact (hc w2 ((hgr.trans hg).block g hgl)).2
                      have he0 : ∀ w2, Grow wr w2 → w2.cell? (ad5.add (j * 2)) = some (.int .i64 (hat S j).1) := fun w2 hg => ((hgr.trans hg).cell (by rw [block_add]; exact hadB)).trans e0
                      have he1 : ∀ w2, Grow wr w2 → w2.cell? ⟨(ad5.add (j * 2)).block, (ad5.add (j * 2)).off + 1, none⟩ = some (.int .i64 (hat S j).2) := fun w2 hg => ((hgr.trans hg).cell (p := ⟨(ad5.add (j * 2)).block, (ad5.add (j * 2)).off + 1, none⟩) (show (ad5.add (j * 2)).block < _ by rw [block_add]; exact hadB)).trans e1
                      have hcp5 : ∀ w2, Grow wr w2 → w2.cell? ⟨p, 0, none⟩ = some (.slice (some ad5) S.length c5') := fun w2 hg => (hBp5.grow (hgr.trans hg)).cell 0
                      clear hc e0 e1
                      generalize hat S j = aj at hd0 hd1 he0 he1
                      obtain ⟨p1, p2⟩ := aj
                      dsimp only at hd0 hd1 he0 he1
                      have hjS : j < S.length := by omega
                      go_wp2_with fail
                      refine wp_region_flow 12 164 [] rfl rfl (by kernel_rfl) (by kernel_rfl) (by kernel_rfl) ?_ ?_
                      · intro x hx φ he
                        cases hx
                      intro ops' A' K' T hops hA' hK hT
                      refine fl_mv 93 (by rfl) (by decide) (wanted_none (by rfl)) (by rw [hK.out]; rfl) (by rfl) _ (Or.inl (by rfl)) (.slice (some ⟨g, 0, none⟩) kk c5) (by rfl) ?_
                      refine fl_mv 94 (by rfl) (by decide) (wanted_none (by rfl)) (by rw [hK.out]; rfl) (by rfl) _ (Or.inl (by rfl)) (.int .i64 (j : Int)) (by rfl) ?_
                      refine fl_op2 95 (by rfl) (by decide) (wanted_none (by rfl)) (by rw [hK.out]; rfl) (by rfl) (.tmp 93) (.tmp 94) (.slice (some ⟨g, 0, none⟩) kk c5) (.int .i64 (j : Int)) (by rfl) (by rfl) (.pointer (some ⟨g, j * 2, none⟩)) (fun ρ h1 h2 kk w1 (hg : Grow _ w1) hb hf => by go_simp; try (intro hlt; omega)) ?_
                      refine fl_op1 96 (by rfl) (by decide) (wanted_none (by rfl)) (by rw [hK.out]; rfl) (by rfl) (.tmp 95) (.pointer (some ⟨g, j * 2, none⟩)) (by rfl) (.agg #[.int .i64 p1, .int .i64 p2]) (fun ρ h1 kk w1 (hg : Grow _ w1) hb hf => by have c := hd0 w1 hg; have c1 := hd1 w1 hg; go_simp) ?_
                      refine fl_mv 97 (by rfl) (by decide) (wanted_none (by rfl)) (by rw [hK.out]; rfl) (by rfl) _ (Or.inl (by rfl)) (.pointer (some ⟨p, 0, none⟩)) (by rfl) ?_
                      refine fl_op1 98 (by rfl) (by decide) (wanted_none (by rfl)) (by rw [hK.out]; rfl) (by rfl) (.tmp 97) (.pointer (some ⟨p, 0, none⟩)) (by rfl) (.pointer (some ⟨p, 0, none⟩)) (fun ρ h1 kk w1 (hg : Grow _ w1) hb hf => by go_simp) ?_
                      refine fl_op1 99 (by rfl) (by decide) (wanted_none (by rfl)) (by rw [hK.out]; rfl) (by rfl) (.tmp 98) (.pointer (some ⟨p, 0, none⟩)) (by rfl) (.pointer (some ⟨p, 0, none⟩)) (fun ρ h1 kk w1 (hg : Grow _ w1) hb hf => by go_simp) ?_
                      refine fl_op1 100 (by rfl) (by decide) (wanted_none (by rfl)) (by rw [hK.out]; rfl) (by rfl) (.tmp 99) (.pointer (some ⟨p, 0, none⟩)) (by rfl) ((.slice (some ad5) S.length c5')) (fun ρ h1 kk w1 (hg : Grow _ w1) hb hf => by have c := hcp5 w1 hg; go_simp) ?_
                      refine fl_mv 101 (by rfl) (by decide) (wanted_none (by rfl)) (by rw [hK.out]; rfl) (by rfl) _ (Or.inl (by rfl)) (.int .i64 (j : Int)) (by rfl) ?_
                      refine fl_op2 102 (by rfl) (by decide) (wanted_none (by rfl)) (by rw [hK.out]; rfl) (by rfl) (.tmp 100) (.tmp 101) ((.slice (some ad5) S.length c5')) (.int .i64 (j : Int)) (by rfl) (by rfl) (.pointer (some (ad5.add (j * 2)))) (fun ρ h1 h2 kk w1 (hg : Grow _ w1) hb hf => by go_simp; try (intro hlt; omega)) ?_
                      refine fl_op1 103 (by rfl) (by decide) (wanted_none (by rfl)) (by rw [hK.out]; rfl) (by rfl) (.tmp 102) (.pointer (some (ad5.add (j * 2)))) (by rfl) (.agg #[.int .i64 p1, .int .i64 p2]) (fun ρ h1 kk w1 (hg : Grow _ w1) hb hf => by have c := he0 w1 hg; have c1 := he1 w1 hg; go_simp) ?_
                      refine fl_op2 104 (by rfl) (by decide) (wanted_none (by rfl)) (by rw [hK.out]; rfl) (by rfl) (.tmp 96) (.tmp 103) (.agg #[.int .i64 p1, .int .i64 p2]) (.agg #[.int .i64 p1, .int .i64 p2]) (by rfl) (by rfl) (.bool false) (fun ρ h1 h2 kk w1 (hg : Grow _ w1) hb hf => by go_simp) ?_
                      refine fl_end (fun _ _ w1 (hg : Grow _ w1) _ hfacts => hT _ _ ?_)
                      clear hops hA' hK hT
                      simp only [putsL, Act.put, List.setIfInBounds_toArray, List.set_cons_zero, List.set_cons_succ, List.drop_succ_cons, List.drop_zero]
                      clear hfacts
                      go_wp2_with fail
                      go_roundw
                      case rel => exact ⟨j + 1, by omega, by go_num, hgr.trans hg⟩
                      case measure => simp [intOf]; omega
                    · obtain rfl : kk = j := by omega
                      have hj' : decide ((kk : Int) < (kk : Int)) = false := decide_eq_false (by omega)
                      have hd6 := hd5.grow (TimersAt.framed t _) (PlainAt.framed p _) hgr
                      have hb6 := below_trans hb5 hgr hb5.size
                      clear hO hP5 hU5 hBp5 hI5 hnc5 hcm5 hD5 hUp hd5 hb5 hgr
                      obtain ⟨_, V5, U5, _, hP5, _, _, hU5⟩ := id hd6
                      obtain ⟨hUp, A5', c5', D5', hBp5, hI5, hnc5, hcm5, hD5⟩ := id hP5
                      have hgg : Grow wr (wr.alloc (.cells #[] 36)) := (Below.refl _ _).alloc (Nat.le_refl _) _
                      have hOg : Own (wr.alloc (.cells #[] 36)) (fun b => b = wr.heap.size) 36 2 (.slice (some ⟨wr.heap.size, 0, none⟩) 0 0) 0 [] := ⟨by simp, .inr ⟨wr.heap.size, 0, #[], rfl, rfl, heap_alloc_new wr _, Nat.le_refl _, Nat.zero_le _, .inl (by simp), by simp⟩⟩
                      have hsg : (wr.alloc (.cells #[] 36)).heap.size = wr.heap.size + 1 := by simp
                      have hIg := hI5.grow hgg
                      have cpg : (wr.alloc (.cells #[] 36)).cell? ⟨p, 0, none⟩ = some (.slice A5' S.length c5') := (hBp5.grow hgg).cell 0
                      have hBpg := hBp5.grow hgg
                      have hR3 := hIg.reads.cut (k := kk) hkn2 hnc5
                      have hone : ∀ u ∈ (S.flatMap itc).drop (kk * 2), u.oneCell' = true := fun u hu => itc_one S u (List.mem_of_mem_drop hu)
                      have hck : ¬ c5' < kk := by omega
                      have hnk : ¬ S.length < kk := by omega
                      unfold maxLen at hcm5
                      have hpl : p < wr.heap.size := (hU5 p hUp).2
                      go_wp2_with (at_builtin; refine stay ?_)
                      rw [if_neg (by omega)] at hR3
                      refine stay_out ?_
                      refine wpList_own (V := fun b => b = wr.heap.size) itemE _ rfl (.tmp 107) (.tmp 113) rfl (.slice (some ⟨wr.heap.size, 0, none⟩) 0 0) 0 [] rfl hOg _ _ (S.length - kk) (c5' - kk) ((S.flatMap itc).drop (kk * 2)) rfl hR3 hone (by omega) ?_
                      intro v3 w3 hO3 hj3
                      rw [Nat.zero_add, List.nil_append] at hO3
                      obtain ⟨A4, c4, rfl, hI4, hn4, hm4⟩ := hO3.in_
                      clear hO3 hOg hR3 hone
                      have hBp3 := hj3.blk hBpg (fun h => by have : p = wr.heap.size := h; omega)
                      have cp3 := hBp3.cell 0
                      have fp3 := hBp3.frozen 0
                      have hjp := just_at w3 p 0 (.slice A4 (S.length - kk) c4)
                      have hBz := hBp3.put 0 (.slice A4 (S.length - kk) c4)
                      have hs3 := hj3.size
                      obtain ⟨hjz, hd6z⟩ := Duo.rline (R' := PlainAt p (S.drop kk)) (w' := w3.setCell ⟨p, 0, none⟩ (.slice A4 (S.length - kk) c4)) hd6 (TimersAt.framed t _) (fun U hU hUl => by
                        have hUp2 := hU.1
                        refine ⟨⟨.inl hUp2, A4, c4, fun b => wr.heap.size ≤ b ∧ b < w3.heap.size, ?_, ?_, ?_, hm4, fun b hb => ⟨.inr ⟨hb.1, by rw [setCell_size]; exact hb.2⟩, fun e => by have := hb.1; omega⟩⟩, ?_⟩
                        · rw [List.length_drop]; exact hBz
                        · rw [List.length_drop, ← flat_drop itc 2 itc_len]
                          refine In.just (In.mono hI4 fun b hb => ?_) hjp (fun b hb h => by have := hb.1; rw [show b = p from h] at this; omega)
                          rcases hb with hb | hb
                          · have : b = wr.heap.size := hb
                            constructor <;> omega
                          · have := hb.1
                            exact ⟨by omega, hb.2⟩
                        · rw [List.length_drop]; exact hn4
                        · exact ⟨hjp.os.trans (hj3.os.trans hgg.os), hjp.tape.trans (hj3.tape.trans hgg.tape), hjp.output.trans (hj3.output.trans hgg.output), by rw [setCell_size]; omega, fun b hb hv => by
                            rw [hjp.block b (by omega) (fun h => hv (by rw [show b = p from h]; exact hUp2)), hj3.block b (by omega) (fun h => by have : b = wr.heap.size := h; omega), hgg.block b hb]⟩)
                      have hb6z := Below.trans hb6 (hjz.below (B := w.heap.size) (fun b hb => hb.1) hb6.size)
                      obtain ⟨wz, HZ⟩ : ∃ wz : World, Hid (wz = w3.setCell ⟨p, 0, none⟩ (.slice A4 (S.length - kk) c4)) := ⟨_, rfl⟩
                      rw [← HZ.out] at hd6z hb6z
                      clear hBz hjp hjz hI4 hj3 hd6 hb6 hP5 hU5 hBp5 hI5 hIg hBpg
                      have hd6 := hd6z
                      have hb6 := hb6z
                      have hlen2 : (S.drop kk).length ≤ k + 1 := by rw [List.length_drop]; omega
                      clear hd6z hb6z
                      generalize hl2 : S.drop kk = l2 at hd6 hlen2
                      clear hl2
                      obtain ⟨_, V6, U6, hT6, hP6, _, hV6, hU6⟩ := id hd6
                      obtain ⟨_, A2, c2, D2, hBp, hI2, _, _, _⟩ := id hP6
                      go_wp2_with fail
                      rw [← HZ.out]
                      refine (Next_any wz t l2 V6 hT6).mono ?_
                      rintro e w3 ⟨rfl, hg3⟩
                      cases l2 with
                      | nil =>
                        unfold firstV
                        skip
                        have hg4 : Grow w3 (w3.alloc (.cells #[.int .i64 0, .int .i64 0] 36)) := (Below.refl _ _).alloc (Nat.le_refl _) _
                        have hBn := Blk.made w3 36 #[.int .i64 0, .int .i64 0]
                        have hg5 := hg3.trans hg4
                        have hT4 := TimersAt.framed _ _ _ (w3.alloc (.cells #[.int .i64 0, .int .i64 0] 36)) _ hT6 fun b hb => hg5.block b (hV6 b hb).2
                        have hVn : ∀ b, V6 b → b < (w3.alloc (.cells #[.int .i64 0, .int .i64 0] 36)).heap.size := fun b hb => Nat.lt_of_lt_of_le (hV6 b hb).2 hg5.size
                        have hd7 := (hd6.grow (TimersAt.framed t _) (PlainAt.framed p _) hg5).wide (P' := fun b => w.heap.size ≤ b) (fun b hb => hb.1)
                        have hBp7 := hBp.grow hg5
                        have hI7 := hI2.grow hg5
                        obtain ⟨wn, HN⟩ : ∃ wn : World, Hid (wn = w3.alloc (.cells #[.int .i64 0, .int .i64 0] 36)) := ⟨_, rfl⟩
                        obtain ⟨y, HY⟩ : ∃ y : Nat, Hid (y = w3.heap.size) := ⟨_, rfl⟩
                        have hb7 : Below w.heap.size w wn := HN.out ▸ below_trans hb6 hg5 hb6.size
                        rw [← HN.out] at hT4 hd7 hBn hBp7 hI7 hVn
                        rw [← HY.out] at hBn
                        have hlm : (([] : List It).length : Int) = 0 := rfl
                        have hcp : ∀ w2, Grow wn w2 → w2.cell? ⟨p, 0, none⟩ = some (.slice A2 0 c2) := fun w2 hg => (hBp7.grow hg).cell 0
                        have hcn0 : ∀ w2, Grow wn w2 → w2.cell? ⟨y, 0, none⟩ = some (.int .i64 0) := fun w2 hg => (hBn.grow hg).cell 0
                        have hcn1 : ∀ w2, Grow wn w2 → w2.cell? ⟨y, 1, none⟩ = some (.int .i64 0) := fun w2 hg => (hBn.grow hg).cell 1
                        have hT5 : ∀ w2, Grow wn w2 → TimersAt t ([] : List It) w2 V6 := fun w2 hg => TimersAt.framed _ _ _ _ _ hT4 fun b hb => hg.block b (hVn b hb)
                        go_wp2_with fail
                        rw [← HN.out, ← HY.out]
                        clear hg4 hg5 hBn hT6 hP6 hV6 hU6 hT4 hBp7 hI7 hBp hI2
                        refine wp_region_flow 40 164 [(1, .inl (.int .i64 0))] rfl rfl (by kernel_rfl) (by kernel_rfl) (by kernel_rfl) ?_ ?_
                        · intro x hx φ he
                          simp only [List.mem_cons, List.not_mem_nil, or_false] at hx
                          rcases hx with rfl <;> cases he
                        intro ops' A' K' T hops hA' hK hT
                        refine fl_mv 122 (by rfl) (by decide) (wanted_none (by rfl)) (by rw [hK.out]; rfl) (by rfl) _ (Or.inl (by rfl)) (.pointer (some ⟨t, 0, none⟩)) (by rfl) ?_
                        refine fl_call 123 (by rfl) (by decide) (wanted_none (by rfl)) (.int .i64 0) (by rw [hK.out]; rfl) 13 _ _ (by rfl) [.pointer (some ⟨t, 0, none⟩)] (by rfl) k13 (fun kk w1 (hg : Grow _ w1) hb hf => calls_behind (by rfl) (by exact grew_same (tLen_n (hT5 w1 hg) hlm))) ?_
                        refine fl_mv 124 (by rfl) (by decide) (wanted_none (by rfl)) (by rw [hK.out]; rfl) (by rfl) _ (Or.inl (by rfl)) (.pointer (some ⟨p, 0, none⟩)) (by rfl) ?_
                        refine fl_op1 125 (by rfl) (by decide) (wanted_none (by rfl)) (by rw [hK.out]; rfl) (by rfl) (.tmp 124) (.pointer (some ⟨p, 0, none⟩)) (by rfl) (.pointer (some ⟨p, 0, none⟩)) (fun ρ h1 kk w1 (hg : Grow _ w1) hb hf => by go_simp) ?_
                        refine fl_op1 126 (by rfl) (by decide) (wanted_none (by rfl)) (by rw [hK.out]; rfl) (by rfl) (.tmp 125) (.pointer (some ⟨p, 0, none⟩)) (by rfl) (.pointer (some ⟨p, 0, none⟩)) (fun ρ h1 kk w1 (hg : Grow _ w1) hb hf => by go_simp) ?_
                        refine fl_op1 127 (by rfl) (by decide) (wanted_none (by rfl)) (by rw [hK.out]; rfl) (by rfl) (.tmp 126) (.pointer (some ⟨p, 0, none⟩)) (by rfl) (.slice A2 0 c2) (fun ρ h1 kk w1 (hg : Grow _ w1) hb hf => by have c := hcp w1 hg; go_simp) ?_
                        refine fl_op1 128 (by rfl) (by decide) (wanted_none (by rfl)) (by rw [hK.out]; rfl) (by rfl) (.tmp 127) (.slice A2 0 c2) (by rfl) (.int .i64 0) (fun ρ h1 kk w1 (hg : Grow _ w1) hb hf => by go_simp) ?_
                        refine fl_op2 129 (by rfl) (by decide) (wanted_none (by rfl)) (by rw [hK.out]; rfl) (by rfl) (.tmp 123) (.tmp 128) (.int .i64 0) (.int .i64 0) (by rfl) (by rfl) (.bool false) (fun ρ h1 h2 kk w1 (hg : Grow _ w1) hb hf => by go_simp) ?_
                        refine fl_mv 130 (by rfl) (by decide) (wanted_none (by rfl)) (by rw [hK.out]; rfl) (by rfl) _ (Or.inl (by rfl)) (.bool false) (by rfl) ?_
                        refine fl_mv 131 (by rfl) (by decide) (wanted_if hops 8 false (by rfl) 130 (by rfl) false (by rfl)) (by rw [hK.out]; rfl) (by rfl) _ (Or.inl (by rfl)) (.bool false) (by rfl) ?_
                        refine fl_mv 132 (by rfl) (by decide) (wanted_if hops 8 false (by rfl) 130 (by rfl) false (by rfl)) (by rw [hK.out]; rfl) (by rfl) _ (Or.inl (by rfl)) (.pointer (some ⟨p, 0, none⟩)) (by rfl) ?_
                        refine fl_op1 133 (by rfl) (by decide) (wanted_if hops 8 false (by rfl) 130 (by rfl) false (by rfl)) (by rw [hK.out]; rfl) (by rfl) (.tmp 132) (.pointer (some ⟨p, 0, none⟩)) (by rfl) (.pointer (some ⟨p, 0, none⟩)) (fun ρ h1 kk w1 (hg : Grow _ w1) hb hf => by go_simp) ?_
                        refine fl_op1 134 (by rfl) (by decide) (wanted_if hops 8 false (by rfl) 130 (by rfl) false (by rfl)) (by rw [hK.out]; rfl) (by rfl) (.tmp 133) (.pointer (some ⟨p, 0, none⟩)) (by rfl) (.pointer (some ⟨p, 0, none⟩)) (fun ρ h1 kk w1 (hg : Grow _ w1) hb hf => by go_simp) ?_
                        refine fl_op1 135 (by rfl) (by decide) (wanted_if hops 8 false (by rfl) 130 (by rfl) false (by rfl)) (by rw [hK.out]; rfl) (by rfl) (.tmp 134) (.pointer (some ⟨p, 0, none⟩)) (by rfl) (.slice A2 0 c2) (fun ρ h1 kk w1 (hg : Grow _ w1) hb hf => by have c := hcp w1 hg; go_simp) ?_
                        refine fl_op1 136 (by rfl) (by decide) (wanted_if hops 8 false (by rfl) 130 (by rfl) false (by rfl)) (by rw [hK.out]; rfl) (by rfl) (.tmp 135) (.slice A2 0 c2) (by rfl) (.int .i64 0) (fun ρ h1 kk w1 (hg : Grow _ w1) hb hf => by go_simp) ?_
                        refine fl_op2 137 (by rfl) (by decide) (wanted_if hops 8 false (by rfl) 130 (by rfl) false (by rfl)) (by rw [hK.out]; rfl) (by rfl) (.tmp 136) (.const (.int .i64 0)) (.int .i64 0) (.int .i64 0) (by rfl) (by rfl) (.bool false) (fun ρ h1 h2 kk w1 (hg : Grow _ w1) hb hf => by go_simp) ?_
                        refine fl_op2 138 (by rfl) (by decide) (wanted_if hops 8 false (by rfl) 130 (by rfl) false (by rfl)) (by rw [hK.out]; rfl) (by rfl) (.tmp 131) (.tmp 137) (.bool false) (.bool false) (by rfl) (by rfl) (.bool false) (fun ρ h1 h2 kk w1 (hg : Grow _ w1) hb hf => by go_simp) ?_
                        refine fl_pick 139 (by rfl) (by decide) (wanted_none (by rfl)) (by rw [hK.out]; rfl) (by rfl) _ _ _ (by rfl) false (by rfl) (.bool false) (by rfl) ?_
                        refine fl_mv 140 (by rfl) (by decide) (wanted_none (by rfl)) (by rw [hK.out]; rfl) (by rfl) _ (Or.inl (by rfl)) (.bool false) (by rfl) ?_
                        refine fl_mv 141 (by rfl) (by decide) (wanted_if hops 18 false (by rfl) 140 (by rfl) false (by rfl)) (by rw [hK.out]; rfl) (by rfl) _ (Or.inl (by rfl)) (.bool false) (by rfl) ?_
                        refine fl_mv 142 (by rfl) (by decide) (wanted_if hops 18 false (by rfl) 140 (by rfl) false (by rfl)) (by rw [hK.out]; rfl) (by rfl) _ (Or.inl (by rfl)) (.bool false) (by rfl) ?_
                        refine fl_skip 143 (by rfl) (by decide) (wanted_if hops 20 true (by rfl) 142 (by rfl) false (by rfl)) (by rfl) ?_
                        refine fl_skip 144 (by rfl) (by decide) (wanted_if hops 20 true (by rfl) 142 (by rfl) false (by rfl)) (by rfl) ?_
                        refine fl_skip 145 (by rfl) (by decide) (wanted_if hops 20 true (by rfl) 142 (by rfl) false (by rfl)) (by rfl) ?_
                        refine fl_skip 146 (by rfl) (by decide) (wanted_if hops 20 true (by rfl) 142 (by rfl) false (by rfl)) (by rfl) ?_
                        refine fl_skip 147 (by rfl) (by decide) (wanted_if hops 20 true (by rfl) 142 (by rfl) false (by rfl)) (by rfl) ?_
                        refine fl_skip 148 (by rfl) (by decide) (wanted_if hops 20 true (by rfl) 142 (by rfl) false (by rfl)) (by rfl) ?_
                        refine fl_skip 149 (by rfl) (by decide) (wanted_if hops 20 true (by rfl) 142 (by rfl) false (by rfl)) (by rfl) ?_
                        refine fl_skip 150 (by rfl) (by decide) (wanted_if hops 20 true (by rfl) 142 (by rfl) false (by rfl)) (by rfl) ?_
                        refine fl_pick 151 (by rfl) (by decide) (wanted_if hops 18 false (by rfl) 140 (by rfl) false (by rfl)) (by rw [hK.out]; rfl) (by rfl) _ _ _ (by rfl) false (by rfl) (.bool false) (by rfl) ?_
                        refine fl_pick 152 (by rfl) (by decide) (wanted_none (by rfl)) (by rw [hK.out]; rfl) (by rfl) _ _ _ (by rfl) false (by rfl) (.bool false) (by rfl) ?_
                        refine fl_mv 153 (by rfl) (by decide) (wanted_none (by rfl)) (by rw [hK.out]; rfl) (by rfl) _ (Or.inl (by rfl)) (.bool false) (by rfl) ?_
                        refine fl_mv 154 (by rfl) (by decide) (wanted_if hops 31 false (by rfl) 153 (by rfl) false (by rfl)) (by rw [hK.out]; rfl) (by rfl) _ (Or.inl (by rfl)) (.bool false) (by rfl) ?_
                        refine fl_op1 155 (by rfl) (by decide) (wanted_if hops 31 false (by rfl) 153 (by rfl) false (by rfl)) (by rw [hK.out]; rfl) (by rfl) (.tmp 154) (.bool false) (by rfl) (.bool true) (fun ρ h1 kk w1 (hg : Grow _ w1) hb hf => by go_simp) ?_
                        refine fl_mv 156 (by rfl) (by decide) (wanted_if hops 31 false (by rfl) 153 (by rfl) false (by rfl)) (by rw [hK.out]; rfl) (by rfl) _ (Or.inl (by rfl)) (.bool true) (by rfl) ?_
                        refine fl_op1 157 (by rfl) (by decide) (wanted_if hops 34 true (by rfl) 156 (by rfl) true (by rfl)) (by rw [hK.out]; rfl) (by rfl) (.tmp 10) (.pointer (some ⟨y, 0, none⟩)) (by rfl) (.agg #[.int .i64 0, .int .i64 0]) (fun ρ h1 kk w1 (hg : Grow _ w1) hb hf => by have c := hcn0 w1 hg; have c1 := hcn1 w1 hg; go_simp) ?_
                        refine fl_det 158 (by rfl) (by decide) (wanted_if hops 34 true (by rfl) 156 (by rfl) true (by rfl)) (by rw [hK.out]; rfl) (by rfl) (.agg #[.int .i64 0, .int .i64 0]) (fun kk w1 (hg : Grow _ w1) hb hf => by go_simp) ?_
                        refine fl_op2 159 (by rfl) (by decide) (wanted_if hops 34 true (by rfl) 156 (by rfl) true (by rfl)) (by rw [hK.out]; rfl) (by rfl) (.tmp 157) (.tmp 158) (.agg #[.int .i64 0, .int .i64 0]) (.agg #[.int .i64 0, .int .i64 0]) (by rfl) (by rfl) (.bool false) (fun ρ h1 h2 kk w1 (hg : Grow _ w1) hb hf => by go_simp) ?_
                        refine fl_pick 160 (by rfl) (by decide) (wanted_if hops 31 false (by rfl) 153 (by rfl) false (by rfl)) (by rw [hK.out]; rfl) (by rfl) _ _ _ (by rfl) true (by rfl) (.bool false) (by rfl) ?_
                        refine fl_pick 161 (by rfl) (by decide) (wanted_none (by rfl)) (by rw [hK.out]; rfl) (by rfl) _ _ _ (by rfl) false (by rfl) (.bool false) (by rfl) ?_
                        refine fl_end (fun _ _ w1 (hg : Grow _ w1) _ hfacts => hT _ _ ?_)
                        clear hops hA' hK hT
                        simp only [putsL, Act.put, List.setIfInBounds_toArray, List.set_cons_zero, List.set_cons_succ, List.drop_succ_cons, List.drop_zero]
                        clear hfacts
                        have hd8 := hd7.grow (TimersAt.framed t _) (PlainAt.framed p _) hg
                        have hb8 := below_trans hb7 hg hb7.size
                        go_wp2_with fail
                        go_roundw
                        case rel => exact ⟨k + 1, _, by omega, by omega, by go_num, hlen2, hd8, hb8⟩
                        case measure => simp [intOf]; omega
                      | cons a l =>
                        unfold firstV
                        obtain ⟨a1, a2⟩ := a
                        have hg4 : Grow w3 (w3.alloc (.cells #[.int .i64 a1, .int .i64 a2] 36)) := (Below.refl _ _).alloc (Nat.le_refl _) _
                        have hBn := Blk.made w3 36 #[.int .i64 a1, .int .i64 a2]
                        have hg5 := hg3.trans hg4
                        have hT4 := TimersAt.framed _ _ _ (w3.alloc (.cells #[.int .i64 a1, .int .i64 a2] 36)) _ hT6 fun b hb => hg5.block b (hV6 b hb).2
                        have hVn : ∀ b, V6 b → b < (w3.alloc (.cells #[.int .i64 a1, .int .i64 a2] 36)).heap.size := fun b hb => Nat.lt_of_lt_of_le (hV6 b hb).2 hg5.size
                        have hd7 := (hd6.grow (TimersAt.framed t _) (PlainAt.framed p _) hg5).wide (P' := fun b => w.heap.size ≤ b) (fun b hb => hb.1)
                        have hBp7 := hBp.grow hg5
                        have hI7 := hI2.grow hg5
                        obtain ⟨wn, HN⟩ : ∃ wn : World, Hid (wn = w3.alloc (.cells #[.int .i64 a1, .int .i64 a2] 36)) := ⟨_, rfl⟩
                        obtain ⟨y, HY⟩ : ∃ y : Nat, Hid (y = w3.heap.size) := ⟨_, rfl⟩
                        have hb7 : Below w.heap.size w wn := HN.out ▸ below_trans hb6 hg5 hb6.size
                        rw [← HN.out] at hT4 hd7 hBn hBp7 hI7 hVn
                        rw [← HY.out] at hBn
                        obtain ⟨m, HM⟩ : ∃ m : Nat, Hid (m = ((a1, a2) :: l).length) := ⟨_, rfl⟩
                        have hlm : (((a1, a2) :: l).length : Int) = (m : Int) := by rw [HM.out]
                        have hm0 : 0 < m := by rw [HM.out]; simp
                        obtain ⟨ad6, rfl, _, hadB, e0, e1⟩ := itc_rec hI7 (k := 0) (by simp)
                        have hh0 : hat ((a1, a2) :: l) 0 = (a1, a2) := rfl
                        rw [hh0] at e0 e1
                        simp only [Nat.zero_mul, Addr.add_zero'] at e0 e1
                        rw [← HM.out] at hBp7
                        have he0 : ∀ w2, Grow wn w2 → w2.cell? ad6 = some (.int .i64 a1) := fun w2 hg => (hg.cell hadB).trans e0
                        have he1 : ∀ w2, Grow wn w2 → w2.cell? ⟨ad6.block, ad6.off + 1, none⟩ = some (.int .i64 a2) := fun w2 hg => (hg.cell (p := ⟨ad6.block, ad6.off + 1, none⟩) hadB).trans e1
                        have hcp : ∀ w2, Grow wn w2 → w2.cell? ⟨p, 0, none⟩ = some (.slice (some ad6) m c2) := fun w2 hg => (hBp7.grow hg).cell 0
                        have hcn0 : ∀ w2, Grow wn w2 → w2.cell? ⟨y, 0, none⟩ = some (.int .i64 a1) := fun w2 hg => (hBn.grow hg).cell 0
                        have hcn1 : ∀ w2, Grow wn w2 → w2.cell? ⟨y, 1, none⟩ = some (.int .i64 a2) := fun w2 hg => (hBn.grow hg).cell 1
                        have hT5 : ∀ w2, Grow wn w2 → TimersAt t ((a1, a2) :: l) w2 V6 := fun w2 hg => TimersAt.framed _ _ _ _ _ hT4 fun b hb => hg.block b (hVn b hb)
                        go_wp2_with fail
                        rw [← HN.out, ← HY.out]
                        clear hg4 hg5 hBn hT6 hP6 hV6 hU6 hT4 hBp7 hI7 hBp hI2
                        refine wp_region_flow 40 164 [(1, .inl (.int .i64 (m : Int)))] rfl rfl (by kernel_rfl) (by kernel_rfl) (by kernel_rfl) ?_ ?_
                        · intro x hx φ he
                          simp only [List.mem_cons, List.not_mem_nil, or_false] at hx
                          rcases hx with rfl <;> cases he
                        intro ops' A' K' T hops hA' hK hT
                        refine fl_mv 122 (by rfl) (by decide) (wanted_none (by rfl)) (by rw [hK.out]; rfl) (by rfl) _ (Or.inl (by rfl)) (.pointer (some ⟨t, 0, none⟩)) (by rfl) ?_
                        refine fl_call 123 (by rfl) (by decide) (wanted_none (by rfl)) (.int .i64 (m : Int)) (by rw [hK.out]; rfl) 13 _ _ (by rfl) [.pointer (some ⟨t, 0, none⟩)] (by rfl) k13 (fun kk w1 (hg : Grow _ w1) hb hf => calls_behind (by rfl) (by exact grew_same (tLen_n (hT5 w1 hg) hlm))) ?_
                        refine fl_mv 124 (by rfl) (by decide) (wanted_none (by rfl)) (by rw [hK.out]; rfl) (by rfl) _ (Or.inl (by rfl)) (.pointer (some ⟨p, 0, none⟩)) (by rfl) ?_
                        refine fl_op1 125 (by rfl) (by decide) (wanted_none (by rfl)) (by rw [hK.out]; rfl) (by rfl) (.tmp 124) (.pointer (some ⟨p, 0, none⟩)) (by rfl) (.pointer (some ⟨p, 0, none⟩)) (fun ρ h1 kk w1 (hg : Grow _ w1) hb hf => by go_simp) ?_
                        refine fl_op1 126 (by rfl) (by decide) (wanted_none (by rfl)) (by rw [hK.out]; rfl) (by rfl) (.tmp 125) (.pointer (some ⟨p, 0, none⟩)) (by rfl) (.pointer (some ⟨p, 0, none⟩)) (fun ρ h1 kk w1 (hg : Grow _ w1) hb hf => by go_simp) ?_
                        refine fl_op1 127 (by rfl) (by decide) (wanted_none (by rfl)) (by rw [hK.out]; rfl) (by rfl) (.tmp 126) (.pointer (some ⟨p, 0, none⟩)) (by rfl) (.slice (some ad6) m c2) (fun ρ h1 kk w1 (hg : Grow _ w1) hb hf => by have c := hcp w1 hg; go_simp) ?_
                        refine fl_op1 128 (by rfl) (by decide) (wanted_none (by rfl)) (by rw [hK.out]; rfl) (by rfl) (.tmp 127) (.slice (some ad6) m c2) (by rfl) (.int .i64 (m : Int)) (fun ρ h1 kk w1 (hg : Grow _ w1) hb hf => by go_simp) ?_
                        refine fl_op2 129 (by rfl) (by decide) (wanted_none (by rfl)) (by rw [hK.out]; rfl) (by rfl) (.tmp 123) (.tmp 128) (.int .i64 (m : Int)) (.int .i64 (m : Int)) (by rfl) (by rfl) (.bool false) (fun ρ h1 h2 kk w1 (hg : Grow _ w1) hb hf => by go_simp) ?_
                        refine fl_mv 130 (by rfl) (by decide) (wanted_none (by rfl)) (by rw [hK.out]; rfl) (by rfl) _ (Or.inl (by rfl)) (.bool false) (by rfl) ?_
                        refine fl_mv 131 (by rfl) (by decide) (wanted_if hops 8 false (by rfl) 130 (by rfl) false (by rfl)) (by rw [hK.out]; rfl) (by rfl) _ (Or.inl (by rfl)) (.bool true) (by rfl) ?_
                        refine fl_mv 132 (by rfl) (by decide) (wanted_if hops 8 false (by rfl) 130 (by rfl) false (by rfl)) (by rw [hK.out]; rfl) (by rfl) _ (Or.inl (by rfl)) (.pointer (some ⟨p, 0, none⟩)) (by rfl) ?_
                        refine fl_op1 133 (by rfl) (by decide) (wanted_if hops 8 false (by rfl) 130 (by rfl) false (by rfl)) (by rw [hK.out]; rfl) (by rfl) (.tmp 132) (.pointer (some ⟨p, 0, none⟩)) (by rfl) (.pointer (some ⟨p, 0, none⟩)) (fun ρ h1 kk w1 (hg : Grow _ w1) hb hf => by go_simp) ?_
                        refine fl_op1 134 (by rfl) (by decide) (wanted_if hops 8 false (by rfl) 130 (by rfl) false (by rfl)) (by rw [hK.out]; rfl) (by rfl) (.tmp 133) (.pointer (some ⟨p, 0, none⟩)) (by rfl) (.pointer (some ⟨p, 0, none⟩)) (fun ρ h1 kk w1 (hg : Grow _ w1) hb hf => by go_simp) ?_
                        refine fl_op1 135 (by rfl) (by decide) (wanted_if hops 8 false (by rfl) 130 (by rfl) false (by rfl)) (by rw [hK.out]; rfl) (by rfl) (.tmp 134) (.pointer (some ⟨p, 0, none⟩)) (by rfl) (.slice (some ad6) m c2) (fun ρ h1 kk w1 (hg : Grow _ w1) hb hf => by have c := hcp w1 hg; go_simp) ?_
                        refine fl_op1 136 (by rfl) (by decide) (wanted_if hops 8 false (by rfl) 130 (by rfl) false (by rfl)) (by rw [hK.out]; rfl) (by rfl) (.tmp 135) (.slice (some ad6) m c2) (by rfl) (.int .i64 (m : Int)) (fun ρ h1 kk w1 (hg : Grow _ w1) hb hf => by go_simp) ?_
                        refine fl_op2 137 (by rfl) (by decide) (wanted_if hops 8 false (by rfl) 130 (by rfl) false (by rfl)) (by rw [hK.out]; rfl) (by rfl) (.tmp 136) (.const (.int .i64 0)) (.int .i64 (m : Int)) (.int .i64 0) (by rfl) (by rfl) (.bool true) (fun ρ h1 h2 kk w1 (hg : Grow _ w1) hb hf => by go_simp) ?_
                        refine fl_op2 138 (by rfl) (by decide) (wanted_if hops 8 false (by rfl) 130 (by rfl) false (by rfl)) (by rw [hK.out]; rfl) (by rfl) (.tmp 131) (.tmp 137) (.bool true) (.bool true) (by rfl) (by rfl) (.bool false) (fun ρ h1 h2 kk w1 (hg : Grow _ w1) hb hf => by go_simp) ?_
                        refine fl_pick 139 (by rfl) (by decide) (wanted_none (by rfl)) (by rw [hK.out]; rfl) (by rfl) _ _ _ (by rfl) false (by rfl) (.bool false) (by rfl) ?_
                        refine fl_mv 140 (by rfl) (by decide) (wanted_none (by rfl)) (by rw [hK.out]; rfl) (by rfl) _ (Or.inl (by rfl)) (.bool false) (by rfl) ?_
                        refine fl_mv 141 (by rfl) (by decide) (wanted_if hops 18 false (by rfl) 140 (by rfl) false (by rfl)) (by rw [hK.out]; rfl) (by rfl) _ (Or.inl (by rfl)) (.bool true) (by rfl) ?_
                        refine fl_mv 142 (by rfl) (by decide) (wanted_if hops 18 false (by rfl) 140 (by rfl) false (by rfl)) (by rw [hK.out]; rfl) (by rfl) _ (Or.inl (by rfl)) (.bool true) (by rfl) ?_
                        refine fl_op1 143 (by rfl) (by decide) (wanted_if hops 20 true (by rfl) 142 (by rfl) true (by rfl)) (by rw [hK.out]; rfl) (by rfl) (.tmp 10) (.pointer (some ⟨y, 0, none⟩)) (by rfl) (.agg #[.int .i64 a1, .int .i64 a2]) (fun ρ h1 kk w1 (hg : Grow _ w1) hb hf => by have c := hcn0 w1 hg; have c1 := hcn1 w1 hg; go_simp) ?_
                        refine fl_mv 144 (by rfl) (by decide) (wanted_if hops 20 true (by rfl) 142 (by rfl) true (by rfl)) (by rw [hK.out]; rfl) (by rfl) _ (Or.inl (by rfl)) (.pointer (some ⟨p, 0, none⟩)) (by rfl) ?_
                        refine fl_op1 145 (by rfl) (by decide) (wanted_if hops 20 true (by rfl) 142 (by rfl) true (by rfl)) (by rw [hK.out]; rfl) (by rfl) (.tmp 144) (.pointer (some ⟨p, 0, none⟩)) (by rfl) (.pointer (some ⟨p, 0, none⟩)) (fun ρ h1 kk w1 (hg : Grow _ w1) hb hf => by go_simp) ?_
                        refine fl_op1 146 (by rfl) (by decide) (wanted_if hops 20 true (by rfl) 142 (by rfl) true (by rfl)) (by rw [hK.out]; rfl) (by rfl) (.tmp 145) (.pointer (some ⟨p, 0, none⟩)) (by rfl) (.pointer (some ⟨p, 0, none⟩)) (fun ρ h1 kk w1 (hg : Grow _ w1) hb hf => by go_simp) ?_
                        refine fl_op1 147 (by rfl) (by decide) (wanted_if hops 20 true (by rfl) 142 (by rfl) true (by rfl)) (by rw [hK.out]; rfl) (by rfl) (.tmp 146) (.pointer (some ⟨p, 0, none⟩)) (by rfl) (.slice (some ad6) m c2) (fun ρ h1 kk w1 (hg : Grow _ w1) hb hf => by have c := hcp w1 hg; go_simp) ?_
                        refine fl_op2 148 (by rfl) (by decide) (wanted_if hops 20 true (by rfl) 142 (by rfl) true (by rfl)) (by rw [hK.out]; rfl) (by rfl) (.tmp 147) (.const (.int .i64 0)) (.slice (some ad6) m c2) (.int .i64 0) (by rfl) (by rfl) (.pointer (some ad6)) (fun ρ h1 h2 kk w1 (hg : Grow _ w1) hb hf => by go_simp; try (intro hlt; omega)) ?_
                        refine fl_op1 149 (by rfl) (by decide) (wanted_if hops 20 true (by rfl) 142 (by rfl) true (by rfl)) (by rw [hK.out]; rfl) (by rfl) (.tmp 148) (.pointer (some ad6)) (by rfl) (.agg #[.int .i64 a1, .int .i64 a2]) (fun ρ h1 kk w1 (hg : Grow _ w1) hb hf => by have c := he0 w1 hg; have c1 := he1 w1 hg; go_simp) ?_
                        refine fl_op2 150 (by rfl) (by decide) (wanted_if hops 20 true (by rfl) 142 (by rfl) true (by rfl)) (by rw [hK.out]; rfl) (by rfl) (.tmp 143) (.tmp 149) (.agg #[.int .i64 a1, .int .i64 a2]) (.agg #[.int .i64 a1, .int .i64 a2]) (by rfl) (by rfl) (.bool false) (fun ρ h1 h2 kk w1 (hg : Grow _ w1) hb hf => by go_simp) ?_
                        refine fl_pick 151 (by rfl) (by decide) (wanted_if hops 18 false (by rfl) 140 (by rfl) false (by rfl)) (by rw [hK.out]; rfl) (by rfl) _ _ _ (by rfl) true (by rfl) (.bool false) (by rfl) ?_
                        refine fl_pick 152 (by rfl) (by decide) (wanted_none (by rfl)) (by rw [hK.out]; rfl) (by rfl) _ _ _ (by rfl) false (by rfl) (.bool false) (by rfl) ?_
                        refine fl_mv 153 (by rfl) (by decide) (wanted_none (by rfl)) (by rw [hK.out]; rfl) (by rfl) _ (Or.inl (by rfl)) (.bool false) (by rfl) ?_
                        refine fl_mv 154 (by rfl) (by decide) (wanted_if hops 31 false (by rfl) 153 (by rfl) false (by rfl)) (by rw [hK.out]; rfl) (by rfl) _ (Or.inl (by rfl)) (.bool true) (by rfl) ?_
                        refine fl_op1 155 (by rfl) (by decide) (wanted_if hops 31 false (by rfl) 153 (by rfl) false (by rfl)) (by rw [hK.out]; rfl) (by rfl) (.tmp 154) (.bool true) (by rfl) (.bool false) (fun ρ h1 kk w1 (hg : Grow _ w1) hb hf => by go_simp) ?_
                        refine fl_mv 156 (by rfl) (by decide) (wanted_if hops 31 false (by rfl) 153 (by rfl) false (by rfl)) (by rw [hK.out]; rfl) (by rfl) _ (Or.inl (by rfl)) (.bool false) (by rfl) ?_
                        refine fl_skip 157 (by rfl) (by decide) (wanted_if hops 34 true (by rfl) 156 (by rfl) false (by rfl)) (by rfl) ?_
                        refine fl_skip 158 (by rfl) (by decide) (wanted_if hops 34 true (by rfl) 156 (by rfl) false (by rfl)) (by rfl) ?_
                        refine fl_skip 159 (by rfl) (by decide) (wanted_if hops 34 true (by rfl) 156 (by rfl) false (by rfl)) (by rfl) ?_
                        refine fl_pick 160 (by rfl) (by decide) (wanted_if hops 31 false (by rfl) 153 (by rfl) false (by rfl)) (by rw [hK.out]; rfl) (by rfl) _ _ _ (by rfl) false (by rfl) (.bool false) (by rfl) ?_
                        refine fl_pick 161 (by rfl) (by decide) (wanted_none (by rfl)) (by rw [hK.out]; rfl) (by rfl) _ _ _ (by rfl) false (by rfl) (.bool false) (by rfl) ?_
                        refine fl_end (fun _ _ w1 (hg : Grow _ w1) _ hfacts => hT _ _ ?_)
                        clear hops hA' hK hT
                        simp only [putsL, Act.put, List.setIfInBounds_toArray, List.set_cons_zero, List.set_cons_succ, List.drop_succ_cons, List.drop_zero]
                        clear hfacts
                        have hd8 := hd7.grow (TimersAt.framed t _) (PlainAt.framed p _) hg
                        have hb8 := below_trans hb7 hg hb7.size
                        go_wp2_with fail
                        go_roundw
                        case rel => exact ⟨k + 1, _, by omega, by omega, by go_num, hlen2, hd8, hb8⟩
                        case measure => simp [intOf]; omega
              · have hkk' : decide ((kk : Int) < (S.length : Int)) = false := decide_eq_false (by omega)
                have HNX : kk < S.length → z < (hat S kk).1 := fun h => absurd h hkk
                have hcp : ∀ w2, Grow wr w2 → w2.cell? ⟨p, 0, none⟩ = some (.slice A2 S.length c2) := fun w2 hg => (hBp.grow (hgr.trans hg)).cell 0
                go_wp2_with fail
                refine wp_region_flow 20 164 [] rfl rfl (by kernel_rfl) (by kernel_rfl) (by kernel_rfl) ?_ ?_
                · intro x hx φ he
                  cases hx
                intro ops' A' K' T hops hA' hK hT
                refine fl_mv 58 (by rfl) (by decide) (wanted_none (by rfl)) (by rw [hK.out]; rfl) (by rfl) _ (Or.inl (by rfl)) (.int .i64 (kk : Int)) (by rfl) ?_
                refine fl_mv 59 (by rfl) (by decide) (wanted_none (by rfl)) (by rw [hK.out]; rfl) (by rfl) _ (Or.inl (by rfl)) (.pointer (some ⟨p, 0, none⟩)) (by rfl) ?_
                refine fl_op1 60 (by rfl) (by decide) (wanted_none (by rfl)) (by rw [hK.out]; rfl) (by rfl) (.tmp 59) (.pointer (some ⟨p, 0, none⟩)) (by rfl) (.pointer (some ⟨p, 0, none⟩)) (fun ρ h1 kk w1 (hg : Grow _ w1) hb hf => by go_simp) ?_
                refine fl_op1 61 (by rfl) (by decide) (wanted_none (by rfl)) (by rw [hK.out]; rfl) (by rfl) (.tmp 60) (.pointer (some ⟨p, 0, none⟩)) (by rfl) (.pointer (some ⟨p, 0, none⟩)) (fun ρ h1 kk w1 (hg : Grow _ w1) hb hf => by go_simp) ?_
                refine fl_op1 62 (by rfl) (by decide) (wanted_none (by rfl)) (by rw [hK.out]; rfl) (by rfl) (.tmp 61) (.pointer (some ⟨p, 0, none⟩)) (by rfl) (.slice A2 S.length c2) (fun ρ h1 kk w1 (hg : Grow _ w1) hb hf => by have c := hcp w1 hg; go_simp) ?_
                refine fl_op1 63 (by rfl) (by decide) (wanted_none (by rfl)) (by rw [hK.out]; rfl) (by rfl) (.tmp 62) (.slice A2 S.length c2) (by rfl) (.int .i64 (S.length : Int)) (fun ρ h1 kk w1 (hg : Grow _ w1) hb hf => by go_simp) ?_
                refine fl_op2 64 (by rfl) (by decide) (wanted_none (by rfl)) (by rw [hK.out]; rfl) (by rfl) (.tmp 58) (.tmp 63) (.int .i64 (kk : Int)) (.int .i64 (S.length : Int)) (by rfl) (by rfl) (.bool false) (fun ρ h1 h2 kk w1 (hg : Grow _ w1) hb hf => by go_simp; try omega) ?_
                refine fl_mv 65 (by rfl) (by decide) (wanted_none (by rfl)) (by rw [hK.out]; rfl) (by rfl) _ (Or.inl (by rfl)) (.bool false) (by rfl) ?_
                refine fl_skip 66 (by rfl) (by decide) (wanted_if hops 7 true (by rfl) 65 (by rfl) false (by rfl)) (by rfl) ?_
                refine fl_skip 67 (by rfl) (by decide) (wanted_if hops 7 true (by rfl) 65 (by rfl) false (by rfl)) (by rfl) ?_
                refine fl_skip 68 (by rfl) (by decide) (wanted_if hops 7 true (by rfl) 65 (by rfl) false (by rfl)) (by rfl) ?_
                refine fl_skip 69 (by rfl) (by decide) (wanted_if hops 7 true (by rfl) 65 (by rfl) false (by rfl)) (by rfl) ?_
                refine fl_skip 70 (by rfl) (by decide) (wanted_if hops 7 true (by rfl) 65 (by rfl) false (by rfl)) (by rfl) ?_
                refine fl_skip 71 (by rfl) (by decide) (wanted_if hops 7 true (by rfl) 65 (by rfl) false (by rfl)) (by rfl) ?_
                refine fl_skip 72 (by rfl) (by decide) (wanted_if hops 7 true (by rfl) 65 (by rfl) false (by rfl)) (by rfl) ?_
                refine fl_skip 73 (by rfl) (by decide) (wanted_if hops 7 true (by rfl) 65 (by rfl) false (by rfl)) (by rfl) ?_
                refine fl_skip 74 (by rfl) (by decide) (wanted_if hops 7 true (by rfl) 65 (by rfl) false (by rfl)) (by rfl) ?_
                refine fl_skip 75 (by rfl) (by decide) (wanted_if hops 7 true (by rfl) 65 (by rfl) false (by rfl)) (by rfl) ?_
                refine fl_skip 76 (by rfl) (by decide) (wanted_if hops 7 true (by rfl) 65 (by rfl) false (by rfl)) (by rfl) ?_
                refine fl_pick 77 (by rfl) (by decide) (wanted_none (by rfl)) (by rw [hK.out]; rfl) (by rfl) _ _ _ (by rfl) false (by rfl) (.bool false) (by rfl) ?_
                refine fl_end (fun _ _ w1 (hg : Grow _ w1) _ hfacts => hT _ _ ?_)
                clear hops hA' hK hT
                simp only [putsL, Act.put, List.setIfInBounds_toArray, List.set_cons_zero, List.set_cons_succ, List.drop_succ_cons, List.drop_zero]
                clear hfacts
                have cz : w1.cell? ⟨x, 2, none⟩ = some (.int .i64 z) := (hBxr.grow hg).cell 2
                go_wp2_with fail
                have hd9 := hdr.grow (TimersAt.framed t _) (PlainAt.framed p _) hg
                have hb9 := below_trans hblr hg hblr.size
                have HDL := Lib.hid (due_cut hkn2 hpr HNX)
                have hkl : (S.take kk).length = kk := by rw [List.length_take]; omega
                have hcall := due_duo z hd9 (PlainAt.framed p S)
                rw [HDL.out.1, HDL.out.2, hkl] at hcall
                clear hpr HNX hd9 hdr hBxr hcp hblr
                refine hcall.mono ?_
                rintro e w5 ⟨A5, c5, rfl, hO, hj5, hd5⟩
                clear hcall
                have hb5 := Below.trans hb9 (hj5.below (fun _ h => h.1) hb9.size)
                clear hb9 hg hj5
                obtain ⟨_, V5, U5, _, hP5, _, _, hU5⟩ := id hd5
                obtain ⟨hUp, A5', c5', D5', hBp5, hI5, hnc5, hcm5, hD5⟩ := id hP5
                go_wp2_with fail
                go_loopw [90] (fun i wr => ∃ j : Nat, j ≤ kk ∧ i = .int .i64 (j : Int) ∧ Grow w5 wr) (fun i _ => kk - (intOf i).toNat)
                case atStart => exact ⟨0, by omega, rfl, Grow.refl _⟩
                case round =>
                  obtain ⟨j, hjn, rfl, hgr⟩ := hrel
                  by_cases hj : j < kk
                  · have hj' : decide ((j : Int) < (kk : Int)) = true := decide_eq_true (by omega)
                    obtain ⟨g, rfl, _, hgl, hc⟩ := own_item hO hj
                    obtain ⟨ad5, hA5, _, hadB, e0, e1⟩ := itc_rec hI5 (k := j) (by omega)
                    subst hA5
                    have hd0 : ∀ w2, Grow wr w2 → w2.cell? ⟨g, j * 2, none⟩ = some (.int .i64 (hat S j).1) := fun w2 hg => by rw [← hat_take9 hj hkn2]; exact (hc w2 ((hgr.trans hg).block g hgl)).1
                    have hd1 : ∀ w2, Grow wr w2 → w2.cell? ⟨g, j * 2 + 1, none⟩ = some (.int .i64 (hat S j).2) := fun w2 hg => by rw [← hat_take9 hj hkn2]; exact (hc w2 ((hgr.trans hg).block g hgl)).2
                    have he0 : ∀ w2, Grow wr w2 → w2.cell? (ad5.add (j * 2)) = some (.int .i64 (hat S j).1) := fun w2 hg => ((hgr.trans hg).cell (by rw [block_add]; exact hadB)).trans e0
                    have he1 : ∀ w2, Grow wr w2 → w2.cell? ⟨(ad5.add (j * 2)).block, (ad5.add (j * 2)).off + 1, none⟩ = some (.int .i64 (hat S j).2) := fun w2 hg => ((hgr.trans hg).cell (p := ⟨(ad5.add (j * 2)).block, (ad5.add (j * 2)).off + 1, none⟩) (show (ad5.add (j * 2)).block < _ by rw [block_add]; exact hadB)).trans e1
                    have hcp5 : ∀ w2, Grow wr w2 → w2.cell? ⟨p, 0, none⟩ = some (.slice (some ad5) S.length c5') := fun w2 hg => (hBp5.grow (hgr.trans hg)).cell 0
                    clear hc e0 e1
                    generalize hat S j = aj at hd0 hd1 he0 he1
                    obtain ⟨p1, p2⟩ := aj
                    dsimp only at hd0 hd1 he0 he1
                    have hjS : j < S.length := by omega
                    go_wp2_with fail
                    refine wp_region_flow 12 164 [] rfl rfl (by kernel_rfl) (by kernel_rfl) (by kernel_rfl) ?_ ?_
                    · intro x hx φ he
                      cases hx
                    intro ops' A' K' T hops hA' hK hT
                    refine fl_mv 93 (by rfl) (by decide) (wanted_none (by rfl)) (by rw [hK.out]; rfl) (by rfl) _ (Or.inl (by rfl)) (.slice (some ⟨g, 0, none⟩) kk c5) (by rfl) ?_
                    refine fl_mv 94 (by rfl) (by decide) (wanted_none (by rfl)) (by rw [hK.out]; rfl) (by rfl) _ (Or.inl (by rfl)) (.int .i64 (j : Int)) (by rfl) ?_
                    refine fl_op2 95 (by rfl) (by decide) (wanted_none (by rfl)) (by rw [hK.out]; rfl) (by rfl) (.tmp 93) (.tmp 94) (.slice (some ⟨g, 0, none⟩) kk c5) (.int .i64 (j : Int)) (by rfl) (by rfl) (.pointer (some ⟨g, j * 2, none⟩)) (fun ρ h1 h2 kk w1 (hg : Grow _ w1) hb hf => by go_simp; try (intro hlt; omega)) ?_
                    refine fl_op1 96 (by rfl) (by decide) (wanted_none (by rfl)) (by rw [hK.out]; rfl) (by rfl) (.tmp 95) (.pointer (some ⟨g, j * 2, none⟩)) (by rfl) (.agg #[.int .i64 p1, .int .i64 p2]) (fun ρ h1 kk w1 (hg : Grow _ w1) hb hf => by have c := hd0 w1 hg; have c1 := hd1 w1 hg; go_simp) ?_
                    refine fl_mv 97 (by rfl) (by decide) (wanted_none (by rfl)) (by rw [hK.out]; rfl) (by rfl) _ (Or.inl (by rfl)) (.pointer (some ⟨p, 0, none⟩)) (by rfl) ?_
                    refine fl_op1 98 (by rfl) (by decide) (wanted_none (by rfl)) (by rw [hK.out]; rfl) (by rfl) (.tmp 97) (.pointer (some ⟨p, 0, none⟩)) (by rfl) (.pointer (some ⟨p, 0, none⟩)) (fun ρ h1 kk w1 (hg : Grow _ w1) hb hf => by go_simp) ?_
                    refine fl_op1 99 (by rfl) (by decide) (wanted_none (by rfl)) (by rw [hK.out]; rfl) (by rfl) (.tmp 98) (.pointer (some ⟨p, 0, none⟩)) (by rfl) (.pointer (some ⟨p, 0, none⟩)) (fun ρ h1 kk w1 (hg : Grow _ w1) hb hf => by go_simp) ?_
                    refine fl_op1 100 (by rfl) (by decide) (wanted_none (by rfl)) (by rw [hK.out]; rfl) (by rfl) (.tmp 99) (.pointer (some ⟨p, 0, none⟩)) (by rfl) ((.slice (some ad5) S.length c5')) (fun ρ h1 kk w1 (hg : Grow _ w1) hb hf => by have c := hcp5 w1 hg; go_simp) ?_
                    refine fl_mv 101 (by rfl) (by decide) (wanted_none (by rfl)) (by rw [hK.out]; rfl) (by rfl) _ (Or.inl (by rfl)) (.int .i64 (j : Int)) (by rfl) ?_
                    refine fl_op2 102 (by rfl) (by decide) (wanted_none (by rfl)) (by rw [hK.out]; rfl) (by rfl) (.tmp 100) (.tmp 101) ((.slice (some ad5) S.length c5')) (.int .i64 (j : Int)) (by rfl) (by rfl) (.pointer (some (ad5.add (j * 2)))) (fun ρ h1 h2 kk w1 (hg : Grow _ w1) hb hf => by go_simp; try (intro hlt; omega)) ?_
                    refine fl_op1 103 (by rfl) (by decide) (wanted_none (by rfl)) (by rw [hK.out]; rfl) (by rfl) (.tmp 102) (.pointer (some (ad5.add (j * 2)))) (by rfl) (.agg #[.int .i64 p1, .int .i64 p2]) (fun ρ h1 kk w1 (hg : Grow _ w1) hb hf => by have c := he0 w1 hg; have c1 := he1 w1 hg; go_simp) ?_
                    refine fl_op2 104 (by rfl) (by decide) (wanted_none (by rfl)) (by rw [hK.out]; rfl) (by rfl) (.tmp 96) (.tmp 103) (.agg #[.int .i64 p1, .int .i64 p2]) (.agg #[.int .i64 p1, .int .i64 p2]) (by rfl) (by rfl) (.bool false) (fun ρ h1 h2 kk w1 (hg : Grow _ w1) hb hf => by go_simp) ?_
                    refine fl_end (fun _ _ w1 (hg : Grow _ w1) _ hfacts => hT _ _ ?_)
                    clear hops hA' hK hT
                    simp only [putsL, Act.put, List.setIfInBounds_toArray, List.set_cons_zero, List.set_cons_succ, List.drop_succ_cons, List.drop_zero]
                    clear hfacts
                    go_wp2_with fail
                    go_roundw
                    case rel => exact ⟨j + 1, by omega, by go_num, hgr.trans hg⟩
                    case measure => simp [intOf]; omega
                  · obtain rfl : kk = j := by omega
                    have hj' : decide ((kk : Int) < (kk : Int)) = false := decide_eq_false (by omega)
                    have hd6 := hd5.grow (TimersAt.framed t _) (PlainAt.framed p _) hgr
                    have hb6 := below_trans hb5 hgr hb5.size
                    clear hO hP5 hU5 hBp5 hI5 hnc5 hcm5 hD5 hUp hd5 hb5 hgr
                    obtain ⟨_, V5, U5, _, hP5, _, _, hU5⟩ := id hd6
                    obtain ⟨hUp, A5', c5', D5', hBp5, hI5, hnc5, hcm5, hD5⟩ := id hP5
                    have hgg : Grow wr (wr.alloc (.cells #[] 36)) := (Below.refl _ _).alloc (Nat.le_refl _) _
                    have hOg : Own (wr.alloc (.cells #[] 36)) (fun b => b = wr.heap.size) 36 2 (.slice (some ⟨wr.heap.size, 0, none⟩) 0 0) 0 [] := ⟨by simp, .inr ⟨wr.heap.size, 0, #[], rfl, rfl, heap_alloc_new wr _, Nat.le_refl _, Nat.zero_le _, .inl (by simp), by simp⟩⟩
                    have hsg : (wr.alloc (.cells #[] 36)).heap.size = wr.heap.size + 1 := by simp
                    have hIg := hI5.grow hgg
                    have cpg : (wr.alloc (.cells #[] 36)).cell? ⟨p, 0, none⟩ = some (.slice A5' S.length c5') := (hBp5.grow hgg).cell 0
                    have hBpg := hBp5.grow hgg
                    have hR3 := hIg.reads.cut (k := kk) hkn2 hnc5
                    have hone : ∀ u ∈ (S.flatMap itc).drop (kk * 2), u.oneCell' = true := fun u hu => itc_one S u (List.mem_of_mem_drop hu)
                    have hck : ¬ c5' < kk := by omega
                    have hnk : ¬ S.length < kk := by omega
                    unfold maxLen at hcm5
                    have hpl : p < wr.heap.size := (hU5 p hUp).2
                    go_wp2_with (at_builtin; refine stay ?_)
                    · rw [if_pos (by assumption)] at hR3
                      refine stay_out ?_
                      refine wpList_own (V := fun b => b = wr.heap.size) itemE _ rfl (.tmp 107) (.tmp 113) rfl (.slice (some ⟨wr.heap.size, 0, none⟩) 0 0) 0 [] rfl hOg _ _ (S.length - kk) 0 ((S.flatMap itc).drop (kk * 2)) rfl hR3 hone (by omega) ?_
                      intro v3 w3 hO3 hj3
                      rw [Nat.zero_add, List.nil_append] at hO3
                      obtain ⟨A4, c4, rfl, hI4, hn4, hm4⟩ := hO3.in_
                      clear hO3 hOg hR3 hone
                      have hBp3 := hj3.blk hBpg (fun h => by have : p = wr.heap.size := h; omega)
                      have cp3 := hBp3.cell 0
                      have fp3 := hBp3.frozen 0
                      have hjp := just_at w3 p 0 (.slice A4 (S.length - kk) c4)
                      have hBz := hBp3.put 0 (.slice A4 (S.length - kk) c4)
                      have hs3 := hj3.size
                      obtain ⟨hjz, hd6z⟩ := Duo.rline (R' := PlainAt p (S.drop kk)) (w' := w3.setCell ⟨p, 0, none⟩ (.slice A4 (S.length - kk) c4)) hd6 (TimersAt.framed t _) (fun U hU hUl => by
                        have hUp2 := hU.1
                        refine ⟨⟨.inl hUp2, A4, c4, fun b => wr.heap.size ≤ b ∧ b < w3.heap.size, ?_, ?_, ?_, hm4, fun b hb => ⟨.inr ⟨hb.1, by rw [setCell_size]; exact hb.2⟩, fun e => by have := hb.1; omega⟩⟩, ?_⟩
                        · rw [List.length_drop]; exact hBz
                        · rw [List.length_drop, ← flat_drop itc 2 itc_len]
                          refine In.just (In.mono hI4 fun b hb => ?_) hjp (fun b hb h => by have := hb.1; rw [show b = p from h] at this; omega)
                          rcases hb with hb | hb
                          · have : b = wr.heap.size := hb
                            constructor <;> omega
                          · have := hb.1
                            exact ⟨by omega, hb.2⟩
                        · rw [List.length_drop]; exact hn4
                        · exact ⟨hjp.os.trans (hj3.os.trans hgg.os), hjp.tape.trans (hj3.tape.trans hgg.tape), hjp.output.trans (hj3.output.trans hgg.output), by rw [setCell_size]; omega, fun b hb hv => by
                            rw [hjp.block b (by omega) (fun h => hv (by rw [show b = p from h]; exact hUp2)), hj3.block b (by omega) (fun h => by have : b = wr.heap.size := h; omega), hgg.block b hb]⟩)
                      have hb6z := Below.trans hb6 (hjz.below (B := w.heap.size) (fun b hb => hb.1) hb6.size)
                      obtain ⟨wz, HZ⟩ : ∃ wz : World, Hid (wz = w3.setCell ⟨p, 0, none⟩ (.slice A4 (S.length - kk) c4)) := ⟨_, rfl⟩
                      rw [← HZ.out] at hd6z hb6z
                      clear hBz hjp hjz hI4 hj3 hd6 hb6 hP5 hU5 hBp5 hI5 hIg hBpg
                      have hd6 := hd6z
                      have hb6 := hb6z
                      have hlen2 : (S.drop kk).length ≤ k + 1 := by rw [List.length_drop]; omega
                      clear hd6z hb6z
                      generalize hl2 : S.drop kk = l2 at hd6 hlen2
                      clear hl2
                      obtain ⟨_, V6, U6, hT6, hP6, _, hV6, hU6⟩ := id hd6
                      obtain ⟨_, A2, c2, D2, hBp, hI2, _, _, _⟩ := id hP6
                      go_wp2_with fail
                      rw [← HZ.out]
                      refine (Next_any wz t l2 V6 hT6).mono ?_
                      rintro e w3 ⟨rfl, hg3⟩
                      cases l2 with
                      | nil =>
                        unfold firstV
                        skip
                        have hg4 : Grow w3 (w3.alloc (.cells #[.int .i64 0, .int .i64 0] 36)) := (Below.refl _ _).alloc (Nat.le_refl _) _
                        have hBn := Blk.made w3 36 #[.int .i64 0, .int .i64 0]
                        have hg5 := hg3.trans hg4
                        have hT4 := TimersAt.framed _ _ _ (w3.alloc (.cells #[.int .i64 0, .int .i64 0] 36)) _ hT6 fun b hb => hg5.block b (hV6 b hb).2
                        have hVn : ∀ b, V6 b → b < (w3.alloc (.cells #[.int .i64 0, .int .i64 0] 36)).heap.size := fun b hb => Nat.lt_of_lt_of_le (hV6 b hb).2 hg5.size
                        have hd7 := (hd6.grow (TimersAt.framed t _) (PlainAt.framed p _) hg5).wide (P' := fun b => w.heap.size ≤ b) (fun b hb => hb.1)
                        have hBp7 := hBp.grow hg5
                        have hI7 := hI2.grow hg5
                        obtain ⟨wn, HN⟩ : ∃ wn : World, Hid (wn = w3.alloc (.cells #[.int .i64 0, .int .i64 0] 36)) := ⟨_, rfl⟩
                        obtain ⟨y, HY⟩ : ∃ y : Nat, Hid (y = w3.heap.size) := ⟨_, rfl⟩
                        have hb7 : Below w.heap.size w wn := HN.out ▸ below_trans hb6 hg5 hb6.size
                        rw [← HN.out] at hT4 hd7 hBn hBp7 hI7 hVn
                        rw [← HY.out] at hBn
                        have hlm : (([] : List It).length : Int) = 0 := rfl
                        have hcp : ∀ w2, Grow wn w2 → w2.cell? ⟨p, 0, none⟩ = some (.slice A2 0 c2) := fun w2 hg => (hBp7.grow hg).cell 0
                        have hcn0 : ∀ w2, Grow wn w2 → w2.cell? ⟨y, 0, none⟩ = some (.int .i64 0) := fun w2 hg => (hBn.grow hg).cell 0
                        have hcn1 : ∀ w2, Grow wn w2 → w2.cell? ⟨y, 1, none⟩ = some (.int .i64 0) := fun w2 hg => (hBn.grow hg).cell 1
                        have hT5 : ∀ w2, Grow wn w2 → TimersAt t ([] : List It) w2 V6 := fun w2 hg => TimersAt.framed _ _ _ _ _ hT4 fun b hb => hg.block b (hVn b hb)
                        go_wp2_with fail
                        rw [← HN.out, ← HY.out]
                        clear hg4 hg5 hBn hT6 hP6 hV6 hU6 hT4 hBp7 hI7 hBp hI2
                        refine wp_region_flow 40 164 [(1, .inl (.int .i64 0))] rfl rfl (by kernel_rfl) (by kernel_rfl) (by kernel_rfl) ?_ ?_
                        · intro x hx φ he
                          simp only [List.mem_cons, List.not_mem_nil, or_false] at hx
                          rcases hx with rfl <;> cases he
                        intro ops' A' K' T hops hA' hK hT
                        refine fl_mv 122 (by rfl) (by decide) (wanted_none (by rfl)) (by rw [hK.out]; rfl) (by rfl) _ (Or.inl (by rfl)) (.pointer (some ⟨t, 0, none⟩)) (by rfl) ?_
                        refine fl_call 123 (by rfl) (by decide) (wanted_none (by rfl)) (.int .i64 0) (by rw [hK.out]; rfl) 13 _ _ (by rfl) [.pointer (some ⟨t, 0, none⟩)] (by rfl) k13 (fun kk w1 (hg : Grow _ w1) hb hf => calls_behind (by rfl) (by exact grew_same (tLen_n (hT5 w1 hg) hlm))) ?_
                        refine fl_mv 124 (by rfl) (by decide) (wanted_none (by rfl)) (by rw [hK.out]; rfl) (by rfl) _ (Or.inl (by rfl)) (.pointer (some ⟨p, 0, none⟩)) (by rfl) ?_
                        refine fl_op1 125 (by rfl) (by decide) (wanted_none (by rfl)) (by rw [hK.out]; rfl) (by rfl) (.tmp 124) (.pointer (some ⟨p, 0, none⟩)) (by rfl) (.pointer (some ⟨p, 0, none⟩)) (fun ρ h1 kk w1 (hg : Grow _ w1) hb hf => by go_simp) ?_
                        refine fl_op1 126 (by rfl) (by decide) (wanted_none (by rfl)) (by rw [hK.out]; rfl) (by rfl) (.tmp 125) (.pointer (some ⟨p, 0, none⟩)) (by rfl) (.pointer (some ⟨p, 0, none⟩)) (fun ρ h1 kk w1 (hg : Grow _ w1) hb hf => by go_simp) ?_
                        refine fl_op1 127 (by rfl) (by decide) (wanted_none (by rfl)) (by rw [hK.out]; rfl) (by rfl) (.tmp 126) (.pointer (some ⟨p, 0, none⟩)) (by rfl) (.slice A2 0 c2) (fun ρ h1 kk w1 (hg : Grow _ w1) hb hf => by have c := hcp w1 hg; go_simp) ?_
                        refine fl_op1 128 (by rfl) (by decide) (wanted_none (by rfl)) (by rw [hK.out]; rfl) (by rfl) (.tmp 127) (.slice A2 0 c2) (by rfl) (.int .i64 0) (fun ρ h1 kk w1 (hg : Grow _ w1) hb hf => by go_simp) ?_
                        refine fl_op2 129 (by rfl) (by decide) (wanted_none (by rfl)) (by rw [hK.out]; rfl) (by rfl) (.tmp 123) (.tmp 128) (.int .i64 0) (.int .i64 0) (by rfl) (by rfl) (.bool false) (fun ρ h1 h2 kk w1 (hg : Grow _ w1) hb hf => by go_simp) ?_
                        refine fl_mv 130 (by rfl) (by decide) (wanted_none (by rfl)) (by rw [hK.out]; rfl) (by rfl) _ (Or.inl (by rfl)) (.bool false) (by rfl) ?_
                        refine fl_mv 131 (by rfl) (by decide) (wanted_if hops 8 false (by rfl) 130 (by rfl) false (by rfl)) (by rw [hK.out]; rfl) (by rfl) _ (Or.inl (by rfl)) (.bool false) (by rfl) ?_
                        refine fl_mv 132 (by rfl) (by decide) (wanted_if hops 8 false (by rfl) 130 (by rfl) false (by rfl)) (by rw [hK.out]; rfl) (by rfl) _ (Or.inl (by rfl)) (.pointer (some ⟨p, 0, none⟩)) (by rfl) ?_
                        refine fl_op1 133 (by rfl) (by decide) (wanted_if hops 8 false (by rfl) 130 (by rfl) false (by rfl)) (by rw [hK.out]; rfl) (by rfl) (.tmp 132) (.pointer (some ⟨p, 0, none⟩)) (by rfl) (.pointer (some ⟨p, 0, none⟩)) (fun ρ h1 kk w1 (hg : Grow _ w1) hb hf => by go_simp) ?_
                        refine fl_op1 134 (by rfl) (by decide) (wanted_if hops 8 false (by rfl) 130 (by rfl) false (by rfl)) (by rw [hK.out]; rfl) (by rfl) (.tmp 133) (.pointer (some ⟨p, 0, none⟩)) (by rfl) (.pointer (some ⟨p, 0, none⟩)) (fun ρ h1 kk w1 (hg : Grow _ w1) hb hf => by go_simp) ?_
                        refine fl_op1 135 (by rfl) (by decide) (wanted_if hops 8 false (by rfl) 130 (by rfl) false (by rfl)) (by rw [hK.out]; rfl) (by rfl) (.tmp 134) (.pointer (some ⟨p, 0, none⟩)) (by rfl) (.slice A2 0 c2) (fun ρ h1 kk w1 (hg : Grow _ w1) hb hf => by have c := hcp w1 hg; go_simp) ?_
                        refine fl_op1 136 (by rfl) (by decide) (wanted_if hops 8 false (by rfl) 130 (by rfl) false (by rfl)) (by rw [hK.out]; rfl) (by rfl) (.tmp 135) (.slice A2 0 c2) (by rfl) (.int .i64 0) (fun ρ h1 kk w1 (hg : Grow _ w1) hb hf => by go_simp) ?_
                        refine fl_op2 137 (by rfl) (by decide) (wanted_if hops 8 false (by rfl) 130 (by rfl) false (by rfl)) (by rw [hK.out]; rfl) (by rfl) (.tmp 136) (.const (.int .i64 0)) (.int .i64 0) (.int .i64 0) (by rfl) (by rfl) (.bool false) (fun ρ h1 h2 kk w1 (hg : Grow _ w1) hb hf => by go_simp) ?_
                        refine fl_op2 138 (by rfl) (by decide) (wanted_if hops 8 false (by rfl) 130 (by rfl) false (by rfl)) (by rw [hK.out]; rfl) (by rfl) (.tmp 131) (.tmp 137) (.bool false) (.bool false) (by rfl) (by rfl) (.bool false) (fun ρ h1 h2 kk w1 (hg : Grow _ w1) hb hf => by go_simp) ?_
                        refine fl_pick 139 (by rfl) (by decide) (wanted_none (by rfl)) (by rw [hK.out]; rfl) (by rfl) _ _ _ (by rfl) false (by rfl) (.bool false) (by rfl) ?_
                        refine fl_mv 140 (by rfl) (by decide) (wanted_none (by rfl)) (by rw [hK.out]; rfl) (by rfl) _ (Or.inl (by rfl)) (.bool false) (by rfl) ?_
                        refine fl_mv 141 (by rfl) (by decide) (wanted_if hops 18 false (by rfl) 140 (by rfl) false (by rfl)) (by rw [hK.out]; rfl) (by rfl) _ (Or.inl (by rfl)) (.bool false) (by rfl) ?_
                        refine fl_mv 142 (by rfl) (by decide) (wanted_if hops 18 false (by rfl) 140 (by rfl) false (by rfl)) (by rw [hK.out]; rfl) (by rfl) _ (Or.inl (by rfl)) (.bool false) (by rfl) ?_
                        refine fl_skip 143 (by rfl) (by decide) (wanted_if hops 20 true (by rfl) 142 (by rfl) false (by rfl)) (by rfl) ?_
                        refine fl_skip 144 (by rfl) (by decide) (wanted_if hops 20 true (by rfl) 142 (by rfl) false (by rfl)) (by rfl) ?_
                        refine fl_skip 145 (by rfl) (by decide) (wanted_if hops 20 true (by rfl) 142 (by rfl) false (by rfl)) (by rfl) ?_
                        refine fl_skip 146 (by rfl) (by decide) (wanted_if hops 20 true (by rfl) 142 (by rfl) false (by rfl)) (by rfl) ?_
                        refine fl_skip 147 (by rfl) (by decide) (wanted_if hops 20 true (by rfl) 142 (by rfl) false (by rfl)) (by rfl) ?_
                        refine fl_skip 148 (by rfl) (by decide) (wanted_if hops 20 true (by rfl) 142 (by rfl) false (by rfl)) (by rfl) ?_
                        refine fl_skip 149 (by rfl) (by decide) (wanted_if hops 20 true (by rfl) 142 (by rfl) false (by rfl)) (by rfl) ?_
                        refine fl_skip 150 (by rfl) (by decide) (wanted_if hops 20 true (by rfl) 142 (by rfl) false (by rfl)) (by rfl) ?_
                        refine fl_pick 151 (by rfl) (by decide) (wanted_if hops 18 false (by rfl) 140 (by rfl) false (by rfl)) (by rw [hK.out]; rfl) (by rfl) _ _ _ (by rfl) false (by rfl) (.bool false) (by rfl) ?_
                        refine fl_pick 152 (by rfl) (by decide) (wanted_none (by rfl)) (by rw [hK.out]; rfl) (by rfl) _ _ _ (by rfl) false (by rfl) (.bool false) (by rfl) ?_
                        refine fl_mv 153 (by rfl) (by decide) (wanted_none (by rfl)) (by rw [hK.out]; rfl) (by rfl) _ (Or.inl (by rfl)) (.bool false) (by rfl) ?_
                        refine fl_mv 154 (by rfl) (by decide) (wanted_if hops 31 false (by rfl) 153 (by rfl) false (by rfl)) (by rw [hK.out]; rfl) (by rfl) _ (Or.inl (by rfl)) (.bool false) (by rfl) ?_
                        refine fl_op1 155 (by rfl) (by decide) (wanted_if hops 31 false (by rfl) 153 (by rfl) false (by rfl)) (by rw [hK.out]; rfl) (by rfl) (.tmp 154) (.bool false) (by rfl) (.bool true) (fun ρ h1 kk w1 (hg : Grow _ w1) hb hf => by go_simp) ?_
                        refine fl_mv 156 (by rfl) (by decide) (wanted_if hops 31 false (by rfl) 153 (by rfl) false (by rfl)) (by rw [hK.out]; rfl) (by rfl) _ (Or.inl (by rfl)) (.bool true) (by rfl) ?_
                        refine fl_op1 157 (by rfl) (by decide) (wanted_if hops 34 true (by rfl) 156 (by rfl) true (by rfl)) (by rw [hK.out]; rfl) (by rfl) (.tmp 10) (.pointer (some ⟨y, 0, none⟩)) (by rfl) (.agg #[.int .i64 0, .int .i64 0]) (fun ρ h1 kk w1 (hg : Grow _ w1) hb hf => by have c := hcn0 w1 hg; have c1 := hcn1 w1 hg; go_simp) ?_
                        refine fl_det 158 (by rfl) (by decide) (wanted_if hops 34 true (by rfl) 156 (by rfl) true (by rfl)) (by rw [hK.out]; rfl) (by rfl) (.agg #[.int .i64 0, .int .i64 0]) (fun kk w1 (hg : Grow _ w1) hb hf => by go_simp) ?_
                        refine fl_op2 159 (by rfl) (by decide) (wanted_if hops 34 true (by rfl) 156 (by rfl) true (by rfl)) (by rw [hK.out]; rfl) (by rfl) (.tmp 157) (.tmp 158) (.agg #[.int .i64 0, .int .i64 0]) (.agg #[.int .i64 0, .int .i64 0]) (by rfl) (by rfl) (.bool false) (fun ρ h1 h2 kk w1 (hg : Grow _ w1) hb hf => by go_simp) ?_
                        refine fl_pick 160 (by rfl) (by decide) (wanted_if hops 31 false (by rfl) 153 (by rfl) false (by rfl)) (by rw [hK.out]; rfl) (by rfl) _ _ _ (by rfl) true (by rfl) (.bool false) (by rfl) ?_
                        refine fl_pick 161 (by rfl) (by decide) (wanted_none (by rfl)) (by rw [hK.out]; rfl) (by rfl) _ _ _ (by rfl) false (by rfl) (.bool false) (by rfl) ?_
                        refine fl_end (fun _ _ w1 (hg : Grow _ w1) _ hfacts => hT _ _ ?_)
                        clear hops hA' hK hT
                        simp only [putsL, Act.put, List.setIfInBounds_toArray, List.set_cons_zero, List.set_cons_succ, List.drop_succ_cons, List.drop_zero]
                        clear hfacts
                        have hd8 := hd7.grow (TimersAt.framed t _) (PlainAt.framed p _) hg
                        have hb8 := below_trans hb7 hg hb7.size
                        go_wp2_with fail
                        go_roundw
                        case rel => exact ⟨k + 1, _, by omega, by omega, by go_num, hlen2, hd8, hb8⟩
                        case measure => simp [intOf]; omega
                      | cons a l =>
                        unfold firstV
                        obtain ⟨a1, a2⟩ := a
                        have hg4 : Grow w3 (w3.alloc (.cells #[.int .i64 a1, .int .i64 a2] 36)) := (Below.refl _ _).alloc (Nat.le_refl _) _
                        have hBn := Blk.made w3 36 #[.int .i64 a1, .int .i64 a2]
                        have hg5 := hg3.trans hg4
                        have hT4 := TimersAt.framed _ _ _ (w3.alloc (.cells #[.int .i64 a1, .int .i64 a2] 36)) _ hT6 fun b hb => hg5.block b (hV6 b hb).2
                        have hVn : ∀ b, V6 b → b < (w3.alloc (.cells #[.int .i64 a1, .int .i64 a2] 36)).heap.size := fun b hb => Nat.lt_of_lt_of_le (hV6 b hb).2 hg5.size
                        have hd7 := (hd6.grow (TimersAt.framed t _) (PlainAt.framed p _) hg5).wide (P' := fun b => w.heap.size ≤ b) (fun b hb => hb.1)
                        have hBp7 := hBp.grow hg5
                        have hI7 := hI2.grow hg5
                        obtain ⟨wn, HN⟩ : ∃ wn : World, Hid (wn = w3.alloc (.cells #[.int .i64 a1, .int .i64 a2] 36)) := ⟨_, rfl⟩
                        obtain ⟨y, HY⟩ : ∃ y : Nat, Hid (y = w3.heap.size) := ⟨_, rfl⟩
                        have hb7 : Below w.heap.size w wn := HN.out ▸ below_trans hb6 hg5 hb6.size
                        rw [← HN.out] at hT4 hd7 hBn hBp7 hI7 hVn
                        rw [← HY.out] at hBn
                        obtain ⟨m, HM⟩ : ∃ m : Nat, Hid (m = ((a1, a2) :: l).length) := ⟨_, rfl⟩
                        have hlm : (((a1, a2) :: l).length : Int) = (m : Int) := by rw [HM.out]
                        have hm0 : 0 < m := by rw [HM.out]; simp
                        obtain ⟨ad6, rfl, _, hadB, e0, e1⟩ := itc_rec hI7 (k := 0) (by simp)
                        have hh0 : hat ((a1, a2) :: l) 0 = (a1, a2) := rfl
                        rw [hh0] at e0 e1
                        simp only [Nat.zero_mul, Addr.add_zero'] at e0 e1
                        rw [← HM.out] at hBp7
                        have he0 : ∀ w2, Grow wn w2 → w2.cell? ad6 = some (.int .i64 a1) := fun w2 hg => (hg.cell hadB).trans e0
                        have he1 : ∀ w2, Grow wn w2 → w2.cell? ⟨ad6.block, ad6.off + 1, none⟩ = some (.int .i64 a2) := fun w2 hg => (hg.cell (p := ⟨ad6.block, ad6.off + 1, none⟩) hadB).trans e1
                        have hcp : ∀ w2, Grow wn w2 → w2.cell? ⟨p, 0, none⟩ = some (.slice (some ad6) m c2) := fun w2 hg => (hBp7.grow hg).cell 0
                        have hcn0 : ∀ w2, Grow wn w2 → w2.cell? ⟨y, 0, none⟩ = some (.int .i64 a1) := fun w2 hg => (hBn.grow hg).cell 0
                        have hcn1 : ∀ w2, Grow wn w2 → w2.cell? ⟨y, 1, none⟩ = some (.int .i64 a2) := fun w2 hg => (hBn.grow hg).cell 1
                        have hT5 : ∀ w2, Grow wn w2 → TimersAt t ((a1, a2) :: l) w2 V6 := fun w2 hg => TimersAt.framed _ _ _ _ _ hT4 fun b hb => hg.block b (hVn b hb)
                        go_wp2_with fail
                        rw [← HN.out, ← HY.out]
                        clear hg4 hg5 hBn hT6 hP6 hV6 hU6 hT4 hBp7 hI7 hBp hI2
                        refine wp_region_flow 40 164 [(1, .inl (.int .i64 (m : Int)))] rfl rfl (by kernel_rfl) (by kernel_rfl) (by kernel_rfl) ?_ ?_
                        · intro x hx φ he
                          simp only [List.mem_cons, List.not_mem_nil, or_false] at hx
                          rcases hx with rfl <;> cases he
                        intro ops' A' K' T hops hA' hK hT
                        refine fl_mv 122 (by rfl) (by decide) (wanted_none (by rfl)) (by rw [hK.out]; rfl) (by rfl) _ (Or.inl (by rfl)) (.pointer (some ⟨t, 0, none⟩)) (by rfl) ?_
                        refine fl_call 123 (by rfl) (by decide) (wanted_none (by rfl)) (.int .i64 (m : Int)) (by rw [hK.out]; rfl) 13 _ _ (by rfl) [.pointer (some ⟨t, 0, none⟩)] (by rfl) k13 (fun kk w1 (hg : Grow _ w1) hb hf => calls_behind (by rfl) (by exact grew_same (tLen_n (hT5 w1 hg) hlm))) ?_
                        refine fl_mv 124 (by rfl) (by decide) (wanted_none (by rfl)) (by rw [hK.out]; rfl) (by rfl) _ (Or.inl (by rfl)) (.pointer (some ⟨p, 0, none⟩)) (by rfl) ?_
                        refine fl_op1 125 (by rfl) (by decide) (wanted_none (by rfl)) (by rw [hK.out]; rfl) (by rfl) (.tmp 124) (.pointer (some ⟨p, 0, none⟩)) (by rfl) (.pointer (some ⟨p, 0, none⟩)) (fun ρ h1 kk w1 (hg : Grow _ w1) hb hf => by go_simp) ?_
                        refine fl_op1 126 (by rfl) (by decide) (wanted_none (by rfl)) (by rw [hK.out]; rfl) (by rfl) (.tmp 125) (.pointer (some ⟨p, 0, none⟩)) (by rfl) (.pointer (some ⟨p, 0, none⟩)) (fun ρ h1 kk w1 (hg : Grow _ w1) hb hf => by go_simp) ?_
                        refine fl_op1 127 (by rfl) (by decide) (wanted_none (by rfl)) (by rw [hK.out]; rfl) (by rfl) (.tmp 126) (.pointer (some ⟨p, 0, none⟩)) (by rfl) (.slice (some ad6) m c2) (fun ρ h1 kk w1 (hg : Grow _ w1) hb hf => by have c := hcp w1 hg; go_simp) ?_
                        refine fl_op1 128 (by rfl) (by decide) (wanted_none (by rfl)) (by rw [hK.out]; rfl) (by rfl) (.tmp 127) (.slice (some ad6) m c2) (by rfl) (.int .i64 (m : Int)) (fun ρ h1 kk w1 (hg : Grow _ w1) hb hf => by go_simp) ?_
                        refine fl_op2 129 (by rfl) (by decide) (wanted_none (by rfl)) (by rw [hK.out]; rfl) (by rfl) (.tmp 123) (.tmp 128) (.int .i64 (m : Int)) (.int .i64 (m : Int)) (by rfl) (by rfl) (.bool false) (fun ρ h1 h2 kk w1 (hg : Grow _ w1) hb hf => by go_simp) ?_
                        refine fl_mv 130 (by rfl) (by decide) (wanted_none (by rfl)) (by rw [hK.out]; rfl) (by rfl) _ (Or.inl (by rfl)) (.bool false) (by rfl) ?_
                        refine fl_mv 131 (by rfl) (by decide) (wanted_if hops 8 false (by rfl) 130 (by rfl) false (by rfl)) (by rw [hK.out]; rfl) (by rfl) _ (Or.inl (by rfl)) (.bool true) (by rfl) ?_
                        refine fl_mv 132 (by rfl) (by decide) (wanted_if hops 8 false (by rfl) 130 (by rfl) false (by rfl)) (by rw [hK.out]; rfl) (by rfl) _ (Or.inl (by rfl)) (.pointer (some ⟨p, 0, none⟩)) (by rfl) ?_
                        refine fl_op1 133 (by rfl) (by decide) (wanted_if hops 8 false (by rfl) 130 (by rfl) false (by rfl)) (by rw [hK.out]; rfl) (by rfl) (.tmp 132) (.pointer (some ⟨p, 0, none⟩)) (by rfl) (.pointer (some ⟨p, 0, none⟩)) (fun ρ h1 kk w1 (hg : Grow _ w1) hb hf => by go_simp) ?_
                        refine fl_op1 134 (by rfl) (by decide) (wanted_if hops 8 false (by rfl) 130 (by rfl) false (by rfl)) (by rw [hK.out]; rfl) (by rfl) (.tmp 133) (.pointer (some ⟨p, 0, none⟩)) (by rfl) (.pointer (some ⟨p, 0, none⟩)) (fun ρ h1 kk w1 (hg : Grow _ w1) hb hf => by go_simp) ?_
                        refine fl_op1 135 (by rfl) (by decide) (wanted_if hops 8 false (by rfl) 130 (by rfl) false (by rfl)) (by rw [hK.out]; rfl) (by rfl) (.tmp 134) (.pointer (some ⟨p, 0, none⟩)) (by rfl) (.slice (some ad6) m c2) (fun ρ h1 kk w1 (hg : Grow _ w1) hb hf => by have c := hcp w1 hg; go_simp) ?_
                        refine fl_op1 136 (by rfl) (by decide) (wanted_if hops 8 false (by rfl) 130 (by rfl) false (by rfl)) (by rw [hK.out]; rfl) (by rfl) (.tmp 135) (.slice (some ad6) m c2) (by rfl) (.int .i64 (m : Int)) (fun ρ h1 kk w1 (hg : Grow _ w1) hb hf => by go_simp) ?_
                        refine fl_op2 137 (by rfl) (by decide) (wanted_if hops 8 false (by rfl) 130 (by rfl) false (by rfl)) (by rw [hK.out]; rfl) (by rfl) (.tmp 136) (.const (.int .i64 0)) (.int .i64 (m : Int)) (.int .i64 0) (by rfl) (by rfl) (.bool true) (fun ρ h1 h2 kk w1 (hg : Grow _ w1) hb hf => by go_simp) ?_
                        refine fl_op2 138 (by rfl) (by decide) (wanted_if hops 8 false (by rfl) 130 (by rfl) false (by rfl)) (by rw [hK.out]; rfl) (by rfl) (.tmp 131) (.tmp 137) (.bool true) (.bool true) (by rfl) (by rfl) (.bool false) (fun ρ h1 h2 kk w1 (hg : Grow _ w1) hb hf => by go_simp) ?_
                        refine fl_pick 139 (by rfl) (by decide) (wanted_none (by rfl)) (by rw [hK.out]; rfl) (by rfl) _ _ _ (by rfl) false (by rfl) (.bool false) (by rfl) ?_
                        refine fl_mv 140 (by rfl) (by decide) (wanted_none (by rfl)) (by rw [hK.out]; rfl) (by rfl) _ (Or.inl (by rfl)) (.bool false) (by rfl) ?_
                        refine fl_mv 141 (by rfl) (by decide) (wanted_if hops 18 false (by rfl) 140 (by rfl) false (by rfl)) (by rw [hK.out]; rfl) (by rfl) _ (Or.inl (by rfl)) (.bool true) (by rfl) ?_
                        refine fl_mv 142 (by rfl) (by decide) (wanted_if hops 18 false (by rfl) 140 (by rfl) false (by rfl)) (by rw [hK.out]; rfl) (by rfl) _ (Or.inl (by rfl)) (.bool true) (by rfl) ?_
                        refine fl_op1 143 (by rfl) (by decide) (wanted_if hops 20 true (by rfl) 142 (by rfl) true (by rfl)) (by rw [hK.out]; rfl) (by rfl) (.tmp 10) (.pointer (some ⟨y, 0, none⟩)) (by rfl) (.agg #[.int .i64 a1, .int .i64 a2]) (fun ρ h1 kk w1 (hg : Grow _ w1) hb hf => by have c := hcn0 w1 hg; have c1 := hcn1 w1 hg; go_simp) ?_
                        refine fl_mv 144 (by rfl) (by decide) (wanted_if hops 20 true (by rfl) 142 (by rfl) true (by rfl)) (by rw [hK.out]; rfl) (by rfl) _ (Or.inl (by rfl)) (.pointer (some ⟨p, 0, none⟩)) (by rfl) ?_
                        refine fl_op1 145 (by rfl) (by decide) (wanted_if hops 20 true (by rfl) 142 (by rfl) true (by rfl)) (by rw [hK.out]; rfl) (by rfl) (.tmp 144) (.pointer (some ⟨p, 0, none⟩)) (by rfl) (.pointer (some ⟨p, 0, none⟩)) (fun ρ h1 kk w1 (hg : Grow _ w1) hb hf => by go_simp) ?_
                        refine fl_op1 146 (by rfl) (by decide) (wanted_if hops 20 true (by rfl) 142 (by rfl) true (by rfl)) (by rw [hK.out]; rfl) (by rfl) (.tmp 145) (.pointer (some ⟨p, 0, none⟩)) (by rfl) (.pointer (some ⟨p, 0, none⟩)) (fun ρ h1 kk w1 (hg : Grow _ w1) hb hf => by go_simp) ?_
                        refine fl_op1 147 (by rfl) (by decide) (wanted_if hops 20 true (by rfl) 142 (by rfl) true (by rfl)) (by rw [hK.out]; rfl) (by rfl) (.tmp 146) (.pointer (some ⟨p, 0, none⟩)) (by rfl) (.slice (some ad6) m c2) (fun ρ h1 kk w1 (hg : Grow _ w1) hb hf => by have c := hcp w1 hg; go_simp) ?_
                        refine fl_op2 148 (by rfl) (by decide) (wanted_if hops 20 true (by rfl) 142 (by rfl) true (by rfl)) (by rw [hK.out]; rfl) (by rfl) (.tmp 147) (.const (.int .i64 0)) (.slice (some ad6) m c2) (.int .i64 0) (by rfl) (by rfl) (.pointer (some ad6)) (fun ρ h1 h2 kk w1 (hg : Grow _ w1) hb hf => by go_simp; try (intro hlt; omega)) ?_
                        refine fl_op1 149 (by rfl) (by decide) (wanted_if hops 20 true (by rfl) 142 (by rfl) true (by rfl)) (by rw [hK.out]; rfl) (by rfl) (.tmp 148) (.pointer (some ad6)) (by rfl) (.agg #[.int .i64 a1, .int .i64 a2]) (fun ρ h1 kk w1 (hg : Grow _ w1) hb hf => by have c := he0 w1 hg; have c1 := he1 w1 hg; go_simp) ?_
                        refine fl_op2 150 (by rfl) (by decide) (wanted_if hops 20 true (by rfl) 142 (by rfl) true (by rfl)) (by rw [hK.out]; rfl) (by rfl) (.tmp 143) (.tmp 149) (.agg #[.int .i64 a1, .int .i64 a2]) (.agg #[.int .i64 a1, .int .i64 a2]) (by rfl) (by rfl) (.bool false) (fun ρ h1 h2 kk w1 (hg : Grow _ w1) hb hf => by go_simp) ?_
                        refine fl_pick 151 (by rfl) (by decide) (wanted_if hops 18 false (by rfl) 140 (by rfl) false (by rfl)) (by rw [hK.out]; rfl) (by rfl) _ _ _ (by rfl) true (by rfl) (.bool false) (by rfl) ?_
                        refine fl_pick 152 (by rfl) (by decide) (wanted_none (by rfl)) (by rw [hK.out]; rfl) (by rfl) _ _ _ (by rfl) false (by rfl) (.bool false) (by rfl) ?_
                        refine fl_mv 153 (by rfl) (by decide) (wanted_none (by rfl)) (by rw [hK.out]; rfl) (by rfl) _ (Or.inl (by rfl)) (.bool false) (by rfl) ?_
                        refine fl_mv 154 (by rfl) (by decide) (wanted_if hops 31 false (by rfl) 153 (by rfl) false (by rfl)) (by rw [hK.out]; rfl) (by rfl) _ (Or.inl (by rfl)) (.bool true) (by rfl) ?_
                        refine fl_op1 155 (by rfl) (by decide) (wanted_if hops 31 false (by rfl) 153 (by rfl) false (by rfl)) (by rw [hK.out]; rfl) (by rfl) (.tmp 154) (.bool true) (by rfl) (.bool false) (fun ρ h1 kk w1 (hg : Grow _ w1) hb hf => by go_simp) ?_
                        refine fl_mv 156 (by rfl) (by decide) (wanted_if hops 31 false (by rfl) 153 (by rfl) false (by rfl)) (by rw [hK.out]; rfl) (by rfl) _ (Or.inl (by rfl)) (.bool false) (by rfl) ?_
                        refine fl_skip 157 (by rfl) (by decide) (wanted_if hops 34 true (by rfl) 156 (by rfl) false (by rfl)) (by rfl) ?_
                        refine fl_skip 158 (by rfl) (by decide) (wanted_if hops 34 true (by rfl) 156 (by rfl) false (by rfl)) (by rfl) ?_
                        refine fl_skip 159 (by rfl) (by decide) (wanted_if hops 34 true (by rfl) 156 (by rfl) false (by rfl)) (by rfl) ?_
                        refine fl_pick 160 (by rfl) (by decide) (wanted_if hops 31 false (by rfl) 153 (by rfl) false (by rfl)) (by rw [hK.out]; rfl) (by rfl) _ _ _ (by rfl) false (by rfl) (.bool false) (by rfl) ?_
                        refine fl_pick 161 (by rfl) (by decide) (wanted_none (by rfl)) (by rw [hK.out]; rfl) (by rfl) _ _ _ (by rfl) false (by rfl) (.bool false) (by rfl) ?_
                        refine fl_end (fun _ _ w1 (hg : Grow _ w1) _ hfacts => hT _ _ ?_)
                        clear hops hA' hK hT
                        simp only [putsL, Act.put, List.setIfInBounds_toArray, List.set_cons_zero, List.set_cons_succ, List.drop_succ_cons, List.drop_zero]
                        clear hfacts
                        have hd8 := hd7.grow (TimersAt.framed t _) (PlainAt.framed p _) hg
                        have hb8 := below_trans hb7 hg hb7.size
                        go_wp2_with fail
                        go_roundw
                        case rel => exact ⟨k + 1, _, by omega, by omega, by go_num, hlen2, hd8, hb8⟩
                        case measure => simp [intOf]; omega
                    · rw [if_neg (by assumption)] at hR3
                      refine stay_out ?_
                      refine wpList_own (V := fun b => b = wr.heap.size) itemE _ rfl (.tmp 107) (.tmp 113) rfl (.slice (some ⟨wr.heap.size, 0, none⟩) 0 0) 0 [] rfl hOg _ _ (S.length - kk) (c5' - kk) ((S.flatMap itc).drop (kk * 2)) rfl hR3 hone (by omega) ?_
                      intro v3 w3 hO3 hj3
                      rw [Nat.zero_add, List.nil_append] at hO3
                      obtain ⟨A4, c4, rfl, hI4, hn4, hm4⟩ := hO3.in_
                      clear hO3 hOg hR3 hone
                      have hBp3 := hj3.blk hBpg (fun h => by have : p = wr.heap.size := h; omega)
                      have cp3 := hBp3.cell 0
                      have fp3 := hBp3.frozen 0
                      have hjp := just_at w3 p 0 (.slice A4 (S.length - kk) c4)
                      have hBz := hBp3.put 0 (.slice A4 (S.length - kk) c4)
                      have hs3 := hj3.size
                      obtain ⟨hjz, hd6z⟩ := Duo.rline (R' := PlainAt p (S.drop kk)) (w' := w3.setCell ⟨p, 0, none⟩ (.slice A4 (S.length - kk) c4)) hd6 (TimersAt.framed t _) (fun U hU hUl => by
                        have hUp2 := hU.1
                        refine ⟨⟨.inl hUp2, A4, c4, fun b => wr.heap.size ≤ b ∧ b < w3.heap.size, ?_, ?_, ?_, hm4, fun b hb => ⟨.inr ⟨hb.1, by rw [setCell_size]; exact hb.2⟩, fun e => by have := hb.1; omega⟩⟩, ?_⟩
                        · rw [List.length_drop]; exact hBz
                        · rw [List.length_drop, ← flat_drop itc 2 itc_len]
                          refine In.just (In.mono hI4 fun b hb => ?_) hjp (fun b hb h => by have := hb.1; rw [show b = p from h] at this; omega)
                          rcases hb with hb | hb
                          · have : b = wr.heap.size := hb
                            constructor <;> omega
                          · have := hb.1
                            exact ⟨by omega, hb.2⟩
                        · rw [List.length_drop]; exact hn4
                        · exact ⟨hjp.os.trans (hj3.os.trans hgg.os), hjp.tape.trans (hj3.tape.trans hgg.tape), hjp.output.trans (hj3.output.trans hgg.output), by rw [setCell_size]; omega, fun b hb hv => by
                            rw [hjp.block b (by omega) (fun h => hv (by rw [show b = p from h]; exact hUp2)), hj3.block b (by omega) (fun h => by have : b = wr.heap.size := h; omega), hgg.block b hb]⟩)
                      have hb6z := Below.trans hb6 (hjz.below (B := w.heap.size) (fun b hb => hb.1) hb6.size)
                      obtain ⟨wz, HZ⟩ : ∃ wz : World, Hid (wz = w3.setCell ⟨p, 0, none⟩ (.slice A4 (S.length - kk) c4)) := ⟨_, rfl⟩
                      rw [← HZ.out] at hd6z hb6z
                      clear hBz hjp hjz hI4 hj3 hd6 hb6 hP5 hU5 hBp5 hI5 hIg hBpg
                      have hd6 := hd6z
                      have hb6 := hb6z
                      have hlen2 : (S.drop kk).length ≤ k + 1 := by rw [List.length_drop]; omega
                      clear hd6z hb6z
                      generalize hl2 : S.drop kk = l2 at hd6 hlen2
                      clear hl2
                      obtain ⟨_, V6, U6, hT6, hP6, _, hV6, hU6⟩ := id hd6
                      obtain ⟨_, A2, c2, D2, hBp, hI2, _, _, _⟩ := id hP6
                      go_wp2_with fail
                      rw [← HZ.out]
                      refine (Next_any wz t l2 V6 hT6).mono ?_
                      rintro e w3 ⟨rfl, hg3⟩
                      cases l2 with
                      | nil =>
                        unfold firstV
                        skip
                        have hg4 : Grow w3 (w3.alloc (.cells #[.int .i64 0, .int .i64 0] 36)) := (Below.refl _ _).alloc (Nat.le_refl _) _
                        have hBn := Blk.made w3 36 #[.int .i64 0, .int .i64 0]
                        have hg5 := hg3.trans hg4
                        have hT4 := TimersAt.framed _ _ _ (w3.alloc (.cells #[.int .i64 0, .int .i64 0] 36)) _ hT6 fun b hb => hg5.block b (hV6 b hb).2
                        have hVn : ∀ b, V6 b → b < (w3.alloc (.cells #[.int .i64 0, .int .i64 0] 36)).heap.size := fun b hb => Nat.lt_of_lt_of_le (hV6 b hb).2 hg5.size
                        have hd7 := (hd6.grow (TimersAt.framed t _) (PlainAt.framed p _) hg5).wide (P' := fun b => w.heap.size ≤ b) (fun b hb => hb.1)
                        have hBp7 := hBp.grow hg5
                        have hI7 := hI2.grow hg5
                        obtain ⟨wn, HN⟩ : ∃ wn : World, Hid (wn = w3.alloc (.cells #[.int .i64 0, .int .i64 0] 36)) := ⟨_, rfl⟩
                        obtain ⟨y, HY⟩ : ∃ y : Nat, Hid (y = w3.heap.size) := ⟨_, rfl⟩
                        have hb7 : Below w.heap.size w wn := HN.out ▸ below_trans hb6 hg5 hb6.size
                        rw [← HN.out] at hT4 hd7 hBn hBp7 hI7 hVn
                        rw [← HY.out] at hBn
                        have hlm : (([] : List It).length : Int) = 0 := rfl
                        have hcp : ∀ w2, Grow wn w2 → w2.cell? ⟨p, 0, none⟩ = some (.slice A2 0 c2) := fun w2 hg => (hBp7.grow hg).cell 0
                        have hcn0 : ∀ w2, Grow wn w2 → w2.cell? ⟨y, 0, none⟩ = some (.int .i64 0) := fun w2 hg => (hBn.grow hg).cell 0
                        have hcn1 : ∀ w2, Grow wn w2 → w2.cell? ⟨y, 1, none⟩ = some (.int .i64 0) := fun w2 hg => (hBn.grow hg).cell 1
                        have hT5 : ∀ w2, Grow wn w2 → TimersAt t ([] : List It) w2 V6 := fun w2 hg => TimersAt.framed _ _ _ _ _ hT4 fun b hb => hg.block b (hVn b hb)
                        go_wp2_with fail
                        rw [← HN.out, ← HY.out]
                        clear hg4 hg5 hBn hT6 hP6 hV6 hU6 hT4 hBp7 hI7 hBp hI2
                        refine wp_region_flow 40 164 [(1, .inl (.int .i64 0))] rfl rfl (by kernel_rfl) (by kernel_rfl) (by kernel_rfl) ?_ ?_
                        · intro x hx φ he
                          simp only [List.mem_cons, List.not_mem_nil, or_false] at hx
                          rcases hx with rfl <;> cases he
                        intro ops' A' K' T hops hA' hK hT
                        refine fl_mv 122 (by rfl) (by decide) (wanted_none (by rfl)) (by rw [hK.out]; rfl) (by rfl) _ (Or.inl (by rfl)) (.pointer (some ⟨t, 0, none⟩)) (by rfl) ?_
                        refine fl_call 123 (by rfl) (by decide) (wanted_none (by rfl)) (.int .i64 0) (by rw [hK.out]; rfl) 13 _ _ (by rfl) [.pointer (some ⟨t, 0, none⟩)] (by rfl) k13 (fun kk w1 (hg : Grow _ w1) hb hf => calls_behind (by rfl) (by exact grew_same (tLen_n (hT5 w1 hg) hlm))) ?_
                        refine fl_mv 124 (by rfl) (by decide) (wanted_none (by rfl)) (by rw [hK.out]; rfl) (by rfl) _ (Or.inl (by rfl)) (.pointer (some ⟨p, 0, none⟩)) (by rfl) ?_
                        refine fl_op1 125 (by rfl) (by decide) (wanted_none (by rfl)) (by rw [hK.out]; rfl) (by rfl) (.tmp 124) (.pointer (some ⟨p, 0, none⟩)) (by rfl) (.pointer (some ⟨p, 0, none⟩)) (fun ρ h1 kk w1 (hg : Grow _ w1) hb hf => by go_simp) ?_
                        refine fl_op1 126 (by rfl) (by decide) (wanted_none (by rfl)) (by rw [hK.out]; rfl) (by rfl) (.tmp 125) (.pointer (some ⟨p, 0, none⟩)) (by rfl) (.pointer (some ⟨p, 0, none⟩)) (fun ρ h1 kk w1 (hg : Grow _ w1) hb hf => by go_simp) ?_
                        refine fl_op1 127 (by rfl) (by decide) (wanted_none (by rfl)) (by rw [hK.out]; rfl) (by rfl) (.tmp 126) (.pointer (some ⟨p, 0, none⟩)) (by rfl) (.slice A2 0 c2) (fun ρ h1 kk w1 (hg : Grow _ w1) hb hf => by have c := hcp w1 hg; go_simp) ?_
                        refine fl_op1 128 (by rfl) (by decide) (wanted_none (by rfl)) (by rw [hK.out]; rfl) (by rfl) (.tmp 127) (.slice A2 0 c2) (by rfl) (.int .i64 0) (fun ρ h1 kk w1 (hg : Grow _ w1) hb hf => by go_simp) ?_
                        refine fl_op2 129 (by rfl) (by decide) (wanted_none (by rfl)) (by rw [hK.out]; rfl) (by rfl) (.tmp 123) (.tmp 128) (.int .i64 0) (.int .i64 0) (by rfl) (by rfl) (.bool false) (fun ρ h1 h2 kk w1 (hg : Grow _ w1) hb hf => by go_simp) ?_
                        refine fl_mv 130 (by rfl) (by decide) (wanted_none (by rfl)) (by rw [hK.out]; rfl) (by rfl) _ (Or.inl (by rfl)) (.bool false) (by rfl) ?_
                        refine fl_mv 131 (by rfl) (by decide) (wanted_if hops 8 false (by rfl) 130 (by rfl) false (by rfl)) (by rw [hK.out]; rfl) (by rfl) _ (Or.inl (by rfl)) (.bool false) (by rfl) ?_
                        refine fl_mv 132 (by rfl) (by decide) (wanted_if hops 8 false (by rfl) 130 (by rfl) false (by rfl)) (by rw [hK.out]; rfl) (by rfl) _ (Or.inl (by rfl)) (.pointer (some ⟨p, 0, none⟩)) (by rfl) ?_
                        refine fl_op1 133 (by rfl) (by decide) (wanted_if hops 8 false (by rfl) 130 (by rfl) false (by rfl)) (by rw [hK.out]; rfl) (by rfl) (.tmp 132) (.pointer (some ⟨p, 0, none⟩)) (by rfl) (.pointer (some ⟨p, 0, none⟩)) (fun ρ h1 kk w1 (hg : Grow _ w1) hb hf => by go_simp) ?_
                        refine fl_op1 134 (by rfl) (by decide) (wanted_if hops 8 false (by rfl) 130 (by rfl) false (by rfl)) (by rw [hK.out]; rfl) (by rfl) (.tmp 133) (.pointer (some ⟨p, 0, none⟩)) (by rfl) (.pointer (some ⟨p, 0, none⟩)) (fun ρ h1 kk w1 (hg : Grow _ w1) hb hf => by go_simp) ?_
                        refine fl_op1 135 (by rfl) (by decide) (wanted_if hops 8 false (by rfl) 130 (by rfl) false (by rfl)) (by rw [hK.out]; rfl) (by rfl) (.tmp 134) (.pointer (some ⟨p, 0, none⟩)) (by rfl) (.slice A2 0 c2) (fun ρ h1 kk w1 (hg : Grow _ w1) hb hf => by have c := hcp w1 hg; go_simp) ?_
                        refine fl_op1 136 (by rfl) (by decide) (wanted_if hops 8 false (by rfl) 130 (by rfl) false (by rfl)) (by rw [hK.out]; rfl) (by rfl) (.tmp 135) (.slice A2 0 c2) (by rfl) (.int .i64 0) (fun ρ h1 kk w1 (hg : Grow _ w1) hb hf => by go_simp) ?_
                        refine fl_op2 137 (by rfl) (by decide) (wanted_if hops 8 false (by rfl) 130 (by rfl) false (by rfl)) (by rw [hK.out]; rfl) (by rfl) (.tmp 136) (.const (.int .i64 0)) (.int .i64 0) (.int .i64 0) (by rfl) (by rfl) (.bool false) (fun ρ h1 h2 kk w1 (hg : Grow _ w1) hb hf => by go_simp) ?_
                        refine fl_op2 138 (by rfl) (by decide) (wanted_if hops 8 false (by rfl) 130 (by rfl) false (by rfl)) (by rw [hK.out]; rfl) (by rfl) (.tmp 131) (.tmp 137) (.bool false) (.bool false) (by rfl) (by rfl) (.bool false) (fun ρ h1 h2 kk w1 (hg : Grow _ w1) hb hf => by go_simp) ?_
                        refine fl_pick 139 (by rfl) (by decide) (wanted_none (by rfl)) (by rw [hK.out]; rfl) (by rfl) _ _ _ (by rfl) false (by rfl) (.bool false) (by rfl) ?_
                        refine fl_mv 140 (by rfl) (by decide) (wanted_none (by rfl)) (by rw [hK.out]; rfl) (by rfl) _ (Or.inl (by rfl)) (.bool false) (by rfl) ?_
                        refine fl_mv 141 (by rfl) (by decide) (wanted_if hops 18 false (by rfl) 140 (by rfl) false (by rfl)) (by rw [hK.out]; rfl) (by rfl) _ (Or.inl (by rfl)) (.bool false) (by rfl) ?_
                        refine fl_mv 142 (by rfl) (by decide) (wanted_if hops 18 false (by rfl) 140 (by rfl) false (by rfl)) (by rw [hK.out]; rfl) (by rfl) _ (Or.inl (by rfl)) (.bool false) (by rfl) ?_
                        refine fl_skip 143 (by rfl) (by decide) (wanted_if hops 20 true (by rfl) 142 (by rfl) false (by rfl)) (by rfl) ?_
                        refine fl_skip 144 (by rfl) (by decide) (wanted_if hops 20 true (by rfl) 142 (by rfl) false (by rfl)) (by rfl) ?_
                        refine fl_skip 145 (by rfl) (by decide) (wanted_if hops 20 true (by rfl) 142 (by rfl) false (by rfl)) (by rfl) ?_
                        refine fl_skip 146 (by rfl) (by decide) (wanted_if hops 20 true (by rfl) 142 (by rfl) false (by rfl)) (by rfl) ?_
                        refine fl_skip 147 (by rfl) (by decide) (wanted_if hops 20 true (by rfl) 142 (by rfl) false (by rfl)) (by rfl) ?_
                        refine fl_skip 148 (by rfl) (by decide) (wanted_if hops 20 true (by rfl) 142 (by rfl) false (by rfl)) (by rfl) ?_
                        refine fl_skip 149 (by rfl) (by decide) (wanted_if hops 20 true (by rfl) 142 (by rfl) false (by rfl)) (by rfl) ?_
                        refine fl_skip 150 (by rfl) (by decide) (wanted_if hops 20 true (by rfl) 142 (by rfl) false (by rfl)) (by rfl) ?_
                        refine fl_pick 151 (by rfl) (by decide) (wanted_if hops 18 false (by rfl) 140 (by rfl) false (by rfl)) (by rw [hK.out]; rfl) (by rfl) _ _ _ (by rfl) false (by rfl) (.bool false) (by rfl) ?_
                        refine fl_pick 152 (by rfl) (by decide) (wanted_none (by rfl)) (by rw [hK.out]; rfl) (by rfl) _ _ _ (by rfl) false (by rfl) (.bool false) (by rfl) ?_
                        refine fl_mv 153 (by rfl) (by decide) (wanted_none (by rfl)) (by rw [hK.out]; rfl) (by rfl) _ (Or.inl (by rfl)) (.bool false) (by rfl) ?_
                        refine fl_mv 154 (by rfl) (by decide) (wanted_if hops 31 false (by rfl) 153 (by rfl) false (by rfl)) (by rw [hK.out]; rfl) (by rfl) _ (Or.inl (by rfl)) (.bool false) (by rfl) ?_
                        refine fl_op1 155 (by rfl) (by decide) (wanted_if hops 31 false (by rfl) 153 (by rfl) false (by rfl)) (by rw [hK.out]; rfl) (by rfl) (.tmp 154) (.bool false) (by rfl) (.bool true) (fun ρ h1 kk w1 (hg : Grow _ w1) hb hf => by go_simp) ?_
                        refine fl_mv 156 (by rfl) (by decide) (wanted_if hops 31 false (by rfl) 153 (by rfl) false (by rfl)) (by rw [hK.out]; rfl) (by rfl) _ (Or.inl (by rfl)) (.bool true) (by rfl) ?_
                        refine fl_op1 157 (by rfl) (by decide) (wanted_if hops 34 true (by rfl) 156 (by rfl) true (by rfl)) (by rw [hK.out]; rfl) (by rfl) (.tmp 10) (.pointer (some ⟨y, 0, none⟩)) (by rfl) (.agg #[.int .i64 0, .int .i64 0]) (fun ρ h1 kk w1 (hg : Grow _ w1) hb hf => by have c := hcn0 w1 hg; have c1 := hcn1 w1 hg; go_simp) ?_
                        refine fl_det 158 (by rfl) (by decide) (wanted_if hops 34 true (by rfl) 156 (by rfl) true (by rfl)) (by rw [hK.out]; rfl) (by rfl) (.agg #[.int .i64 0, .int .i64 0]) (fun kk w1 (hg : Grow _ w1) hb hf => by go_simp) ?_
                        refine fl_op2 159 (by rfl) (by decide) (wanted_if hops 34 true (by rfl) 156 (by rfl) true (by rfl)) (by rw [hK.out]; rfl) (by rfl) (.tmp 157) (.tmp 158) (.agg #[.int .i64 0, .int .i64 0]) (.agg #[.int .i64 0, .int .i64 0]) (by rfl) (by rfl) (.bool false) (fun ρ h1 h2 kk w1 (hg : Grow _ w1) hb hf => by go_simp) ?_
                        refine fl_pick 160 (by rfl) (by decide) (wanted_if hops 31 false (by rfl) 153 (by rfl) false (by rfl)) (by rw [hK.out]; rfl) (by rfl) _ _ _ (by rfl) true (by rfl) (.bool false) (by rfl) ?_
                        refine fl_pick 161 (by rfl) (by decide) (wanted_none (by rfl)) (by rw [hK.out]; rfl) (by rfl) _ _ _ (by rfl) false (by rfl) (.bool false) (by rfl) ?_
                        refine fl_end (fun _ _ w1 (hg : Grow _ w1) _ hfacts => hT _ _ ?_)
                        clear hops hA' hK hT
                        simp only [putsL, Act.put, List.setIfInBounds_toArray, List.set_cons_zero, List.set_cons_succ, List.drop_succ_cons, List.drop_zero]
                        clear hfacts
                        have hd8 := hd7.grow (TimersAt.framed t _) (PlainAt.framed p _) hg
                        have hb8 := below_trans hb7 hg hb7.size
                        go_wp2_with fail
                        go_roundw
                        case rel => exact ⟨k + 1, _, by omega, by omega, by go_num, hlen2, hd8, hb8⟩
                        case measure => simp [intOf]; omega
                      | cons a l =>
                        unfold firstV
                        obtain ⟨a1, a2⟩ := a
                        have hg4 : Grow w3 (w3.alloc (.cells #[.int .i64 a1, .int .i64 a2] 36)) := (Below.refl _ _).alloc (Nat.le_refl _) _
                        have hBn := Blk.made w3 36 #[.int .i64 a1, .int .i64 a2]
                        have hg5 := hg3.trans hg4
                        have hT4 := TimersAt.framed _ _ _ (w3.alloc (.cells #[.int .i64 a1, .int .i64 a2] 36)) _ hT6 fun b hb => hg5.block b (hV6 b hb).2
                        have hVn : ∀ b, V6 b → b < (w3.alloc (.cells #[.int .i64 a1, .int .i64 a2] 36)).heap.size := fun b hb => Nat.lt_of_lt_of_le (hV6 b hb).2 hg5.size
                        have hd7 := (hd6.grow (TimersAt.framed t _) (PlainAt.framed p _) hg5).wide (P' := fun b => w.heap.size ≤ b) (fun b hb => hb.1)
                        have hBp7 := hBp.grow hg5
                        have hI7 := hI2.grow hg5
                        obtain ⟨wn, HN⟩ : ∃ wn : World, Hid (wn = w3.alloc (.cells #[.int .i64 a1, .int .i64 a2] 36)) := ⟨_, rfl⟩
                        obtain ⟨y, HY⟩ : ∃ y : Nat, Hid (y = w3.heap.size) := ⟨_, rfl⟩
                        have hb7 : Below w.heap.size w wn := HN.out ▸ below_trans hb6 hg5 hb6.size
                        rw [← HN.out] at hT4 hd7 hBn hBp7 hI7 hVn
                        rw [← HY.out] at hBn
                        obtain ⟨m, HM⟩ : ∃ m : Nat, Hid (m = ((a1, a2) :: l).length) := ⟨_, rfl⟩
                        have hlm : (((a1, a2) :: l).length : Int) = (m : Int) := by rw [HM.out]
                        have hm0 : 0 < m := by rw [HM.out]; simp
                        obtain ⟨ad6, rfl, _, hadB, e0, e1⟩ := itc_rec hI7 (k := 0) (by simp)
                        have hh0 : hat ((a1, a2) :: l) 0 = (a1, a2) := rfl
                        rw [hh0] at e0 e1
                        simp only [Nat.zero_mul, Addr.add_zero'] at e0 e1
                        rw [← HM.out] at hBp7
                        have he0 : ∀ w2, Grow wn w2 → w2.cell? ad6 = some (.int .i64 a1) := fun w2 hg => (hg.cell hadB).trans e0
                        have he1 : ∀ w2, Grow wn w2 → w2.cell? ⟨ad6.block, ad6.off + 1, none⟩ = some (.int .i64 a2) := fun w2 hg => (hg.cell (p := ⟨ad6.block, ad6.off + 1, none⟩) hadB).trans e1
                        have hcp : ∀ w2, Grow wn w2 → w2.cell? ⟨p, 0, none⟩ = some (.slice (some ad6) m c2) := fun w2 hg => (hBp7.grow hg).cell 0
                        have hcn0 : ∀ w2, Grow wn w2 → w2.cell? ⟨y, 0, none⟩ = some (.int .i64 a1) := fun w2 hg => (hBn.grow hg).cell 0
                        have hcn1 : ∀ w2, Grow wn w2 → w2.cell? ⟨y, 1, none⟩ = some (.int .i64 a2) := fun w2 hg => (hBn.grow hg).cell 1
                        have hT5 : ∀ w2, Grow wn w2 → TimersAt t ((a1, a2) :: l) w2 V6 := fun w2 hg => TimersAt.framed _ _ _ _ _ hT4 fun b hb => hg.block b (hVn b hb)
                        go_wp2_with fail
                        rw [← HN.out, ← HY.out]
                        clear hg4 hg5 hBn hT6 hP6 hV6 hU6 hT4 hBp7 hI7 hBp hI2
                        refine wp_region_flow 40 164 [(1, .inl (.int .i64 (m : Int)))] rfl rfl (by kernel_rfl) (by kernel_rfl) (by kernel_rfl) ?_ ?_
                        · intro x hx φ he
                          simp only [List.mem_cons, List.not_mem_nil, or_false] at hx
                          rcases hx with rfl <;> cases he
                        intro ops' A' K' T hops hA' hK hT
                        refine fl_mv 122 (by rfl) (by decide) (wanted_none (by rfl)) (by rw [hK.out]; rfl) (by rfl) _ (Or.inl (by rfl)) (.pointer (some ⟨t, 0, none⟩)) (by rfl) ?_
                        refine fl_call 123 (by rfl) (by decide) (wanted_none (by rfl)) (.int .i64 (m : Int)) (by rw [hK.out]; rfl) 13 _ _ (by rfl) [.pointer (some ⟨t, 0, none⟩)] (by rfl) k13 (fun kk w1 (hg : Grow _ w1) hb hf => calls_behind (by rfl) (by exact grew_same (tLen_n (hT5 w1 hg) hlm))) ?_
                        refine fl_mv 124 (by rfl) (by decide) (wanted_none (by rfl)) (by rw [hK.out]; rfl) (by rfl) _ (Or.inl (by rfl)) (.pointer (some ⟨p, 0, none⟩)) (by rfl) ?_
                        refine fl_op1 125 (by rfl) (by decide) (wanted_none (by rfl)) (by rw [hK.out]; rfl) (by rfl) (.tmp 124) (.pointer (some ⟨p, 0, none⟩)) (by rfl) (.pointer (some ⟨p, 0, none⟩)) (fun ρ h1 kk w1 (hg : Grow _ w1) hb hf => by go_simp) ?_
                        refine fl_op1 126 (by rfl) (by decide) (wanted_none (by rfl)) (by rw [hK.out]; rfl) (by rfl) (.tmp 125) (.pointer (some ⟨p, 0, none⟩)) (by rfl) (.pointer (some ⟨p, 0, none⟩)) (fun ρ h1 kk w1 (hg : Grow _ w1) hb hf => by go_simp) ?_
                        refine fl_op1 127 (by rfl) (by decide) (wanted_none (by rfl)) (by rw [hK.out]; rfl) (by rfl) (.tmp 126) (.pointer (some ⟨p, 0, none⟩)) (by rfl) (.slice (some ad6) m c2) (fun ρ h1 kk w1 (hg : Grow _ w1) hb hf => by have c := hcp w1 hg; go_simp) ?_
                        refine fl_op1 128 (by rfl) (by decide) (wanted_none (by rfl)) (by rw [hK.out]; rfl) (by rfl) (.tmp 127) (.slice (some ad6) m c2) (by rfl) (.int .i64 (m : Int)) (fun ρ h1 kk w1 (hg : Grow _ w1) hb hf => by go_simp) ?_
                        refine fl_op2 129 (by rfl) (by decide) (wanted_none (by rfl)) (by rw [hK.out]; rfl) (by rfl) (.tmp 123) (.tmp 128) (.int .i64 (m : Int)) (.int .i64 (m : Int)) (by rfl) (by rfl) (.bool false) (fun ρ h1 h2 kk w1 (hg : Grow _ w1) hb hf => by go_simp) ?_
                        refine fl_mv 130 (by rfl) (by decide) (wanted_none (by rfl)) (by rw [hK.out]; rfl) (by rfl) _ (Or.inl (by rfl)) (.bool false) (by rfl) ?_
                        refine fl_mv 131 (by rfl) (by decide) (wanted_if hops 8 false (by rfl) 130 (by rfl) false (by rfl)) (by rw [hK.out]; rfl) (by rfl) _ (Or.inl (by rfl)) (.bool true) (by rfl) ?_
                        refine fl_mv 132 (by rfl) (by decide) (wanted_if hops 8 false (by rfl) 130 (by rfl) false (by rfl)) (by rw [hK.out]; rfl) (by rfl) _ (Or.inl (by rfl)) (.pointer (some ⟨p, 0, none⟩)) (by rfl) ?_
                        refine fl_op1 133 (by rfl) (by decide) (wanted_if hops 8 false (by rfl) 130 (by rfl) false (by rfl)) (by rw [hK.out]; rfl) (by rfl) (.tmp 132) (.pointer (some ⟨p, 0, none⟩)) (by rfl) (.pointer (some ⟨p, 0, none⟩)) (fun ρ h1 kk w1 (hg : Grow _ w1) hb hf => by go_simp) ?_
                        refine fl_op1 134 (by rfl) (by decide) (wanted_if hops 8 false (by rfl) 130 (by rfl) false (by rfl)) (by rw [hK.out]; rfl) (by rfl) (.tmp 133) (.pointer (some ⟨p, 0, none⟩)) (by rfl) (.pointer (some ⟨p, 0, none⟩)) (fun ρ h1 kk w1 (hg : Grow _ w1) hb hf => by go_simp) ?_
                        refine fl_op1 135 (by rfl) (by decide) (wanted_if hops 8 false (by rfl) 130 (by rfl) false (by rfl)) (by rw [hK.out]; rfl) (by rfl) (.tmp 134) (.pointer (some ⟨p, 0, none⟩)) (by rfl) (.slice (some ad6) m c2) (fun ρ h1 kk w1 (hg : Grow _ w1) hb hf => by have c := hcp w1 hg; go_simp) ?_
                        refine fl_op1 136 (by rfl) (by decide) (wanted_if hops 8 false (by rfl) 130 (by rfl) false (by rfl)) (by rw [hK.out]; rfl) (by rfl) (.tmp 135) (.slice (some ad6) m c2) (by rfl) (.int .i64 (m : Int)) (fun ρ h1 kk w1 (hg : Grow _ w1) hb hf => by go_simp) ?_
                        refine fl_op2 137 (by rfl) (by decide) (wanted_if hops 8 false (by rfl) 130 (by rfl) false (by rfl)) (by rw [hK.out]; rfl) (by rfl) (.tmp 136) (.const (.int .i64 0)) (.int .i64 (m : Int)) (.int .i64 0) (by rfl) (by rfl) (.bool true) (fun ρ h1 h2 kk w1 (hg : Grow _ w1) hb hf => by go_simp) ?_
                        refine fl_op2 138 (by rfl) (by decide) (wanted_if hops 8 false (by rfl) 130 (by rfl) false (by rfl)) (by rw [hK.out]; rfl) (by rfl) (.tmp 131) (.tmp 137) (.bool true) (.bool true) (by rfl) (by rfl) (.bool false) (fun ρ h1 h2 kk w1 (hg : Grow _ w1) hb hf => by go_simp) ?_
                        refine fl_pick 139 (by rfl) (by decide) (wanted_none (by rfl)) (by rw [hK.out]; rfl) (by rfl) _ _ _ (by rfl) false (by rfl) (.bool false) (by rfl) ?_
                        refine fl_mv 140 (by rfl) (by decide) (wanted_none (by rfl)) (by rw [hK.out]; rfl) (by rfl) _ (Or.inl (by rfl)) (.bool false) (by rfl) ?_
                        refine fl_mv 141 (by rfl) (by decide) (wanted_if hops 18 false (by rfl) 140 (by rfl) false (by rfl)) (by rw [hK.out]; rfl) (by rfl) _ (Or.inl (by rfl)) (.bool true) (by rfl) ?_
                        refine fl_mv 142 (by rfl) (by decide) (wanted_if hops 18 false (by rfl) 140 (by rfl) false (by rfl)) (by rw [hK.out]; rfl) (by rfl) _ (Or.inl (by rfl)) (.bool true) (by rfl) ?_
                        refine fl_op1 143 (by rfl) (by decide) (wanted_if hops 20 true (by rfl) 142 (by rfl) true (by rfl)) (by rw [hK.out]; rfl) (by rfl) (.tmp 10) (.pointer (some ⟨y, 0, none⟩)) (by rfl) (.agg #[.int .i64 a1, .int .i64 a2]) (fun ρ h1 kk w1 (hg : Grow _ w1) hb hf => by have c := hcn0 w1 hg; have c1 := hcn1 w1 hg; go_simp) ?_
                        refine fl_mv 144 (by rfl) (by decide) (wanted_if hops 20 true (by rfl) 142 (by rfl) true (by rfl)) (by rw [hK.out]; rfl) (by rfl) _ (Or.inl (by rfl)) (.pointer (some ⟨p, 0, none⟩)) (by rfl) ?_
                        refine fl_op1 145 (by rfl) (by decide) (wanted_if hops 20 true (by rfl) 142 (by rfl) true (by rfl)) (by rw [hK.out]; rfl) (by rfl) (.tmp 144) (.pointer (some ⟨p, 0, none⟩)) (by rfl) (.pointer (some ⟨p, 0, none⟩)) (fun ρ h1 kk w1 (hg : Grow _ w1) hb hf => by go_simp) ?_
                        refine fl_op1 146 (by rfl) (by decide) (wanted_if hops 20 true (by rfl) 142 (by rfl) true (by rfl)) (by rw [hK.out]; rfl) (by rfl) (.tmp 145) (.pointer (some ⟨p, 0, none⟩)) (by rfl) (.pointer (some ⟨p, 0, none⟩)) (fun ρ h1 kk w1 (hg : Grow _ w1) hb hf => by go_simp) ?_
                        refine fl_op1 147 (by rfl) (by decide) (wanted_if hops 20 true (by rfl) 142 (by rfl) true (by rfl)) (by rw [hK.out]; rfl) (by rfl) (.tmp 146) (.pointer (some ⟨p, 0, none⟩)) (by rfl) (.slice (some ad6) m c2) (fun ρ h1 kk w1 (hg : Grow _ w1) hb hf => by have c := hcp w1 hg; go_simp) ?_
                        refine fl_op2 148 (by rfl) (by decide) (wanted_if hops 20 true (by rfl) 142 (by rfl) true (by rfl)) (by rw [hK.out]; rfl) (by rfl) (.tmp 147) (.const (.int .i64 0)) (.slice (some ad6) m c2) (.int .i64 0) (by rfl) (by rfl) (.pointer (some ad6)) (fun ρ h1 h2 kk w1 (hg : Grow _ w1) hb hf => by go_simp; try (intro hlt; omega)) ?_
                        refine fl_op1 149 (by rfl) (by decide) (wanted_if hops 20 true (by rfl) 142 (by rfl) true (by rfl)) (by rw [hK.out]; rfl) (by rfl) (.tmp 148) (.pointer (some ad6)) (by rfl) (.agg #[.int .i64 a1, .int .i64 a2]) (fun ρ h1 kk w1 (hg : Grow _ w1) hb hf => by have c := he0 w1 hg; have c1 := he1 w1 hg; go_simp) ?_
                        refine fl_op2 150 (by rfl) (by decide) (wanted_if hops 20 true (by rfl) 142 (by rfl) true (by rfl)) (by rw [hK.out]; rfl) (by rfl) (.tmp 143) (.tmp 149) (.agg #[.int .i64 a1, .int .i64 a2]) (.agg #[.int .i64 a1, .int .i64 a2]) (by rfl) (by rfl) (.bool false) (fun ρ h1 h2 kk w1 (hg : Grow _ w1) hb hf => by go_simp) ?_
                        refine fl_pick 151 (by rfl) (by decide) (wanted_if hops 18 false (by rfl) 140 (by rfl) false (by rfl)) (by rw [hK.out]; rfl) (by rfl) _ _ _ (by rfl) true (by rfl) (.bool false) (by rfl) ?_
                        refine fl_pick 152 (by rfl) (by decide) (wanted_none (by rfl)) (by rw [hK.out]; rfl) (by rfl) _ _ _ (by rfl) false (by rfl) (.bool false) (by rfl) ?_
                        refine fl_mv 153 (by rfl) (by decide) (wanted_none (by rfl)) (by rw [hK.out]; rfl) (by rfl) _ (Or.inl (by rfl)) (.bool false) (by rfl) ?_
                        refine fl_mv 154 (by rfl) (by decide) (wanted_if hops 31 false (by rfl) 153 (by rfl) false (by rfl)) (by rw [hK.out]; rfl) (by rfl) _ (Or.inl (by rfl)) (.bool true) (by rfl) ?_
                        refine fl_op1 155 (by rfl) (by decide) (wanted_if hops 31 false (by rfl) 153 (by rfl) false (by rfl)) (by rw [hK.out]; rfl) (by rfl) (.tmp 154) (.bool true) (by rfl) (.bool false) (fun ρ h1 kk w1 (hg : Grow _ w1) hb hf => by go_simp) ?_
                        refine fl_mv 156 (by rfl) (by decide) (wanted_if hops 31 false (by rfl) 153 (by rfl) false (by rfl)) (by rw [hK.out]; rfl) (by rfl) _ (Or.inl (by rfl)) (.bool false) (by rfl) ?_
                        refine fl_skip 157 (by rfl) (by decide) (wanted_if hops 34 true (by rfl) 156 (by rfl) false (by rfl)) (by rfl) ?_
                        refine fl_skip 158 (by rfl) (by decide) (wanted_if hops 34 true (by rfl) 156 (by rfl) false (by rfl)) (by rfl) ?_
                        refine fl_skip 159 (by rfl) (by decide) (wanted_if hops 34 true (by rfl) 156 (by rfl) false (by rfl)) (by rfl) ?_
                        refine fl_pick 160 (by rfl) (by decide) (wanted_if hops 31 false (by rfl) 153 (by rfl) false (by rfl)) (by rw [hK.out]; rfl) (by rfl) _ _ _ (by rfl) false (by rfl) (.bool false) (by rfl) ?_
                        refine fl_pick 161 (by rfl) (by decide) (wanted_none (by rfl)) (by rw [hK.out]; rfl) (by rfl) _ _ _ (by rfl) false (by rfl) (.bool false) (by rfl) ?_
                        refine fl_end (fun _ _ w1 (hg : Grow _ w1) _ hfacts => hT _ _ ?_)
                        clear hops hA' hK hT
                        simp only [putsL, Act.put, List.setIfInBounds_toArray, List.set_cons_zero, List.set_cons_succ, List.drop_succ_cons, List.drop_zero]
                        clear hfacts
                        have hd8 := hd7.grow (TimersAt.framed t _) (PlainAt.framed p _) hg
                        have hb8 := below_trans hb7 hg hb7.size
                        go_wp2_with fail
                        go_roundw
                        case rel => exact ⟨k + 1, _, by omega, by omega, by go_num, hlen2, hd8, hb8⟩
                        case measure => simp [intOf]; omega
          · have h4' : (kd == 4) = false := beq_eq_false_iff_ne.2 h4
            go_wp2_with fail
            rw [← HA.out, ← HX.out]
            refine (hda.left (PlainAt.framed p _) (Set_any wa t S key z hk64 hz64 (by omega))).mono ?_
            rintro e w4 ⟨rfl, hj4, hd4⟩
            have hBx4 := hj4.blk hBx (fun h => h.2 rfl)
            have c1 := hBx4.cell 1
            have c2 := hBx4.cell 2
            have hb4 := Below.trans hbla (hj4.below (B := w.heap.size) (fun b hb => hb.1) hbla.size)
            go_wp2_with fail
            refine (hd4.right (TimersAt.framed t _) (pset_any w4 p S key z hKS (by omega))).mono ?_
            rintro e w5 ⟨rfl, hj5, hd6⟩
            have hb6 := Below.trans hb4 (hj5.below (B := w.heap.size) (fun b hb => hb.1) hb4.size)
            have hlen2 : (setF (z, key) S).length ≤ k + 1 := by have := len_setF (z, key) S; omega
            clear hda hd4 hbla HA hBp hI2
            generalize hl2 : setF (z, key) S = l2 at hd6 hlen2
            clear hl2
            obtain ⟨_, V6, U6, hT6, hP6, _, hV6, hU6⟩ := id hd6
            obtain ⟨_, A2, c2, D2, hBp, hI2, _, _, _⟩ := id hP6
            go_wp2_with fail
            skip
            refine (Next_any w5 t l2 V6 hT6).mono ?_
            rintro e w3 ⟨rfl, hg3⟩
            cases l2 with
            | nil =>
              unfold firstV
              skip
              have hg4 : Grow w3 (w3.alloc (.cells #[.int .i64 0, .int .i64 0] 36)) := (Below.refl _ _).alloc (Nat.le_refl _) _
              have hBn := Blk.made w3 36 #[.int .i64 0, .int .i64 0]
              have hg5 := hg3.trans hg4
              have hT4 := TimersAt.framed _ _ _ (w3.alloc (.cells #[.int .i64 0, .int .i64 0] 36)) _ hT6 fun b hb => hg5.block b (hV6 b hb).2
              have hVn : ∀ b, V6 b → b < (w3.alloc (.cells #[.int .i64 0, .int .i64 0] 36)).heap.size := fun b hb => Nat.lt_of_lt_of_le (hV6 b hb).2 hg5.size
              have hd7 := (hd6.grow (TimersAt.framed t _) (PlainAt.framed p _) hg5).wide (P' := fun b => w.heap.size ≤ b) (fun b hb => hb.1)
              have hBp7 := hBp.grow hg5
              have hI7 := hI2.grow hg5
              obtain ⟨wn, HN⟩ : ∃ wn : World, Hid (wn = w3.alloc (.cells #[.int .i64 0, .int .i64 0] 36)) := ⟨_, rfl⟩
              obtain ⟨y, HY⟩ : ∃ y : Nat, Hid (y = w3.heap.size) := ⟨_, rfl⟩
              have hb7 : Below w.heap.size w wn := HN.out ▸ below_trans hb6 hg5 hb6.size
              rw [← HN.out] at hT4 hd7 hBn hBp7 hI7 hVn
              rw [← HY.out] at hBn
              have hlm : (([] : List It).length : Int) = 0 := rfl
              have hcp : ∀ w2, Grow wn w2 → w2.cell? ⟨p, 0, none⟩ = some (.slice A2 0 c2) := fun w2 hg => (hBp7.grow hg).cell 0
              have hcn0 : ∀ w2, Grow wn w2 → w2.cell? ⟨y, 0, none⟩ = some (.int .i64 0) := fun w2 hg => (hBn.grow hg).cell 0
              have hcn1 : ∀ w2, Grow wn w2 → w2.cell? ⟨y, 1, none⟩ = some (.int .i64 0) := fun w2 hg => (hBn.grow hg).cell 1
              have hT5 : ∀ w2, Grow wn w2 → TimersAt t ([] : List It) w2 V6 := fun w2 hg => TimersAt.framed _ _ _ _ _ hT4 fun b hb => hg.block b (hVn b hb)
              go_wp2_with fail
              rw [← HN.out, ← HY.out]
              clear hg4 hg5 hBn hT6 hP6 hV6 hU6 hT4 hBp7 hI7 hBp hI2
              refine wp_region_flow 40 164 [(1, .inl (.int .i64 0))] rfl rfl (by kernel_rfl) (by kernel_rfl) (by kernel_rfl) ?_ ?_
              · intro x hx φ he
                simp only [List.mem_cons, List.not_mem_nil, or_false] at hx
                rcases hx with rfl <;> cases he
              intro ops' A' K' T hops hA' hK hT
              refine fl_mv 122 (by rfl) (by decide) (wanted_none (by rfl)) (by rw [hK.out]; rfl) (by rfl) _ (Or.inl (by rfl)) (.pointer (some ⟨t, 0, none⟩)) (by rfl) ?_
              refine fl_call 123 (by rfl) (by decide) (wanted_none (by rfl)) (.int .i64 0) (by rw [hK.out]; rfl) 13 _ _ (by rfl) [.pointer (some ⟨t, 0, none⟩)] (by rfl) k13 (fun kk w1 (hg : Grow _ w1) hb hf => calls_behind (by rfl) (by exact grew_same (tLen_n (hT5 w1 hg) hlm))) ?_
              refine fl_mv 124 (by rfl) (by decide) (wanted_none (by rfl)) (by rw [hK.out]; rfl) (by rfl) _ (Or.inl (by rfl)) (.pointer (some ⟨p, 0, none⟩)) (by rfl) ?_
              refine fl_op1 125 (by rfl) (by decide) (wanted_none (by rfl)) (by rw [hK.out]; rfl) (by rfl) (.tmp 124) (.pointer (some ⟨p, 0, none⟩)) (by rfl) (.pointer (some ⟨p, 0, none⟩)) (fun ρ h1 kk w1 (hg : Grow _ w1) hb hf => by go_simp) ?_
              refine fl_op1 126 (by rfl) (by decide) (wanted_none (by rfl)) (by rw [hK.out]; rfl) (by rfl) (.tmp 125) (.pointer (some ⟨p, 0, none⟩)) (by rfl) (.pointer (some ⟨p, 0, none⟩)) (fun ρ h1 kk w1 (hg : Grow _ w1) hb hf => by go_simp) ?_
              refine fl_op1 127 (by rfl) (by decide) (wanted_none (by rfl)) (by rw [hK.out]; rfl) (by rfl) (.tmp 126) (.pointer (some ⟨p, 0, none⟩)) (by rfl) (.slice A2 0 c2) (fun ρ h1 kk w1 (hg : Grow _ w1) hb hf => by have c := hcp w1 hg; go_simp) ?_
              refine fl_op1 128 (by rfl) (by decide) (wanted_none (by rfl)) (by rw [hK.out]; rfl) (by rfl) (.tmp 127) (.slice A2 0 c2) (by rfl) (.int .i64 0) (fun ρ h1 kk w1 (hg : Grow _ w1) hb hf => by go_simp) ?_
              refine fl_op2 129 (by rfl) (by decide) (wanted_none (by rfl)) (by rw [hK.out]; rfl) (by rfl) (.tmp 123) (.tmp 128) (.int .i64 0) (.int .i64 0) (by rfl) (by rfl) (.bool false) (fun ρ h1 h2 kk w1 (hg : Grow _ w1) hb hf => by go_simp) ?_
              refine fl_mv 130 (by rfl) (by decide) (wanted_none (by rfl)) (by rw [hK.out]; rfl) (by rfl) _ (Or.inl (by rfl)) (.bool false) (by rfl) ?_
              refine fl_mv 131 (by rfl) (by decide) (wanted_if hops 8 false (by rfl) 130 (by rfl) false (by rfl)) (by rw [hK.out]; rfl) (by rfl) _ (Or.inl (by rfl)) (.bool false) (by rfl) ?_
              refine fl_mv 132 (by rfl) (by decide) (wanted_if hops 8 false (by rfl) 130 (by rfl) false (by rfl)) (by rw [hK.out]; rfl) (by rfl) _ (Or.inl (by rfl)) (.pointer (some ⟨p, 0, none⟩)) (by rfl) ?_
              refine fl_op1 133 (by rfl) (by decide) (wanted_if hops 8 false (by rfl) 130 (by rfl) false (by rfl)) (by rw [hK.out]; rfl) (by rfl) (.tmp 132) (.pointer (some ⟨p, 0, none⟩)) (by rfl) (.pointer (some ⟨p, 0, none⟩)) (fun ρ h1 kk w1 (hg : Grow _ w1) hb hf => by go_simp) ?_
              refine fl_op1 134 (by rfl) (by decide) (wanted_if hops 8 false (by rfl) 130 (by rfl) false (by rfl)) (by rw [hK.out]; rfl) (by rfl) (.tmp 133) (.pointer (some ⟨p, 0, none⟩)) (by rfl) (.pointer (some ⟨p, 0, none⟩)) (fun ρ h1 kk w1 (hg : Grow _ w1) hb hf => by go_simp) ?_
              refine fl_op1 135 (by rfl) (by decide) (wanted_if hops 8 false (by rfl) 130 (by rfl) false (by rfl)) (by rw [hK.out]; rfl) (by rfl) (.tmp 134) (.pointer (some ⟨p, 0, none⟩)) (by rfl) (.slice A2 0 c2) (fun ρ h1 kk w1 (hg : Grow _ w1) hb hf => by have c := hcp w1 hg; go_simp) ?_
              refine fl_op1 136 (by rfl) (by decide) (wanted_if hops 8 false (by rfl) 130 (by rfl) false (by rfl)) (by rw [hK.out]; rfl) (by rfl) (.tmp 135) (.slice A2 0 c2) (by rfl) (.int .i64 0) (fun ρ h1 kk w1 (hg : Grow _ w1) hb hf => by go_simp) ?_
              refine fl_op2 137 (by rfl) (by decide) (wanted_if hops 8 false (by rfl) 130 (by rfl) false (by rfl)) (by rw [hK.out]; rfl) (by rfl) (.tmp 136) (.const (.int .i64 0)) (.int .i64 0) (.int .i64 0) (by rfl) (by rfl) (.bool false) (fun ρ h1 h2 kk w1 (hg : Grow _ w1) hb hf => by go_simp) ?_
              refine fl_op2 138 (by rfl) (by decide) (wanted_if hops 8 false (by rfl) 130 (by rfl) false (by rfl)) (by rw [hK.out]; rfl) (by rfl) (.tmp 131) (.tmp 137) (.bool false) (.bool false) (by rfl) (by rfl) (.bool false) (fun ρ h1 h2 kk w1 (hg : Grow _ w1) hb hf => by go_simp) ?_
              refine fl_pick 139 (by rfl) (by decide) (wanted_none (by rfl)) (by rw [hK.out]; rfl) (by rfl) _ _ _ (by rfl) false (by rfl) (.bool false) (by rfl) ?_
              refine fl_mv 140 (by rfl) (by decide) (wanted_none (by rfl)) (by rw [hK.out]; rfl) (by rfl) _ (Or.inl (by rfl)) (.bool false) (by rfl) ?_
              refine fl_mv 141 (by rfl) (by decide) (wanted_if hops 18 false (by rfl) 140 (by rfl) false (by rfl)) (by rw [hK.out]; rfl) (by rfl) _ (Or.inl (by rfl)) (.bool false) (by rfl) ?_
              refine fl_mv 142 (by rfl) (by decide) (wanted_if hops 18 false (by rfl) 140 (by rfl) false (by rfl)) (by rw [hK.out]; rfl) (by rfl) _ (Or.inl (by rfl)) (.bool false) (by rfl) ?_
              refine fl_skip 143 (by rfl) (by decide) (wanted_if hops 20 true (by rfl) 142 (by rfl) false (by rfl)) (by rfl) ?_
              refine fl_skip 144 (by rfl) (by decide) (wanted_if hops 20 true (by rfl) 142 (by rfl) false (by rfl)) (by rfl) ?_
              refine fl_skip 145 (by rfl) (by decide) (wanted_if hops 20 true (by rfl) 142 (by rfl) false (by rfl)) (by rfl) ?_
              refine fl_skip 146 (by rfl) (by decide) (wanted_if hops 20 true (by rfl) 142 (by rfl) false (by rfl)) (by rfl) ?_
              refine fl_skip 147 (by rfl) (by decide) (wanted_if hops 20 true (by rfl) 142 (by rfl) false (by rfl)) (by rfl) ?_
              refine fl_skip 148 (by rfl) (by decide) (wanted_if hops 20 true (by rfl) 142 (by rfl) false (by rfl)) (by rfl) ?_
              refine fl_skip 149 (by rfl) (by decide) (wanted_if hops 20 true (by rfl) 142 (by rfl) false (by rfl)) (by rfl) ?_
              refine fl_skip 150 (by rfl) (by decide) (wanted_if hops 20 true (by rfl) 142 (by rfl) false (by rfl)) (by rfl) ?_
              refine fl_pick 151 (by rfl) (by decide) (wanted_if hops 18 false (by rfl) 140 (by rfl) false (by rfl)) (by rw [hK.out]; rfl) (by rfl) _ _ _ (by rfl) false (by rfl) (.bool false) (by rfl) ?_
              refine fl_pick 152 (by rfl) (by decide) (wanted_none (by rfl)) (by rw [hK.out]; rfl) (by rfl) _ _ _ (by rfl) false (by rfl) (.bool false) (by rfl) ?_
              refine fl_mv 153 (by rfl) (by decide) (wanted_none (by rfl)) (by rw [hK.out]; rfl) (by rfl) _ (Or.inl (by rfl)) (.bool false) (by rfl) ?_
              refine fl_mv 154 (by rfl) (by decide) (wanted_if hops 31 false (by rfl) 153 (by rfl) false (by rfl)) (by rw [hK.out]; rfl) (by rfl) _ (Or.inl (by rfl)) (.bool false) (by rfl) ?_
              refine fl_op1 155 (by rfl) (by decide) (wanted_if hops 31 false (by rfl) 153 (by rfl) false (by rfl)) (by rw [hK.out]; rfl) (by rfl) (.tmp 154) (.bool false) (by rfl) (.bool true) (fun ρ h1 kk w1 (hg : Grow _ w1) hb hf => by go_simp) ?_
              refine fl_mv 156 (by rfl) (by decide) (wanted_if hops 31 false (by rfl) 153 (by rfl) false (by rfl)) (by rw [hK.out]; rfl) (by rfl) _ (Or.inl (by rfl)) (.bool true) (by rfl) ?_
              refine fl_op1 157 (by rfl) (by decide) (wanted_if hops 34 true (by rfl) 156 (by rfl) true (by rfl)) (by rw [hK.out]; rfl) (by rfl) (.tmp 10) (.pointer (some ⟨y, 0, none⟩)) (by rfl) (.agg #[.int .i64 0, .int .i64 0]) (fun ρ h1 kk w1 (hg : Grow _ w1) hb hf => by have c := hcn0 w1 hg; have c1 := hcn1 w1 hg; go_simp) ?_
              refine fl_det 158 (by rfl) (by decide) (wanted_if hops 34 true (by rfl) 156 (by rfl) true (by rfl)) (by rw [hK.out]; rfl) (by rfl) (.agg #[.int .i64 0, .int .i64 0]) (fun kk w1 (hg : Grow _ w1) hb hf => by go_simp) ?_
              refine fl_op2 159 (by rfl) (by decide) (wanted_if hops 34 true (by rfl) 156 (by rfl) true (by rfl)) (by rw [hK.out]; rfl) (by rfl) (.tmp 157) (.tmp 158) (.agg #[.int .i64 0, .int .i64 0]) (.agg #[.int .i64 0, .int .i64 0]) (by rfl) (by rfl) (.bool false) (fun ρ h1 h2 kk w1 (hg : Grow _ w1) hb hf => by go_simp) ?_
              refine fl_pick 160 (by rfl) (by decide) (wanted_if hops 31 false (by rfl) 153 (by rfl) false (by rfl)) (by rw [hK.out]; rfl) (by rfl) _ _ _ (by rfl) true (by rfl) (.bool false) (by rfl) ?_
              refine fl_pick 161 (by rfl) (by decide) (wanted_none (by rfl)) (by rw [hK.out]; rfl) (by rfl) _ _ _ (by rfl) false (by rfl) (.bool false) (by rfl) ?_
              refine fl_end (fun _ _ w1 (hg : Grow _ w1) _ hfacts => hT _ _ ?_)
              clear hops hA' hK hT
              simp only [putsL, Act.put, List.setIfInBounds_toArray, List.set_cons_zero, List.set_cons_succ, List.drop_succ_cons, List.drop_zero]
              clear hfacts
              have hd8 := hd7.grow (TimersAt.framed t _) (PlainAt.framed p _) hg
              have hb8 := below_trans hb7 hg hb7.size
              go_wp2_with fail
              go_roundw
              case rel => exact ⟨k + 1, _, by omega, by omega, by go_num, hlen2, hd8, hb8⟩
              case measure => simp [intOf]; omega
            | cons a l =>
              unfold firstV
              obtain ⟨a1, a2⟩ := a
              have hg4 : Grow w3 (w3.alloc (.cells #[.int .i64 a1, .int .i64 a2] 36)) := (Below.refl _ _).alloc (Nat.le_refl _) _
              have hBn := Blk.made w3 36 #[.int .i64 a1, .int .i64 a2]
              have hg5 := hg3.trans hg4
              have hT4 := TimersAt.framed _ _ _ (w3.alloc (.cells #[.int .i64 a1, .int .i64 a2] 36)) _ hT6 fun b hb => hg5.block b (hV6 b hb).2
              have hVn : ∀ b, V6 b → b < (w3.alloc (.cells #[.int .i64 a1, .int .i64 a2] 36)).heap.size := fun b hb => Nat.lt_of_lt_of_le (hV6 b hb).2 hg5.size
              have hd7 := (hd6.grow (TimersAt.framed t _) (PlainAt.framed p _) hg5).wide (P' := fun b => w.heap.size ≤ b) (fun b hb => hb.1)
              have hBp7 := hBp.grow hg5
              have hI7 := hI2.grow hg5
              obtain ⟨wn, HN⟩ : ∃ wn : World, Hid (wn = w3.alloc (.cells #[.int .i64 a1, .int .i64 a2] 36)) := ⟨_, rfl⟩
              obtain ⟨y, HY⟩ : ∃ y : Nat, Hid (y = w3.heap.size) := ⟨_, rfl⟩
              have hb7 : Below w.heap.size w wn := HN.out ▸ below_trans hb6 hg5 hb6.size
              rw [← HN.out] at hT4 hd7 hBn hBp7 hI7 hVn
              rw [← HY.out] at hBn
              obtain ⟨m, HM⟩ : ∃ m : Nat, Hid (m = ((a1, a2) :: l).length) := ⟨_, rfl⟩
              have hlm : (((a1, a2) :: l).length : Int) = (m : Int) := by rw [HM.out]
              have hm0 : 0 < m := by rw [HM.out]; simp
              obtain ⟨ad6, rfl, _, hadB, e0, e1⟩ := itc_rec hI7 (k := 0) (by simp)
              have hh0 : hat ((a1, a2) :: l) 0 = (a1, a2) := rfl
              rw [hh0] at e0 e1
              simp only [Nat.zero_mul, Addr.add_zero'] at e0 e1
              rw [← HM.out] at hBp7
              have he0 : ∀ w2, Grow wn w2 → w2.cell? ad6 = some (.int .i64 a1) := fun w2 hg => (hg.cell hadB).trans e0
              have he1 : ∀ w2, Grow wn w2 → w2.cell? ⟨ad6.block, ad6.off + 1, none⟩ = some (.int .i64 a2) := fun w2 hg => (hg.cell (p := ⟨ad6.block, ad6.off + 1, none⟩) hadB).trans e1
              have hcp : ∀ w2, Grow wn w2 → w2.cell? ⟨p, 0, none⟩ = some (.slice (some ad6) m c2) := fun w2 hg => (hBp7.grow hg).cell 0
              have hcn0 : ∀ w2, Grow wn w2 → w2.cell? ⟨y, 0, none⟩ = some (.int .i64 a1) := fun w2 hg => (hBn.grow hg).cell 0
              have hcn1 : ∀ w2, Grow wn w2 → w2.cell? ⟨y, 1, none⟩ = some (.int .i64 a2) := fun w2 hg => (hBn.grow hg).cell 1
              have hT5 : ∀ w2, Grow wn w2 → TimersAt t ((a1, a2) :: l) w2 V6 := fun w2 hg => TimersAt.framed _ _ _ _ _ hT4 fun b hb => hg.block b (hVn b hb)
              go_wp2_with fail
              rw [← HN.out, ← HY.out]
              clear hg4 hg5 hBn hT6 hP6 hV6 hU6 hT4 hBp7 hI7 hBp hI2
              refine wp_region_flow 40 164 [(1, .inl (.int .i64 (m : Int)))] rfl rfl (by kernel_rfl) (by kernel_rfl) (by kernel_rfl) ?_ ?_
              · intro x hx φ he
                simp only [List.mem_cons, List.not_mem_nil, or_false] at hx
                rcases hx with rfl <;> cases he
              intro ops' A' K' T hops hA' hK hT
              refine fl_mv 122 (by rfl) (by decide) (wanted_none (by rfl)) (by rw [hK.out]; rfl) (by rfl) _ (Or.inl (by rfl)) (.pointer (some ⟨t, 0, none⟩)) (by rfl) ?_
              refine fl_call 123 (by rfl) (by decide) (wanted_none (by rfl)) (.int .i64 (m : Int)) (by rw [hK.out]; rfl) 13 _ _ (by rfl) [.pointer (some ⟨t, 0, none⟩)] (by rfl) k13 (fun kk w1 (hg : Grow _ w1) hb hf => calls_behind (by rfl) (by exact grew_same (tLen_n (hT5 w1 hg) hlm))) ?_
              refine fl_mv 124 (by rfl) (by decide) (wanted_none (by rfl)) (by rw [hK.out]; rfl) (by rfl) _ (Or.inl (by rfl)) (.pointer (some ⟨p, 0, none⟩)) (by rfl) ?_
              refine fl_op1 125 (by rfl) (by decide) (wanted_none (by rfl)) (by rw [hK.out]; rfl) (by rfl) (.tmp 124) (.pointer (some ⟨p, 0, none⟩)) (by rfl) (.pointer (some ⟨p, 0, none⟩)) (fun ρ h1 kk w1 (hg : Grow _ w1) hb hf => by go_simp) ?_
              refine fl_op1 126 (by rfl) (by decide) (wanted_none (by rfl)) (by rw [hK.out]; rfl) (by rfl) (.tmp 125) (.pointer (some ⟨p, 0, none⟩)) (by rfl) (.pointer (some ⟨p, 0, none⟩)) (fun ρ h1 kk w1 (hg : Grow _ w1) hb hf => by go_simp) ?_
              refine fl_op1 127 (by rfl) (by decide) (wanted_none (by rfl)) (by rw [hK.out]; rfl) (by rfl) (.tmp 126) (.pointer (some ⟨p, 0, none⟩)) (by rfl) (.slice (some ad6) m c2) (fun ρ h1 kk w1 (hg : Grow _ w1) hb hf => by have c := hcp w1 hg; go_simp) ?_
              refine fl_op1 128 (by rfl) (by decide) (wanted_none (by rfl)) (by rw [hK.out]; rfl) (by rfl) (.tmp 127) (.slice (some ad6) m c2) (by rfl) (.int .i64 (m : Int)) (fun ρ h1 kk w1 (hg : Grow _ w1) hb hf => by go_simp) ?_
              refine fl_op2 129 (by rfl) (by decide) (wanted_none (by rfl)) (by rw [hK.out]; rfl) (by rfl) (.tmp 123) (.tmp 128) (.int .i64 (m : Int)) (.int .i64 (m : Int)) (by rfl) (by rfl) (.bool false) (fun ρ h1 h2 kk w1 (hg : Grow _ w1) hb hf => by go_simp) ?_
              refine fl_mv 130 (by rfl) (by decide) (wanted_none (by rfl)) (by rw [hK.out]; rfl) (by rfl) _ (Or.inl (by rfl)) (.bool false) (by rfl) ?_
              refine fl_mv 131 (by rfl) (by decide) (wanted_if hops 8 false (by rfl) 130 (by rfl) false (by rfl)) (by rw [hK.out]; rfl) (by rfl) _ (Or.inl (by rfl)) (.bool true) (by rfl) ?_
              refine fl_mv 132 (by rfl) (by decide) (wanted_if hops 8 false (by rfl) 130 (by rfl) false (by rfl)) (by rw [hK.out]; rfl) (by rfl) _ (Or.inl (by rfl)) (.pointer (some ⟨p, 0, none⟩)) (by rfl) ?_
              refine fl_op1 133 (by rfl) (by decide) (wanted_if hops 8 false (by rfl) 130 (by rfl) false (by rfl)) (by rw [hK.out]; rfl) (by rfl) (.tmp 132) (.pointer (some ⟨p, 0, none⟩)) (by rfl) (.pointer (some ⟨p, 0, none⟩)) (fun ρ h1 kk w1 (hg : Grow _ w1) hb hf => by go_simp) ?_
              refine fl_op1 134 (by rfl) (by decide) (wanted_if hops 8 false (by rfl) 130 (by rfl) false (by rfl)) (by rw [hK.out]; rfl) (by rfl) (.tmp 133) (.pointer (some ⟨p, 0, none⟩)) (by rfl) (.pointer (some ⟨p, 0, none⟩)) (fun ρ h1 kk w1 (hg : Grow _ w1) hb hf => by go_simp) ?_
              refine fl_op1 135 (by rfl) (by decide) (wanted_if hops 8 false (by rfl) 130 (by rfl) false (by rfl)) (by rw [hK.out]; rfl) (by rfl) (.tmp 134) (.pointer (some ⟨p, 0, none⟩)) (by rfl) (.slice (some ad6) m c2) (fun ρ h1 kk w1 (hg : Grow _ w1) hb hf => by have c := hcp w1 hg; go_simp) ?_
              refine fl_op1 136 (by rfl) (by decide) (wanted_if hops 8 false (by rfl) 130 (by rfl) false (by rfl)) (by rw [hK.out]; rfl) (by rfl) (.tmp 135) (.slice (some ad6) m c2) (by rfl) (.int .i64 (m : Int)) (fun ρ h1 kk w1 (hg : Grow _ w1) hb hf => by go_simp) ?_
              refine fl_op2 137 (by rfl) (by decide) (wanted_if hops 8 false (by rfl) 130 (by rfl) false (by rfl)) (by rw [hK.out]; rfl) (by rfl) (.tmp 136) (.const (.int .i64 0)) (.int .i64 (m : Int)) (.int .i64 0) (by rfl) (by rfl) (.bool true) (fun ρ h1 h2 kk w1 (hg : Grow _ w1) hb hf => by go_simp) ?_
              refine fl_op2 138 (by rfl) (by decide) (wanted_if hops 8 false (by rfl) 130 (by rfl) false (by rfl)) (by rw [hK.out]; rfl) (by rfl) (.tmp 131) (.tmp 137) (.bool true) (.bool true) (by rfl) (by rfl) (.bool false) (fun ρ h1 h2 kk w1 (hg : Grow _ w1) hb hf => by go_simp) ?_
              refine fl_pick 139 (by rfl) (by decide) (wanted_none (by rfl)) (by rw [hK.out]; rfl) (by rfl) _ _ _ (by rfl) false (by rfl) (.bool false) (by rfl) ?_
              refine fl_mv 140 (by rfl) (by decide) (wanted_none (by rfl)) (by rw [hK.out]; rfl) (by rfl) _ (Or.inl (by rfl)) (.bool false) (by rfl) ?_
              refine fl_mv 141 (by rfl) (by decide) (wanted_if hops 18 false (by rfl) 140 (by rfl) false (by rfl)) (by rw [hK.out]; rfl) (by rfl) _ (Or.inl (by rfl)) (.bool true) (by rfl) ?_
              refine fl_mv 142 (by rfl) (by decide) (wanted_if hops 18 false (by rfl) 140 (by rfl) false (by rfl)) (by rw [hK.out]; rfl) (by rfl) _ (Or.inl (by rfl)) (.bool true) (by rfl) ?_
              refine fl_op1 143 (by rfl) (by decide) (wanted_if hops 20 true (by rfl) 142 (by rfl) true (by rfl)) (by rw [hK.out]; rfl) (by rfl) (.tmp 10) (.pointer (some ⟨y, 0, none⟩)) (by rfl) (.agg #[.int .i64 a1, .int .i64 a2]) (fun ρ h1 kk w1 (hg : Grow _ w1) hb hf => by have c := hcn0 w1 hg; have c1 := hcn1 w1 hg; go_simp) ?_
              refine fl_mv 144 (by rfl) (by decide) (wanted_if hops 20 true (by rfl) 142 (by rfl) true (by rfl)) (by rw [hK.out]; rfl) (by rfl) _ (Or.inl (by rfl)) (.pointer (some ⟨p, 0, none⟩)) (by rfl) ?_
              refine fl_op1 145 (by rfl) (by decide) (wanted_if hops 20 true (by rfl) 142 (by rfl) true (by rfl)) (by rw [hK.out]; rfl) (by rfl) (.tmp 144) (.pointer (some ⟨p, 0, none⟩)) (by rfl) (.pointer (some ⟨p, 0, none⟩)) (fun ρ h1 kk w1 (hg : Grow _ w1) hb hf => by go_simp) ?_
              refine fl_op1 146 (by rfl) (by decide) (wanted_if hops 20 true (by rfl) 142 (by rfl) true (by rfl)) (by rw [hK.out]; rfl) (by rfl) (.tmp 145) (.pointer (some ⟨p, 0, none⟩)) (by rfl) (.pointer (some ⟨p, 0, none⟩)) (fun ρ h1 kk w1 (hg : Grow _ w1) hb hf => by go_simp) ?_
              refine fl_op1 147 (by rfl) (by decide) (wanted_if hops 20 true (by rfl) 142 (by rfl) true (by rfl)) (by rw [hK.out]; rfl) (by rfl) (.tmp 146) (.pointer (some ⟨p, 0, none⟩)) (by rfl) (.slice (some ad6) m c2) (fun ρ h1 kk w1 (hg : Grow _ w1) hb hf => by have c := hcp w1 hg; go_simp) ?_
              refine fl_op2 148 (by rfl) (by decide) (wanted_if hops 20 true (by rfl) 142 (by rfl) true (by rfl)) (by rw [hK.out]; rfl) (by rfl) (.tmp 147) (.const (.int .i64 0)) (.slice (some ad6) m c2) (.int .i64 0) (by rfl) (by rfl) (.pointer (some ad6)) (fun ρ h1 h2 kk w1 (hg : Grow _ w1) hb hf => by go_simp; try (intro hlt; omega)) ?_
              refine fl_op1 149 (by rfl) (by decide) (wanted_if hops 20 true (by rfl) 142 (by rfl) true (by rfl)) (by rw [hK.out]; rfl) (by rfl) (.tmp 148) (.pointer (some ad6)) (by rfl) (.agg #[.int .i64 a1, .int .i64 a2]) (fun ρ h1 kk w1 (hg : Grow _ w1) hb hf => by have c := he0 w1 hg; have c1 := he1 w1 hg; go_simp) ?_
              refine fl_op2 150 (by rfl) (by decide) (wanted_if hops 20 true (by rfl) 142 (by rfl) true (by rfl)) (by rw [hK.out]; rfl) (by rfl) (.tmp 143) (.tmp 149) (.agg #[.int .i64 a1, .int .i64 a2]) (.agg #[.int .i64 a1, .int .i64 a2]) (by rfl) (by rfl) (.bool false) (fun ρ h1 h2 kk w1 (hg : Grow _ w1) hb hf => by go_simp) ?_
              refine fl_pick 151 (by rfl) (by decide) (wanted_if hops 18 false (by rfl) 140 (by rfl) false (by rfl)) (by rw [hK.out]; rfl) (by rfl) _ _ _ (by rfl) true (by rfl) (.bool false) (by rfl) ?_
              refine fl_pick 152 (by rfl) (by decide) (wanted_none (by rfl)) (by rw [hK.out]; rfl) (by rfl) _ _ _ (by rfl) false (by rfl) (.bool false) (by rfl) ?_
              refine fl_mv 153 (by rfl) (by decide) (wanted_none (by rfl)) (by rw [hK.out]; rfl) (by rfl) _ (Or.inl (by rfl)) (.bool false) (by rfl) ?_
              refine fl_mv 154 (by rfl) (by decide) (wanted_if hops 31 false (by rfl) 153 (by rfl) false (by rfl)) (by rw [hK.out]; rfl) (by rfl) _ (Or.inl (by rfl)) (.bool true) (by rfl) ?_
              refine fl_op1 155 (by rfl) (by decide) (wanted_if hops 31 false (by rfl) 153 (by rfl) false (by rfl)) (by rw [hK.out]; rfl) (by rfl) (.tmp 154) (.bool true) (by rfl) (.bool false) (fun ρ h1 kk w1 (hg : Grow _ w1) hb hf => by go_simp) ?_
              refine fl_mv 156 (by rfl) (by decide) (wanted_if hops 31 false (by rfl) 153 (by rfl) false (by rfl)) (by rw [hK.out]; rfl) (by rfl) _ (Or.inl (by rfl)) (.bool false) (by rfl) ?_
              refine fl_skip 157 (by rfl) (by decide) (wanted_if hops 34 true (by rfl) 156 (by rfl) false (by rfl)) (by rfl) ?_
              refine fl_skip 158 (by rfl) (by decide) (wanted_if hops 34 true (by rfl) 156 (by rfl) false (by rfl)) (by rfl) ?_
              refine fl_skip 159 (by rfl) (by decide) (wanted_if hops 34 true (by rfl) 156 (by rfl) false (by rfl)) (by rfl) ?_
              refine fl_pick 160 (by rfl) (by decide) (wanted_if hops 31 false (by rfl) 153 (by rfl) false (by rfl)) (by rw [hK.out]; rfl) (by rfl) _ _ _ (by rfl) false (by rfl) (.bool false) (by rfl) ?_
              refine fl_pick 161 (by rfl) (by decide) (wanted_none (by rfl)) (by rw [hK.out]; rfl) (by rfl) _ _ _ (by rfl) false (by rfl) (.bool false) (by rfl) ?_
              refine fl_end (fun _ _ w1 (hg : Grow _ w1) _ hfacts => hT _ _ ?_)
              clear hops hA' hK hT
              simp only [putsL, Act.put, List.setIfInBounds_toArray, List.set_cons_zero, List.set_cons_succ, List.drop_succ_cons, List.drop_zero]
              clear hfacts
              have hd8 := hd7.grow (TimersAt.framed t _) (PlainAt.framed p _) hg
              have hb8 := below_trans hb7 hg hb7.size
              go_wp2_with fail
              go_roundw
              case rel => exact ⟨k + 1, _, by omega, by omega, by go_num, hlen2, hd8, hb8⟩
              case measure => simp [intOf]; omega
      · obtain rfl : k = 150 := by omega
        go_wp2_with fail
        go_ret
        exact ⟨rfl, hbl⟩
    · skip
      go_wp2_with fail
      go_ret
      exact ⟨rfl, hbl⟩
end Go.Proofs.Ytjjafpgpnmdjlaa
