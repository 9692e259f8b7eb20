/- Batches of both kinds that are alike; the answer's reads. -/
import Derived.Test.YtnlfkeajolfboaaCmp
namespace Go.Proofs.Ytnlfkeajolfboaa
open Go.RowKit Go.Hop
/-- batches by pointers -/
structure PBats (w : World) (D : Nat → Prop) (A : Option Addr) (n : Nat) (ps : List PB) : Prop where
  row : In w D 1 A n (ps.flatMap PB.cells)
  all : ∀ x ∈ ps, PBIn w D x
theorem PBats.len {w : World} {D : Nat → Prop} {A : Option Addr} {n : Nat} {ps : List PB} (h : PBats w D A n ps) : ps.length = n := by
  have := h.row.1; rw [pbs_len] at this; omega
theorem PBats.grow {w w' : World} {D : Nat → Prop} {A : Option Addr} {n : Nat} {ps : List PB} (h : PBats w D A n ps) (hg : Grow w w') : PBats w' D A n ps := ⟨h.row.grow hg, fun x hx => (h.all x hx).grow hg⟩
theorem PBats.take {w : World} {D : Nat → Prop} {A : Option Addr} {n k : Nat} {ps : List PB} (h : PBats w D A n ps) (hk : k ≤ n) : PBats w D A k (ps.take k) := by
  refine ⟨?_, fun b hb => h.all b (List.mem_of_mem_take hb)⟩
  have := h.row.take hk
  rwa [flat_take PB.cells 1 pb_len ps k] at this
theorem RQAt.bats {g : Nat} {l : List Ab} {last : Int} {w : World} {V : Nat → Prop} (h : RQAt g l last w V) :
    ∃ A c ps, Hid (ps.map PB.abs = l) ∧ Hid (l.length = ps.length) ∧ ps.length ≤ 16 ∧ Blk w g 57 #[.slice A ps.length c, .int .i64 last] ∧ PBats w V A ps.length ps ∧ ps.length ≤ c ∧ c ≤ maxLen := by
  obtain ⟨h1, A, c, ps, D, rfl, h3, hB, hI, hnc, hcm, h8, h9⟩ := h
  exact ⟨A, c, ps, Lib.hid rfl, Lib.hid (List.length_map ..), h3, hB, ⟨hI.mono fun b hb => (h9 b hb).1, fun x hx => (h8 x hx).mono fun b hb => (h9 b hb).1⟩, hnc, hcm⟩
set_option maxRecDepth 20000 in
theorem batches_any (w : World) (V D U : Nat → Prop) (A A' : Option Addr) (n c n' c' : Nat) (q : List Bat) (ps : List PB) (h : Bats w V D A n q) (h' : PBats w U A' n' ps) (he : q.map Bat.abs = ps.map PB.abs) (hn : n ≤ 1024) :
    Calls Try.prog 23 #[.slice A n c, .slice A' n' c'] w fun e w' => e = .returned (.bool true) ∧ Grow w w' := by
  obtain rfl : n' = n := by
    have := congrArg List.length he
    rw [List.length_map, List.length_map, h.len, h'.len] at this
    exact this.symm
  have hql := h.len
  have hpl := h'.len
  have k28 : ∀ (vs : Array Value) (w : World), (callFunc 28 vs).run Try.prog w = .ok (.enter 28 vs) w := fun vs w => by go_simp
  go_enter Try.func23, Try.ntmps23
  go_wp2_with fail
  go_loopw [13] (fun i wr => ∃ k : Nat, k ≤ n' ∧ i = .int .i64 k ∧ Grow w wr) (fun i _ => n' - (intOf i).toNat)
  case atStart => exact ⟨0, by omega, rfl, Grow.refl _⟩
  case round =>
    obtain ⟨k, hkn, rfl, hgr⟩ := hrel
    by_cases hk : k < n'
    · have hcell : ∃ (sq : Int) (p : Nat) (ad ad' : Addr) (Ab Ac : Option Addr) (mb cb mc cc : Nat) (ds : List Dl), A = some ad ∧ A' = some ad' ∧ (∀ w1, Grow wr w1 → w1.cell? (ad.add (k * 2)) = some (.int .i64 sq)) ∧ (∀ w1, Grow wr w1 → w1.cell? ⟨(ad.add (k * 2)).block, (ad.add (k * 2)).off + 1, none⟩ = some (.slice Ab mb cb)) ∧
          (∀ w1, Grow wr w1 → w1.cell? (ad'.add k) = some (.pointer (some ⟨p, 0, none⟩))) ∧ Blk wr p 64 #[.int .i64 sq, .slice Ac mc cc, .bool false, .int .i64 0, .int .i64 0] ∧ DIn wr D Ab mb ds ∧ DIn wr U Ac mc ds ∧ mb ≤ 8 := by
        obtain ⟨ad, hq, e1, _, _, _, _⟩ := h.row.rec_ (by omega) bat_len hk
        obtain ⟨ad', hp, e2, _, _, _, _⟩ := h'.row.rec_ (by omega) pb_len hk
        have hb := (h.all _ (List.getElem_mem hq)).grow hgr
        have hx := (h'.all _ (List.getElem_mem hp)).grow hgr
        have hab : q[k].abs = ps[k].abs := by
          have h3 : (q.map Bat.abs)[k]? = some q[k].abs := by rw [List.getElem?_map, List.getElem?_eq_getElem hq]; rfl
          have h4 : (ps.map PB.abs)[k]? = some ps[k].abs := by rw [List.getElem?_map, List.getElem?_eq_getElem hp]; rfl
          rw [he, h4] at h3
          injection h3 with h3
          exact h3.symm
        have hs : q[k].seq = ps[k].b.seq := congrArg (·.1) hab
        have hdd : q[k].ds = ps[k].b.ds := congrArg (·.2) hab
        refine ⟨q[k].seq, ps[k].p, ad, ad', q[k].A, ps[k].b.A, q[k].m, q[k].c, ps[k].b.m, ps[k].b.c, q[k].ds, e1, e2, fun w1 hg => ?_, fun w1 hg => ?_, fun w1 hg => ?_, by rw [hs]; exact hx.blk, hb.ds, by rw [hdd]; exact hx.bat.ds, hb.small⟩
        · obtain ⟨a, _, e, _, _, c0, _⟩ := (h.row.grow (hgr.trans hg)).rec_ (by omega) bat_len hk
          rw [e1] at e; injection e with e; rw [e]; exact c0 _ rfl
        · obtain ⟨a, _, e, _, _, _, c1⟩ := (h.row.grow (hgr.trans hg)).rec_ (by omega) bat_len hk
          rw [e1] at e; injection e with e; rw [e]; exact c1 0 _ rfl
        · obtain ⟨a, _, e, _, _, c0, _⟩ := (h'.row.grow (hgr.trans hg)).rec_ (by omega) pb_len hk
          rw [e2] at e; injection e with e; rw [e]
          have := c0 _ rfl
          rwa [Nat.mul_one] at this
      obtain ⟨sq, p, ad, ad', Ab, Ac, mb, cb, mc, cc, ds, rfl, rfl, e0, e1, f0, hBp, hd1, hd2, hm8⟩ := hcell
      go_wp2_with fail
      refine wp_region_flow 29 46 [(26, .inl (.bool true))] rfl rfl (by kernel_rfl) (by kernel_rfl) (by kernel_rfl) ?_ ?_
      · intro x hx φ he
        simp only [List.mem_cons, List.not_mem_nil, or_false] at hx
        rcases hx with rfl <;> cases he
      intro ops' A' K' T hops hA' hK hT
      refine fl_mv 16 (by rfl) (by decide) (wanted_none (by rfl)) (by rw [hK.out]; rfl) (by rfl) _ (Or.inl (by rfl)) (.slice (some ad) n' c) (by rfl) ?_
      refine fl_mv 17 (by rfl) (by decide) (wanted_none (by rfl)) (by rw [hK.out]; rfl) (by rfl) _ (Or.inl (by rfl)) (.int .i64 (k : Int)) (by rfl) ?_
      refine fl_op2 18 (by rfl) (by decide) (wanted_none (by rfl)) (by rw [hK.out]; rfl) (by rfl) (.tmp 16) (.tmp 17) (.slice (some ad) n' c) (.int .i64 (k : Int)) (by rfl) (by rfl) (.pointer (some (ad.add (k * 2)))) (fun ρ h1 h2 kk w1 (hg : Grow _ w1) hb hf => by go_simp) ?_
      refine fl_op1 19 (by rfl) (by decide) (wanted_none (by rfl)) (by rw [hK.out]; rfl) (by rfl) (.tmp 18) (.pointer (some (ad.add (k * 2)))) (by rfl) (.pointer (some (ad.add (k * 2)))) (fun ρ h1 kk w1 (hg : Grow _ w1) hb hf => by go_simp) ?_
      refine fl_op1 20 (by rfl) (by decide) (wanted_none (by rfl)) (by rw [hK.out]; rfl) (by rfl) (.tmp 19) (.pointer (some (ad.add (k * 2)))) (by rfl) (.int .i64 sq) (fun ρ h1 kk w1 (hg : Grow _ w1) hb hf => by have c := e0 _ hg; go_simp) ?_
      refine fl_mv 21 (by rfl) (by decide) (wanted_none (by rfl)) (by rw [hK.out]; rfl) (by rfl) _ (Or.inl (by rfl)) (.slice (some ad') n' c') (by rfl) ?_
      refine fl_mv 22 (by rfl) (by decide) (wanted_none (by rfl)) (by rw [hK.out]; rfl) (by rfl) _ (Or.inl (by rfl)) (.int .i64 (k : Int)) (by rfl) ?_
      refine fl_op2 23 (by rfl) (by decide) (wanted_none (by rfl)) (by rw [hK.out]; rfl) (by rfl) (.tmp 21) (.tmp 22) (.slice (some ad') n' c') (.int .i64 (k : Int)) (by rfl) (by rfl) (.pointer (some (ad'.add k))) (fun ρ h1 h2 kk w1 (hg : Grow _ w1) hb hf => by go_simp) ?_
      refine fl_op1 24 (by rfl) (by decide) (wanted_none (by rfl)) (by rw [hK.out]; rfl) (by rfl) (.tmp 23) (.pointer (some (ad'.add k))) (by rfl) (.pointer (some ⟨p, 0, none⟩)) (fun ρ h1 kk w1 (hg : Grow _ w1) hb hf => by have c := f0 _ hg; go_simp) ?_
      refine fl_op1 25 (by rfl) (by decide) (wanted_none (by rfl)) (by rw [hK.out]; rfl) (by rfl) (.tmp 24) (.pointer (some ⟨p, 0, none⟩)) (by rfl) (.pointer (some ⟨p, 0, none⟩)) (fun ρ h1 kk w1 (hg : Grow _ w1) hb hf => by go_simp) ?_
      refine fl_op1 26 (by rfl) (by decide) (wanted_none (by rfl)) (by rw [hK.out]; rfl) (by rfl) (.tmp 25) (.pointer (some ⟨p, 0, none⟩)) (by rfl) (.pointer (some ⟨p, 0, none⟩)) (fun ρ h1 kk w1 (hg : Grow _ w1) hb hf => by go_simp) ?_
      refine fl_op1 27 (by rfl) (by decide) (wanted_none (by rfl)) (by rw [hK.out]; rfl) (by rfl) (.tmp 26) (.pointer (some ⟨p, 0, none⟩)) (by rfl) (.int .i64 sq) (fun ρ h1 kk w1 (hg : Grow _ w1) hb hf => by have c := (hBp.grow hg).cell 0; go_simp) ?_
      refine fl_op2 28 (by rfl) (by decide) (wanted_none (by rfl)) (by rw [hK.out]; rfl) (by rfl) (.tmp 20) (.tmp 27) (.int .i64 sq) (.int .i64 sq) (by rfl) (by rfl) (.bool false) (fun ρ h1 h2 kk w1 (hg : Grow _ w1) hb hf => by go_simp) ?_
      refine fl_mv 29 (by rfl) (by decide) (wanted_none (by rfl)) (by rw [hK.out]; rfl) (by rfl) _ (Or.inl (by rfl)) (.bool false) (by rfl) ?_
      refine fl_mv 30 (by rfl) (by decide) (wanted_if hops 13 false (by rfl) 29 (by rfl) false (by rfl)) (by rw [hK.out]; rfl) (by rfl) _ (Or.inl (by rfl)) (.slice (some ad) n' c) (by rfl) ?_
      refine fl_mv 31 (by rfl) (by decide) (wanted_if hops 13 false (by rfl) 29 (by rfl) false (by rfl)) (by rw [hK.out]; rfl) (by rfl) _ (Or.inl (by rfl)) (.int .i64 (k : Int)) (by rfl) ?_
      refine fl_op2 32 (by rfl) (by decide) (wanted_if hops 13 false (by rfl) 29 (by rfl) false (by rfl)) (by rw [hK.out]; rfl) (by rfl) (.tmp 30) (.tmp 31) (.slice (some ad) n' c) (.int .i64 (k : Int)) (by rfl) (by rfl) (.pointer (some (ad.add (k * 2)))) (fun ρ h1 h2 kk w1 (hg : Grow _ w1) hb hf => by go_simp) ?_
      refine fl_op1 33 (by rfl) (by decide) (wanted_if hops 13 false (by rfl) 29 (by rfl) false (by rfl)) (by rw [hK.out]; rfl) (by rfl) (.tmp 32) (.pointer (some (ad.add (k * 2)))) (by rfl) (.pointer (some ⟨(ad.add (k * 2)).block, (ad.add (k * 2)).off + 1, none⟩)) (fun ρ h1 kk w1 (hg : Grow _ w1) hb hf => by go_simp) ?_
      refine fl_op1 34 (by rfl) (by decide) (wanted_if hops 13 false (by rfl) 29 (by rfl) false (by rfl)) (by rw [hK.out]; rfl) (by rfl) (.tmp 33) (.pointer (some ⟨(ad.add (k * 2)).block, (ad.add (k * 2)).off + 1, none⟩)) (by rfl) (.slice Ab mb cb) (fun ρ h1 kk w1 (hg : Grow _ w1) hb hf => by have c := e1 _ hg; go_simp) ?_
      refine fl_mv 35 (by rfl) (by decide) (wanted_if hops 13 false (by rfl) 29 (by rfl) false (by rfl)) (by rw [hK.out]; rfl) (by rfl) _ (Or.inl (by rfl)) (.slice (some ad') n' c') (by rfl) ?_
      refine fl_mv 36 (by rfl) (by decide) (wanted_if hops 13 false (by rfl) 29 (by rfl) false (by rfl)) (by rw [hK.out]; rfl) (by rfl) _ (Or.inl (by rfl)) (.int .i64 (k : Int)) (by rfl) ?_
      refine fl_op2 37 (by rfl) (by decide) (wanted_if hops 13 false (by rfl) 29 (by rfl) false (by rfl)) (by rw [hK.out]; rfl) (by rfl) (.tmp 35) (.tmp 36) (.slice (some ad') n' c') (.int .i64 (k : Int)) (by rfl) (by rfl) (.pointer (some (ad'.add k))) (fun ρ h1 h2 kk w1 (hg : Grow _ w1) hb hf => by go_simp) ?_
      refine fl_op1 38 (by rfl) (by decide) (wanted_if hops 13 false (by rfl) 29 (by rfl) false (by rfl)) (by rw [hK.out]; rfl) (by rfl) (.tmp 37) (.pointer (some (ad'.add k))) (by rfl) (.pointer (some ⟨p, 0, none⟩)) (fun ρ h1 kk w1 (hg : Grow _ w1) hb hf => by have c := f0 _ hg; go_simp) ?_
      refine fl_op1 39 (by rfl) (by decide) (wanted_if hops 13 false (by rfl) 29 (by rfl) false (by rfl)) (by rw [hK.out]; rfl) (by rfl) (.tmp 38) (.pointer (some ⟨p, 0, none⟩)) (by rfl) (.pointer (some ⟨p, 0, none⟩)) (fun ρ h1 kk w1 (hg : Grow _ w1) hb hf => by go_simp) ?_
      refine fl_op1 40 (by rfl) (by decide) (wanted_if hops 13 false (by rfl) 29 (by rfl) false (by rfl)) (by rw [hK.out]; rfl) (by rfl) (.tmp 39) (.pointer (some ⟨p, 0, none⟩)) (by rfl) (.pointer (some ⟨p, 1, none⟩)) (fun ρ h1 kk w1 (hg : Grow _ w1) hb hf => by go_simp) ?_
      refine fl_op1 41 (by rfl) (by decide) (wanted_if hops 13 false (by rfl) 29 (by rfl) false (by rfl)) (by rw [hK.out]; rfl) (by rfl) (.tmp 40) (.pointer (some ⟨p, 1, none⟩)) (by rfl) (.slice Ac mc cc) (fun ρ h1 kk w1 (hg : Grow _ w1) hb hf => by have c := (hBp.grow hg).cell 1; go_simp) ?_
      refine fl_call 42 (by rfl) (by decide) (wanted_if hops 13 false (by rfl) 29 (by rfl) false (by rfl)) (.bool true) (by rw [hK.out]; rfl) 28 _ _ (by rfl) [.slice Ab mb cb, .slice Ac mc cc] (by rfl) k28 (fun kk w1 (hg : Grow _ w1) hb hf => calls_behind (by rfl) (by exact sameDeltas_any w1 _ _ Ab Ac mb cb mc cc ds (In.grow hd1 hg) (In.grow hd2 hg) (by omega))) ?_
      refine fl_op1 43 (by rfl) (by decide) (wanted_if hops 13 false (by rfl) 29 (by rfl) false (by rfl)) (by rw [hK.out]; rfl) (by rfl) (.tmp 42) (.bool true) (by rfl) (.bool false) (fun ρ h1 kk w1 (hg : Grow _ w1) hb hf => by go_simp) ?_
      refine fl_pick 44 (by rfl) (by decide) (wanted_none (by rfl)) (by rw [hK.out]; rfl) (by rfl) _ _ _ (by rfl) false (by rfl) (.bool false) (by rfl) ?_
      refine fl_end (fun _ _ w1 (hg : Grow _ w1) _ hfacts => hT _ _ ?_)
      clear hops hA' hK hT
      simp only [putsL, Act.put, List.setIfInBounds_toArray, List.set_cons_zero, List.set_cons_succ, List.drop_succ_cons, List.drop_zero]
      go_wp2_with fail
      go_roundw
      case rel => exact ⟨k + 1, by omega, by go_num, hgr.trans hg⟩
      case measure => simp [intOf]; omega
    · obtain rfl : k = n' := by omega
      go_wp2_with fail
      go_ret
      exact ⟨rfl, hgr⟩
def RFl (l : List Ab) (V : Nat → Prop) (w : World) (e : Ending) (w' : World) : Prop := ∃ (A' : Option Addr) (n' c' : Nat) (ps' : List PB), e = .returned (.slice A' n' c') ∧ PBats w' V A' n' ps' ∧ ps'.map PB.abs = l.take 4 ∧ Grow w w'
theorem rFlight_any (w : World) (g : Nat) (l : List Ab) (last : Int) (V : Nat → Prop) (hQ : RQAt g l last w V) :
    Calls Try.prog 24 #[.pointer (some ⟨g, 0, none⟩)] w fun e w' => RFl l V w e w' := by
  obtain ⟨A, c, ps, HQ, HL, h3, hB, hI, hn, hm⟩ := hQ.bats
  have e4 : (ps.take (min ps.length 4)).map PB.abs = l.take 4 := by
    rw [List.map_take, HQ.out]
    have := HL.out
    rcases Nat.lt_or_ge l.length 4 with h | h
    · rw [List.take_of_length_le (i := 4) (by omega), List.take_of_length_le (by omega)]
    · rw [show min ps.length 4 = 4 by omega]
  obtain ⟨M, HM⟩ : ∃ M : Nat, Hid (M = min ps.length 4) := ⟨_, rfl⟩
  rw [← HM.out] at e4
  have HT := Lib.hid e4
  clear e4
  have hM : M ≤ ps.length := by rw [HM.out]; omega
  have hck : ¬ c < M := by omega
  have hc4 : (ps.length ≤ 4 ∧ M = ps.length) ∨ (4 < ps.length ∧ M = 4) := by have := HM.out; omega
  go_enter Try.func24, Try.ntmps24
  go_wp2_with fail
  rcases hc4 with ⟨h4, hM4⟩ | ⟨h4, hM4⟩
  · have HM4 := Lib.hid hM4
    clear hM4
    refine wp_region_flow 12 14 [] rfl rfl (by kernel_rfl) (by kernel_rfl) (by kernel_rfl) ?_ ?_
    · intro x hx φ he
      cases hx
    intro ops' A' K' T hops hA' hK hT
    refine fl_mv 3 (by rfl) (by decide) (wanted_none (by rfl)) (by rw [hK.out]; rfl) (by rfl) _ (Or.inl (by rfl)) (.pointer (some ⟨g, 0, none⟩)) (by rfl) ?_
    refine fl_op1 4 (by rfl) (by decide) (wanted_none (by rfl)) (by rw [hK.out]; rfl) (by rfl) (.tmp 3) (.pointer (some ⟨g, 0, none⟩)) (by rfl) (.pointer (some ⟨g, 0, none⟩)) (fun ρ h1 kk w1 (hg : Grow _ w1) hb hf => by go_simp) ?_
    refine fl_op1 5 (by rfl) (by decide) (wanted_none (by rfl)) (by rw [hK.out]; rfl) (by rfl) (.tmp 4) (.pointer (some ⟨g, 0, none⟩)) (by rfl) (.pointer (some ⟨g, 0, none⟩)) (fun ρ h1 kk w1 (hg : Grow _ w1) hb hf => by go_simp) ?_
    refine fl_op1 6 (by rfl) (by decide) (wanted_none (by rfl)) (by rw [hK.out]; rfl) (by rfl) (.tmp 5) (.pointer (some ⟨g, 0, none⟩)) (by rfl) (.slice A ps.length c) (fun ρ h1 kk w1 (hg : Grow _ w1) hb hf => by have c := (hB.grow hg).cell 0; go_simp) ?_
    refine fl_mv 7 (by rfl) (by decide) (wanted_none (by rfl)) (by rw [hK.out]; rfl) (by rfl) _ (Or.inl (by rfl)) (.pointer (some ⟨g, 0, none⟩)) (by rfl) ?_
    refine fl_op1 8 (by rfl) (by decide) (wanted_none (by rfl)) (by rw [hK.out]; rfl) (by rfl) (.tmp 7) (.pointer (some ⟨g, 0, none⟩)) (by rfl) (.pointer (some ⟨g, 0, none⟩)) (fun ρ h1 kk w1 (hg : Grow _ w1) hb hf => by go_simp) ?_
    refine fl_op1 9 (by rfl) (by decide) (wanted_none (by rfl)) (by rw [hK.out]; rfl) (by rfl) (.tmp 8) (.pointer (some ⟨g, 0, none⟩)) (by rfl) (.pointer (some ⟨g, 0, none⟩)) (fun ρ h1 kk w1 (hg : Grow _ w1) hb hf => by go_simp) ?_
    refine fl_op1 10 (by rfl) (by decide) (wanted_none (by rfl)) (by rw [hK.out]; rfl) (by rfl) (.tmp 9) (.pointer (some ⟨g, 0, none⟩)) (by rfl) (.slice A ps.length c) (fun ρ h1 kk w1 (hg : Grow _ w1) hb hf => by have c := (hB.grow hg).cell 0; go_simp) ?_
    refine fl_op1 11 (by rfl) (by decide) (wanted_none (by rfl)) (by rw [hK.out]; rfl) (by rfl) (.tmp 10) (.slice A ps.length c) (by rfl) (.int .i64 (ps.length : Int)) (fun ρ h1 kk w1 (hg : Grow _ w1) hb hf => by go_simp) ?_
    refine fl_op2 12 (by rfl) (by decide) (wanted_none (by rfl)) (by rw [hK.out]; rfl) (by rfl) (.tmp 11) (.const (.int .i64 4)) (.int .i64 (ps.length : Int)) (.int .i64 4) (by rfl) (by rfl) (.int .i64 (M : Int)) (fun ρ h1 h2 kk w1 (hg : Grow _ w1) hb hf => by have h5 := HM4.out; go_simp; omega) ?_
    refine fl_op2 13 (by rfl) (by decide) (wanted_none (by rfl)) (by rw [hK.out]; rfl) (by rfl) (.tmp 6) (.tmp 12) (.slice A ps.length c) (.int .i64 (M : Int)) (by rfl) (by rfl) (.slice A M c) (fun ρ h1 h2 kk w1 (hg : Grow _ w1) hb hf => by go_simp) ?_
    refine fl_mv 2 (by rfl) (by decide) (wanted_none (by rfl)) (by rw [hK.out]; rfl) (by rfl) _ (Or.inr (by rfl)) (.slice A M c) (by rfl) ?_
    refine fl_end (fun _ _ w1 (hg : Grow _ w1) _ hfacts => hT _ _ ?_)
    clear hops hA' hK hT
    simp only [putsL, Act.put, List.setIfInBounds_toArray, List.set_cons_zero, List.set_cons_succ, List.drop_succ_cons, List.drop_zero]
    go_wp2_with fail
    go_ret
    exact ⟨A, M, c, ps.take M, rfl, (hI.grow hg).take hM, HT.out, hg⟩
  · have HM4 := Lib.hid hM4
    clear hM4
    refine wp_region_flow 12 14 [] rfl rfl (by kernel_rfl) (by kernel_rfl) (by kernel_rfl) ?_ ?_
    · intro x hx φ he
      cases hx
    intro ops' A' K' T hops hA' hK hT
    refine fl_mv 3 (by rfl) (by decide) (wanted_none (by rfl)) (by rw [hK.out]; rfl) (by rfl) _ (Or.inl (by rfl)) (.pointer (some ⟨g, 0, none⟩)) (by rfl) ?_
    refine fl_op1 4 (by rfl) (by decide) (wanted_none (by rfl)) (by rw [hK.out]; rfl) (by rfl) (.tmp 3) (.pointer (some ⟨g, 0, none⟩)) (by rfl) (.pointer (some ⟨g, 0, none⟩)) (fun ρ h1 kk w1 (hg : Grow _ w1) hb hf => by go_simp) ?_
    refine fl_op1 5 (by rfl) (by decide) (wanted_none (by rfl)) (by rw [hK.out]; rfl) (by rfl) (.tmp 4) (.pointer (some ⟨g, 0, none⟩)) (by rfl) (.pointer (some ⟨g, 0, none⟩)) (fun ρ h1 kk w1 (hg : Grow _ w1) hb hf => by go_simp) ?_
    refine fl_op1 6 (by rfl) (by decide) (wanted_none (by rfl)) (by rw [hK.out]; rfl) (by rfl) (.tmp 5) (.pointer (some ⟨g, 0, none⟩)) (by rfl) (.slice A ps.length c) (fun ρ h1 kk w1 (hg : Grow _ w1) hb hf => by have c := (hB.grow hg).cell 0; go_simp) ?_
    refine fl_mv 7 (by rfl) (by decide) (wanted_none (by rfl)) (by rw [hK.out]; rfl) (by rfl) _ (Or.inl (by rfl)) (.pointer (some ⟨g, 0, none⟩)) (by rfl) ?_
    refine fl_op1 8 (by rfl) (by decide) (wanted_none (by rfl)) (by rw [hK.out]; rfl) (by rfl) (.tmp 7) (.pointer (some ⟨g, 0, none⟩)) (by rfl) (.pointer (some ⟨g, 0, none⟩)) (fun ρ h1 kk w1 (hg : Grow _ w1) hb hf => by go_simp) ?_
    refine fl_op1 9 (by rfl) (by decide) (wanted_none (by rfl)) (by rw [hK.out]; rfl) (by rfl) (.tmp 8) (.pointer (some ⟨g, 0, none⟩)) (by rfl) (.pointer (some ⟨g, 0, none⟩)) (fun ρ h1 kk w1 (hg : Grow _ w1) hb hf => by go_simp) ?_
    refine fl_op1 10 (by rfl) (by decide) (wanted_none (by rfl)) (by rw [hK.out]; rfl) (by rfl) (.tmp 9) (.pointer (some ⟨g, 0, none⟩)) (by rfl) (.slice A ps.length c) (fun ρ h1 kk w1 (hg : Grow _ w1) hb hf => by have c := (hB.grow hg).cell 0; go_simp) ?_
    refine fl_op1 11 (by rfl) (by decide) (wanted_none (by rfl)) (by rw [hK.out]; rfl) (by rfl) (.tmp 10) (.slice A ps.length c) (by rfl) (.int .i64 (ps.length : Int)) (fun ρ h1 kk w1 (hg : Grow _ w1) hb hf => by go_simp) ?_
    refine fl_op2 12 (by rfl) (by decide) (wanted_none (by rfl)) (by rw [hK.out]; rfl) (by rfl) (.tmp 11) (.const (.int .i64 4)) (.int .i64 (ps.length : Int)) (.int .i64 4) (by rfl) (by rfl) (.int .i64 (M : Int)) (fun ρ h1 h2 kk w1 (hg : Grow _ w1) hb hf => by have h5 := HM4.out; go_simp; omega) ?_
    refine fl_op2 13 (by rfl) (by decide) (wanted_none (by rfl)) (by rw [hK.out]; rfl) (by rfl) (.tmp 6) (.tmp 12) (.slice A ps.length c) (.int .i64 (M : Int)) (by rfl) (by rfl) (.slice A M c) (fun ρ h1 h2 kk w1 (hg : Grow _ w1) hb hf => by go_simp) ?_
    refine fl_mv 2 (by rfl) (by decide) (wanted_none (by rfl)) (by rw [hK.out]; rfl) (by rfl) _ (Or.inr (by rfl)) (.slice A M c) (by rfl) ?_
    refine fl_end (fun _ _ w1 (hg : Grow _ w1) _ hfacts => hT _ _ ?_)
    clear hops hA' hK hT
    simp only [putsL, Act.put, List.setIfInBounds_toArray, List.set_cons_zero, List.set_cons_succ, List.drop_succ_cons, List.drop_zero]
    go_wp2_with fail
    go_ret
    exact ⟨A, M, c, ps.take M, rfl, (hI.grow hg).take hM, HT.out, hg⟩
theorem rAdd_any (w : World) (Z : Nat → Prop) (g : Nat) (l : List Ab) (last seq : Int) (A : Option Addr) (m c : Nat) (ds : List Dl) (hd0 : DIn w Z A m ds) (hZ : ∀ b, Z b → b ≠ g) :
    Turns Try.prog 22 #[.pointer (some ⟨g, 0, none⟩), .int .i64 seq, .slice A m c] (fun e => e = .returned (.int .i64 (addE l last seq m))) (RQAt g l last) (RQAt g (addL l last seq m ds) (addK l last seq m)) w := by
  intro V hQ hV
  unfold addL addK addE
  by_cases h1 : seq < 1
  · simp only [if_pos h1]; exact rAdd_a w g l last seq A m c h1 V hQ hV
  · by_cases h2 : seq ≤ last
    · simp only [if_neg h1, if_pos h2]; exact rAdd_b w g l last seq A m c h1 h2 V hQ hV
    · by_cases h3 : m = 0
      · simp only [if_neg h1, if_neg h2, if_pos h3]; exact rAdd_c w g l last seq A m c h1 h2 (by omega) V hQ hV
      · by_cases h4 : 8 < m
        · simp only [if_neg h1, if_neg h2, if_neg h3, if_pos h4]; exact rAdd_d w g l last seq A m c h1 h2 (by omega) h4 V hQ hV
        · by_cases h5 : 16 ≤ l.length
          · simp only [if_neg h1, if_neg h2, if_neg h3, if_neg h4, if_pos h5]; exact rAdd_full w g l last seq A m c h1 h2 (by omega) h4 h5 V hQ hV
          · simp only [if_neg h1, if_neg h2, if_neg h3, if_neg h4, if_neg h5, if_true]; exact rAdd_ok w Z g l last seq A m c ds hd0 hZ h1 h2 (by omega) h4 h5 V hQ hV
end Go.Proofs.Ytnlfkeajolfboaa
