/- TimerOrder: its walk. -/
import Derived.Test.YtjjafpgpnmdjlaaWithin
namespace Go.Proofs.Ytjjafpgpnmdjlaa
open Go.RowKit Go.Hop
/-- what was set: key k at the k-th time -/
def PS (xs : List Int) (k : Nat) (S : List It) : Prop := S.length = k ∧ ∀ a ∈ S, 0 ≤ a.2 ∧ a.2 < (k : Int) ∧ xs[a.2.toNat]? = some a.1
theorem ps_next {xs : List Int} {k : Nat} {S : List It} {z : Int} (h : PS xs k S) (hz : xs[k]? = some z) : PS xs (k + 1) (setF (z, (k : Int)) S) := by
  have hno : noKey (k : Int) S = S := noKey_none fun a ha he => by have := (h.2 a ha).2.1; omega
  unfold setF
  dsimp only
  rw [hno]
  refine ⟨by rw [(ins_perm _ _).length_eq, List.length_cons, h.1], fun a ha => ?_⟩
  rcases List.mem_cons.1 ((ins_perm _ _).mem_iff.1 ha) with rfl | ha
  · exact ⟨by dsimp only; omega, by dsimp only; omega, by dsimp only; rw [Int.toNat_natCast]; exact hz⟩
  · obtain ⟨h1, h2, h3⟩ := h.2 a ha
    exact ⟨h1, by omega, h3⟩
theorem due_all {now : Int} {S : List It} (h : ∀ a ∈ S, a.1 ≤ now) : due now S = S ∧ late now S = [] := by
  have := due_at (now := now) S [] h (fun a l e => by cases e)
  rwa [List.append_nil] at this
/-- keys that were seen -/
def seenF (S : List It) (j : Nat) : Int → Option Int := fun y => if hasKey y (S.take j) then some 1 else none
theorem seen_next {S : List It} {j : Nat} (hj : j < S.length) : ∀ y, seenF S (j + 1) y = (if y = (hat S j).2 then some 1 else seenF S j y) := fun y => by
  unfold seenF
  rw [List.take_succ_eq_append_getElem hj, hat_get hj]
  unfold hasKey
  rw [List.any_append]
  by_cases hy : y = S[j].2
  · simp [hy]
  · have : decide (S[j].2 = y) = false := decide_eq_false fun e => hy e.symm
    rw [if_neg hy, List.any_cons, List.any_nil, this, Bool.or_false, Bool.or_false]
theorem seen_new {S : List It} {j : Nat} (hK : Keys S) (hj : j < S.length) : seenF S j (hat S j).2 = none := by
  unfold seenF
  rw [if_neg]
  intro h
  obtain ⟨i, hi, he⟩ := key_at h
  rw [List.length_take] at hi
  rw [hat_take (by omega)] at he
  have := keys_at hK (by omega) hj he
  omega
theorem pm_look0 {w : World} {b n : Nat} {f : Int → Option Int} (h : PM w b n f) (x : Int) (hx : (Lit.int .i64 x).wf = true) : (Instr.lookup 34 (.map (some b)) (.int .i64 x) false).run Try.prog w = .ok (.int .i64 ((f x).getD 0)) w := by
  obtain ⟨D, ho, _, hf⟩ := h
  obtain ⟨c, hrun, hat, _⟩ := ho.lookup_int (Go.Maps.int_keyed intMap.key) intMap.und intMap.elem (intMap.zero w) (Go.Maps.keyOf_int_mk intMap.key hx)
  rw [(hf x hx).2] at hat
  injection hat with hat
  injection hat with _ hat
  rw [hrun, hat]
set_option maxRecDepth 100000 in
set_option maxHeartbeats 1600000 in
theorem order_any (w : World) (A0 : Option Addr) (n0 c0 : Nat) (xs : List Int) (hx : Reads w w.heap.size 1 A0 n0 (xs.map (Value.int .i64))) (h64 : ∀ z ∈ xs, in64 z) (hnc : n0 ≤ c0) (hcm : c0 ≤ maxLen) :
    Calls Try.prog 5 #[.slice A0 n0 c0] w fun e w' => e = .returned (.bool true) ∧ Grow w w' := by
  unfold maxLen at hcm
  rcases Nat.lt_trichotomy n0 60 with h10 | h10 | h10
  · have h10' : decide ((n0 : Int) < (60 : Int)) = true := decide_eq_true (by omega)
    go_enter Try.func5, Try.ntmps5
    go_wp2_with fail
    refine (New_any w).mono ?_
    rintro e w1 ⟨t, rfl, hT, hg1⟩
    have hs : Solo (fun b => w.heap.size ≤ b) (TimersAt t []) w1 := Solo.make (V := New w w1) hT (fun b hb => by have := hg1.size; omega) (fun b hb => hb)
    clear hT
    go_wp2_with fail
    go_loopw [5] (fun i wr => ∃ (k : Nat) (S : List It), k ≤ n0 ∧ i = .int .i64 (k : Int) ∧ PS xs k S ∧ Solo (fun b => w.heap.size ≤ b) (TimersAt t S) wr ∧ Below w.heap.size w wr) (fun i _ => n0 - (intOf i).toNat)
    case atStart => exact ⟨0, [], by omega, rfl, ⟨rfl, by simp⟩, hs, hg1⟩
    case round =>
      obtain ⟨k, S, hkn, rfl, hPS, hs, hb⟩ := hrel
      have hkw : IntKind.i64.wrap (k : Int) = (k : Int) := by rw [IntKind.wrap_i64]; omega
      by_cases hk : k < n0
      · have hk' : decide ((k : Int) < (n0 : Int)) = true := decide_eq_true (by omega)
        obtain ⟨ad, u, rfl, _, hu, e0⟩ := Reads.at_ (Reads.below hx hb) (show k < n0 by omega)
        obtain ⟨z, hz, rfl⟩ : ∃ z, xs[k]? = some z ∧ u = .int .i64 z := by
          rw [List.getElem?_map] at hu
          obtain ⟨z, hz, he⟩ := Option.map_eq_some_iff.1 hu
          exact ⟨z, hz, he.symm⟩
        have hz64 := h64 z (List.mem_of_getElem? hz)
        have hset := hs.call (Set_any wr t S (k : Int) z ⟨by omega, by omega⟩ hz64 (by rw [hPS.1]; omega))
        go_wp2_with fail
        refine hset.mono ?_
        rintro e w2 ⟨rfl, hj2, hs⟩
        have hb2 := Below.trans hb (hj2.below (fun _ h => h) hb.size)
        have hPS2 := ps_next hPS hz
        go_wp2_with fail
        go_roundw
        case rel => exact ⟨k + 1, _, by omega, by go_num, hPS2, hs, hb2⟩
        case measure => simp [intOf]; omega
      · obtain rfl : n0 = k := by omega
        have hk' : decide ((n0 : Int) < (n0 : Int)) = false := decide_eq_false (by omega)
        obtain ⟨hSk, hSs, hS64⟩ : Keys S ∧ Sorted S ∧ ∀ a ∈ S, in64 a.1 ∧ in64 a.2 := by
          obtain ⟨_, V, hQ, _⟩ := id hs
          exact ⟨hQ.facts.1, hQ.facts.2.1, hQ.facts.2.2.2⟩
        obtain ⟨hdu, hla⟩ := due_all (now := 9223372036854775807) (S := S) fun a ha => (hS64 a ha).1.2
        go_wp2_with fail
        refine (due_solo 9223372036854775807 hs).mono ?_
        rintro e w2 ⟨A, c, rfl, hO, hj2, hs⟩
        rw [hdu] at hO ⊢
        rw [hla] at hs
        have hb2 := Below.trans hb (hj2.below (fun _ h => h) hb.size)
        have hSl : S.length = n0 := hPS.1
        rw [hSl] at hO ⊢
        have hmm := @run_makeMap Try.prog
        have hgm : Grow w2 (w2.alloc (.map #[] 0)) := (Below.refl _ _).alloc (Nat.le_refl _) _
        have hsm : (w2.alloc (.map #[] 0)).heap.size = w2.heap.size + 1 := by simp
        have hP0 : PM (w2.alloc (.map #[] 0)) w2.heap.size 0 (seenF S 0) := PMap.imp (PMap.made w2) fun x _ => rfl
        have hs : Solo (fun b => w.heap.size ≤ b ∧ b ≠ w2.heap.size) (TimersAt t []) (w2.alloc (.map #[] 0)) := Solo.beside hs (TimersAt.framed _ _) hgm fun b h1 h2 => ⟨h1, by omega⟩
        have hbm := Below.trans hb2 (hgm.mono hb2.size)
        have hO2 := hO.keep (w' := w2.alloc (.map #[] 0)) fun b hb' => hgm.block b hb'.2
        obtain ⟨mm, HM⟩ : ∃ mm : Nat, Hid (mm = w2.heap.size) := ⟨_, rfl⟩
        obtain ⟨wm, HW⟩ : ∃ wm : World, Hid (wm = w2.alloc (.map #[] 0)) := ⟨_, rfl⟩
        rw [← HW.out] at hs hbm hO2 hP0 hsm
        rw [← HM.out] at hs hP0
        have hm2 : w2.heap.size = mm := HM.out.symm
        have hOlt : ∀ b, New wr w2 b → b < mm := fun b hb' => by have := hb'.2; omega
        have hwm := hb2.size
        clear hgm hdu hla hO hkw
        go_wp2_with fail
        rw [← HW.out]
        clear hmm
        go_loopw [32] (fun i wr' => ∃ j : Nat, j ≤ n0 ∧ i = .int .i64 (j : Int) ∧ PM wr' mm j (seenF S j) ∧ Just (fun b => b = mm) wm wr') (fun i _ => n0 - (intOf i).toNat)
        case atStart => exact ⟨0, by omega, rfl, hP0, Just.of_grow (Grow.refl _)⟩
        case round =>
          obtain ⟨j, hjn, rfl, hPj, hjr⟩ := hrel
          have hbr := Below.trans hbm (hjr.below (B := w.heap.size) (fun b hb' => by rw [show b = mm from hb']; omega) (by omega))
          have hOr := hO2.keep (w' := wr) fun b hb' => hjr.block b (by have := hOlt b hb'; omega) (by have := hOlt b hb'; omega)
          by_cases hj : j < n0
          · have hj' : decide ((j : Int) < (n0 : Int)) = true := decide_eq_true (by omega)
            obtain ⟨g, rfl, hgN, hgl, hc⟩ := own_item hOr hj
            obtain ⟨hq0, hqN, hqx⟩ := hPS.2 (hat S j) (by rw [hat_get (by omega)]; exact List.getElem_mem (by omega))
            have hnew := seen_new hSk (j := j) (by omega)
            have hnext := seen_next (S := S) (j := j) (by omega)
            have hpr : ∀ i, i < j → Lt (hat S i) (hat S j) := fun i hi => by
              rw [hat_get (by omega), hat_get (by omega)]
              exact List.pairwise_iff_getElem.1 hSs i j (by omega) (by omega) hi
            have h64q := hS64 (hat S j) (by rw [hat_get (by omega)]; exact List.getElem_mem (by omega))
            generalize hat S j = aj at hc hq0 hqN hqx hnew hnext hpr h64q
            obtain ⟨p, q⟩ := aj
            dsimp only at hc hq0 hqN hqx hnew hnext hpr h64q
            obtain ⟨qn, rfl⟩ := Int.eq_ofNat_of_zero_le hq0
            rw [Int.toNat_natCast] at hqx
            obtain ⟨ad, u, hA0, hadB, hu, f0⟩ := Reads.at_ (Reads.below hx hbr) (show qn < n0 by omega)
            have hadB : (ad.add qn).block < wr.heap.size := by rw [block_add]; have := hbr.size; omega
            obtain rfl : u = .int .i64 p := by
              rw [List.getElem?_map, hqx] at hu
              injection hu with hu
              exact hu.symm
            subst hA0
            have hqn' : decide (n0 ≤ qn) = false := decide_eq_false (by omega)
            have hqn2 : decide ((n0 : Int) ≤ (qn : Int)) = false := decide_eq_false (by omega)
            have hqz : decide ((qn : Int) < 0) = false := decide_eq_false (by omega)
            have hwq : (Lit.int .i64 (qn : Int)).wf = true := wf_of h64q.2
            clear hqx hu
            by_cases h0 : j = 0
            · have hj0 : decide ((0 : Int) < (j : Int)) = false := decide_eq_false (by omega)
              have H0 := Lib.hid h0
              clear h0
              go_wp2_with fail
              refine wp_region_flow 77 139 [] rfl rfl (by kernel_rfl) (by kernel_rfl) (by kernel_rfl) ?_ ?_
              · intro x hx φ he
                cases hx
              intro ops' A' K' T hops hA' hK hT
              refine fl_mv 35 (by rfl) (by decide) (wanted_none (by rfl)) (by rw [hK.out]; rfl) (by rfl) _ (Or.inl (by rfl)) (.slice (some ⟨g, 0, none⟩) n0 c) (by rfl) ?_
              refine fl_mv 36 (by rfl) (by decide) (wanted_none (by rfl)) (by rw [hK.out]; rfl) (by rfl) _ (Or.inl (by rfl)) (.int .i64 (j : Int)) (by rfl) ?_
              refine fl_op2 37 (by rfl) (by decide) (wanted_none (by rfl)) (by rw [hK.out]; rfl) (by rfl) (.tmp 35) (.tmp 36) (.slice (some ⟨g, 0, none⟩) n0 c) (.int .i64 (j : Int)) (by rfl) (by rfl) (.pointer (some ⟨g, j * 2, none⟩)) (fun ρ h1 h2 kk w1 (hg : Grow _ w1) hb hf => by go_simp) ?_
              refine fl_op1 38 (by rfl) (by decide) (wanted_none (by rfl)) (by rw [hK.out]; rfl) (by rfl) (.tmp 37) (.pointer (some ⟨g, j * 2, none⟩)) (by rfl) (.pointer (some ⟨g, j * 2 + 1, none⟩)) (fun ρ h1 kk w1 (hg : Grow _ w1) hb hf => by go_simp) ?_
              refine fl_op1 39 (by rfl) (by decide) (wanted_none (by rfl)) (by rw [hK.out]; rfl) (by rfl) (.tmp 38) (.pointer (some ⟨g, j * 2 + 1, none⟩)) (by rfl) (.int .i64 (qn : Int)) (fun ρ h1 kk w1 (hg : Grow _ w1) hb hf => by have c1 := (hc w1 (hg.block g hgl)).2; go_simp) ?_
              refine fl_op2 40 (by rfl) (by decide) (wanted_none (by rfl)) (by rw [hK.out]; rfl) (by rfl) (.tmp 39) (.const (.int .i64 0)) (.int .i64 (qn : Int)) (.int .i64 0) (by rfl) (by rfl) (.bool false) (fun ρ h1 h2 kk w1 (hg : Grow _ w1) hb hf => by go_simp) ?_
              refine fl_mv 41 (by rfl) (by decide) (wanted_none (by rfl)) (by rw [hK.out]; rfl) (by rfl) _ (Or.inl (by rfl)) (.bool false) (by rfl) ?_
              refine fl_mv 42 (by rfl) (by decide) (wanted_if hops 6 false (by rfl) 41 (by rfl) false (by rfl)) (by rw [hK.out]; rfl) (by rfl) _ (Or.inl (by rfl)) (.slice (some ⟨g, 0, none⟩) n0 c) (by rfl) ?_
              refine fl_mv 43 (by rfl) (by decide) (wanted_if hops 6 false (by rfl) 41 (by rfl) false (by rfl)) (by rw [hK.out]; rfl) (by rfl) _ (Or.inl (by rfl)) (.int .i64 (j : Int)) (by rfl) ?_
              refine fl_op2 44 (by rfl) (by decide) (wanted_if hops 6 false (by rfl) 41 (by rfl) false (by rfl)) (by rw [hK.out]; rfl) (by rfl) (.tmp 42) (.tmp 43) (.slice (some ⟨g, 0, none⟩) n0 c) (.int .i64 (j : Int)) (by rfl) (by rfl) (.pointer (some ⟨g, j * 2, none⟩)) (fun ρ h1 h2 kk w1 (hg : Grow _ w1) hb hf => by go_simp) ?_
              refine fl_op1 45 (by rfl) (by decide) (wanted_if hops 6 false (by rfl) 41 (by rfl) false (by rfl)) (by rw [hK.out]; rfl) (by rfl) (.tmp 44) (.pointer (some ⟨g, j * 2, none⟩)) (by rfl) (.pointer (some ⟨g, j * 2 + 1, none⟩)) (fun ρ h1 kk w1 (hg : Grow _ w1) hb hf => by go_simp) ?_
              refine fl_op1 46 (by rfl) (by decide) (wanted_if hops 6 false (by rfl) 41 (by rfl) false (by rfl)) (by rw [hK.out]; rfl) (by rfl) (.tmp 45) (.pointer (some ⟨g, j * 2 + 1, none⟩)) (by rfl) (.int .i64 (qn : Int)) (fun ρ h1 kk w1 (hg : Grow _ w1) hb hf => by have c1 := (hc w1 (hg.block g hgl)).2; go_simp) ?_
              refine fl_mv 47 (by rfl) (by decide) (wanted_if hops 6 false (by rfl) 41 (by rfl) false (by rfl)) (by rw [hK.out]; rfl) (by rfl) _ (Or.inl (by rfl)) (.int .i64 (n0 : Int)) (by rfl) ?_
              refine fl_op2 48 (by rfl) (by decide) (wanted_if hops 6 false (by rfl) 41 (by rfl) false (by rfl)) (by rw [hK.out]; rfl) (by rfl) (.tmp 46) (.tmp 47) (.int .i64 (qn : Int)) (.int .i64 (n0 : Int)) (by rfl) (by rfl) (.bool false) (fun ρ h1 h2 kk w1 (hg : Grow _ w1) hb hf => by go_simp) ?_
              refine fl_pick 49 (by rfl) (by decide) (wanted_none (by rfl)) (by rw [hK.out]; rfl) (by rfl) _ _ _ (by rfl) false (by rfl) (.bool false) (by rfl) ?_
              refine fl_mv 50 (by rfl) (by decide) (wanted_none (by rfl)) (by rw [hK.out]; rfl) (by rfl) _ (Or.inl (by rfl)) (.bool false) (by rfl) ?_
              refine fl_mv 51 (by rfl) (by decide) (wanted_if hops 15 false (by rfl) 50 (by rfl) false (by rfl)) (by rw [hK.out]; rfl) (by rfl) _ (Or.inl (by rfl)) (.slice (some ⟨g, 0, none⟩) n0 c) (by rfl) ?_
              refine fl_mv 52 (by rfl) (by decide) (wanted_if hops 15 false (by rfl) 50 (by rfl) false (by rfl)) (by rw [hK.out]; rfl) (by rfl) _ (Or.inl (by rfl)) (.int .i64 (j : Int)) (by rfl) ?_
              refine fl_op2 53 (by rfl) (by decide) (wanted_if hops 15 false (by rfl) 50 (by rfl) false (by rfl)) (by rw [hK.out]; rfl) (by rfl) (.tmp 51) (.tmp 52) (.slice (some ⟨g, 0, none⟩) n0 c) (.int .i64 (j : Int)) (by rfl) (by rfl) (.pointer (some ⟨g, j * 2, none⟩)) (fun ρ h1 h2 kk w1 (hg : Grow _ w1) hb hf => by go_simp) ?_
              refine fl_op1 54 (by rfl) (by decide) (wanted_if hops 15 false (by rfl) 50 (by rfl) false (by rfl)) (by rw [hK.out]; rfl) (by rfl) (.tmp 53) (.pointer (some ⟨g, j * 2, none⟩)) (by rfl) (.pointer (some ⟨g, j * 2, none⟩)) (fun ρ h1 kk w1 (hg : Grow _ w1) hb hf => by go_simp) ?_
              refine fl_op1 55 (by rfl) (by decide) (wanted_if hops 15 false (by rfl) 50 (by rfl) false (by rfl)) (by rw [hK.out]; rfl) (by rfl) (.tmp 54) (.pointer (some ⟨g, j * 2, none⟩)) (by rfl) (.int .i64 p) (fun ρ h1 kk w1 (hg : Grow _ w1) hb hf => by have c1 := (hc w1 (hg.block g hgl)).1; go_simp) ?_
              refine fl_mv 56 (by rfl) (by decide) (wanted_if hops 15 false (by rfl) 50 (by rfl) false (by rfl)) (by rw [hK.out]; rfl) (by rfl) _ (Or.inl (by rfl)) (.slice (some ad) n0 c0) (by rfl) ?_
              refine fl_mv 57 (by rfl) (by decide) (wanted_if hops 15 false (by rfl) 50 (by rfl) false (by rfl)) (by rw [hK.out]; rfl) (by rfl) _ (Or.inl (by rfl)) (.slice (some ⟨g, 0, none⟩) n0 c) (by rfl) ?_
              refine fl_mv 58 (by rfl) (by decide) (wanted_if hops 15 false (by rfl) 50 (by rfl) false (by rfl)) (by rw [hK.out]; rfl) (by rfl) _ (Or.inl (by rfl)) (.int .i64 (j : Int)) (by rfl) ?_
              refine fl_op2 59 (by rfl) (by decide) (wanted_if hops 15 false (by rfl) 50 (by rfl) false (by rfl)) (by rw [hK.out]; rfl) (by rfl) (.tmp 57) (.tmp 58) (.slice (some ⟨g, 0, none⟩) n0 c) (.int .i64 (j : Int)) (by rfl) (by rfl) (.pointer (some ⟨g, j * 2, none⟩)) (fun ρ h1 h2 kk w1 (hg : Grow _ w1) hb hf => by go_simp) ?_
              refine fl_op1 60 (by rfl) (by decide) (wanted_if hops 15 false (by rfl) 50 (by rfl) false (by rfl)) (by rw [hK.out]; rfl) (by rfl) (.tmp 59) (.pointer (some ⟨g, j * 2, none⟩)) (by rfl) (.pointer (some ⟨g, j * 2 + 1, none⟩)) (fun ρ h1 kk w1 (hg : Grow _ w1) hb hf => by go_simp) ?_
              refine fl_op1 61 (by rfl) (by decide) (wanted_if hops 15 false (by rfl) 50 (by rfl) false (by rfl)) (by rw [hK.out]; rfl) (by rfl) (.tmp 60) (.pointer (some ⟨g, j * 2 + 1, none⟩)) (by rfl) (.int .i64 (qn : Int)) (fun ρ h1 kk w1 (hg : Grow _ w1) hb hf => by have c1 := (hc w1 (hg.block g hgl)).2; go_simp) ?_
              refine fl_op2 62 (by rfl) (by decide) (wanted_if hops 15 false (by rfl) 50 (by rfl) false (by rfl)) (by rw [hK.out]; rfl) (by rfl) (.tmp 56) (.tmp 61) (.slice (some ad) n0 c0) (.int .i64 (qn : Int)) (by rfl) (by rfl) (.pointer (some (ad.add qn))) (fun ρ h1 h2 kk w1 (hg : Grow _ w1) hb hf => by go_simp; try (intro hlt; omega)) ?_
              refine fl_op1 63 (by rfl) (by decide) (wanted_if hops 15 false (by rfl) 50 (by rfl) false (by rfl)) (by rw [hK.out]; rfl) (by rfl) (.tmp 62) (.pointer (some (ad.add qn))) (by rfl) (.int .i64 p) (fun ρ h1 kk w1 (hg : Grow _ w1) hb hf => by have c1 := (hg.cell (p := ad.add qn) hadB).trans f0; go_simp) ?_
              refine fl_op2 64 (by rfl) (by decide) (wanted_if hops 15 false (by rfl) 50 (by rfl) false (by rfl)) (by rw [hK.out]; rfl) (by rfl) (.tmp 55) (.tmp 63) (.int .i64 p) (.int .i64 p) (by rfl) (by rfl) (.bool false) (fun ρ h1 h2 kk w1 (hg : Grow _ w1) hb hf => by go_simp) ?_
              refine fl_pick 65 (by rfl) (by decide) (wanted_none (by rfl)) (by rw [hK.out]; rfl) (by rfl) _ _ _ (by rfl) false (by rfl) (.bool false) (by rfl) ?_
              refine fl_mv 66 (by rfl) (by decide) (wanted_none (by rfl)) (by rw [hK.out]; rfl) (by rfl) _ (Or.inl (by rfl)) (.bool false) (by rfl) ?_
              refine fl_mv 67 (by rfl) (by decide) (wanted_if hops 31 false (by rfl) 66 (by rfl) false (by rfl)) (by rw [hK.out]; rfl) (by rfl) _ (Or.inl (by rfl)) (.int .i64 (j : Int)) (by rfl) ?_
              refine fl_op2 68 (by rfl) (by decide) (wanted_if hops 31 false (by rfl) 66 (by rfl) false (by rfl)) (by rw [hK.out]; rfl) (by rfl) (.tmp 67) (.const (.int .i64 0)) (.int .i64 (j : Int)) (.int .i64 0) (by rfl) (by rfl) (.bool false) (fun ρ h1 h2 kk w1 (hg : Grow _ w1) hb hf => by go_simp; exact H0.out) ?_
              refine fl_mv 69 (by rfl) (by decide) (wanted_if hops 31 false (by rfl) 66 (by rfl) false (by rfl)) (by rw [hK.out]; rfl) (by rfl) _ (Or.inl (by rfl)) (.bool false) (by rfl) ?_
              refine fl_skip 70 (by rfl) (by decide) (wanted_if hops 34 true (by rfl) 69 (by rfl) false (by rfl)) (by rfl) ?_
              refine fl_skip 71 (by rfl) (by decide) (wanted_if hops 34 true (by rfl) 69 (by rfl) false (by rfl)) (by rfl) ?_
              refine fl_skip 72 (by rfl) (by decide) (wanted_if hops 34 true (by rfl) 69 (by rfl) false (by rfl)) (by rfl) ?_
              refine fl_skip 73 (by rfl) (by decide) (wanted_if hops 34 true (by rfl) 69 (by rfl) false (by rfl)) (by rfl) ?_
              refine fl_skip 74 (by rfl) (by decide) (wanted_if hops 34 true (by rfl) 69 (by rfl) false (by rfl)) (by rfl) ?_
              refine fl_skip 75 (by rfl) (by decide) (wanted_if hops 34 true (by rfl) 69 (by rfl) false (by rfl)) (by rfl) ?_
              refine fl_skip 76 (by rfl) (by decide) (wanted_if hops 34 true (by rfl) 69 (by rfl) false (by rfl)) (by rfl) ?_
              refine fl_skip 77 (by rfl) (by decide) (wanted_if hops 34 true (by rfl) 69 (by rfl) false (by rfl)) (by rfl) ?_
              refine fl_skip 78 (by rfl) (by decide) (wanted_if hops 34 true (by rfl) 69 (by rfl) false (by rfl)) (by rfl) ?_
              refine fl_skip 79 (by rfl) (by decide) (wanted_if hops 34 true (by rfl) 69 (by rfl) false (by rfl)) (by rfl) ?_
              refine fl_skip 80 (by rfl) (by decide) (wanted_if hops 34 true (by rfl) 69 (by rfl) false (by rfl)) (by rfl) ?_
              refine fl_skip 81 (by rfl) (by decide) (wanted_if hops 34 true (by rfl) 69 (by rfl) false (by rfl)) (by rfl) ?_
              refine fl_skip 82 (by rfl) (by decide) (wanted_if hops 34 true (by rfl) 69 (by rfl) false (by rfl)) (by rfl) ?_
              refine fl_skip 83 (by rfl) (by decide) (wanted_out hops 47 false (by rfl) 82 (by rfl) (by rfl)) (by rfl) ?_
              refine fl_skip 84 (by rfl) (by decide) (wanted_out hops 47 false (by rfl) 82 (by rfl) (by rfl)) (by rfl) ?_
              refine fl_skip 85 (by rfl) (by decide) (wanted_out hops 47 false (by rfl) 82 (by rfl) (by rfl)) (by rfl) ?_
              refine fl_skip 86 (by rfl) (by decide) (wanted_out hops 47 false (by rfl) 82 (by rfl) (by rfl)) (by rfl) ?_
              refine fl_skip 87 (by rfl) (by decide) (wanted_out hops 47 false (by rfl) 82 (by rfl) (by rfl)) (by rfl) ?_
              refine fl_skip 88 (by rfl) (by decide) (wanted_out hops 47 false (by rfl) 82 (by rfl) (by rfl)) (by rfl) ?_
              refine fl_skip 89 (by rfl) (by decide) (wanted_out hops 47 false (by rfl) 82 (by rfl) (by rfl)) (by rfl) ?_
              refine fl_skip 90 (by rfl) (by decide) (wanted_out hops 47 false (by rfl) 82 (by rfl) (by rfl)) (by rfl) ?_
              refine fl_skip 91 (by rfl) (by decide) (wanted_out hops 47 false (by rfl) 82 (by rfl) (by rfl)) (by rfl) ?_
              refine fl_skip 92 (by rfl) (by decide) (wanted_out hops 47 false (by rfl) 82 (by rfl) (by rfl)) (by rfl) ?_
              refine fl_skip 93 (by rfl) (by decide) (wanted_out hops 47 false (by rfl) 82 (by rfl) (by rfl)) (by rfl) ?_
              refine fl_skip 94 (by rfl) (by decide) (wanted_out hops 47 false (by rfl) 82 (by rfl) (by rfl)) (by rfl) ?_
              refine fl_skip 95 (by rfl) (by decide) (wanted_out hops 47 false (by rfl) 82 (by rfl) (by rfl)) (by rfl) ?_
              refine fl_skip 96 (by rfl) (by decide) (wanted_out hops 60 true (by rfl) 95 (by rfl) (by rfl)) (by rfl) ?_
              refine fl_skip 97 (by rfl) (by decide) (wanted_out hops 60 true (by rfl) 95 (by rfl) (by rfl)) (by rfl) ?_
              refine fl_skip 98 (by rfl) (by decide) (wanted_out hops 60 true (by rfl) 95 (by rfl) (by rfl)) (by rfl) ?_
              refine fl_skip 99 (by rfl) (by decide) (wanted_out hops 60 true (by rfl) 95 (by rfl) (by rfl)) (by rfl) ?_
              refine fl_skip 100 (by rfl) (by decide) (wanted_out hops 60 true (by rfl) 95 (by rfl) (by rfl)) (by rfl) ?_
              refine fl_skip 101 (by rfl) (by decide) (wanted_out hops 60 true (by rfl) 95 (by rfl) (by rfl)) (by rfl) ?_
              refine fl_skip 102 (by rfl) (by decide) (wanted_out hops 60 true (by rfl) 95 (by rfl) (by rfl)) (by rfl) ?_
              refine fl_skip 103 (by rfl) (by decide) (wanted_out hops 60 true (by rfl) 95 (by rfl) (by rfl)) (by rfl) ?_
              refine fl_skip 104 (by rfl) (by decide) (wanted_out hops 60 true (by rfl) 95 (by rfl) (by rfl)) (by rfl) ?_
              refine fl_skip 105 (by rfl) (by decide) (wanted_out hops 60 true (by rfl) 95 (by rfl) (by rfl)) (by rfl) ?_
              refine fl_skip 106 (by rfl) (by decide) (wanted_out hops 60 true (by rfl) 95 (by rfl) (by rfl)) (by rfl) ?_
              refine fl_skip 107 (by rfl) (by decide) (wanted_out hops 60 true (by rfl) 95 (by rfl) (by rfl)) (by rfl) ?_
              refine fl_skip 108 (by rfl) (by decide) (wanted_out hops 47 false (by rfl) 82 (by rfl) (by rfl)) (by rfl) ?_
              refine fl_skip 109 (by rfl) (by decide) (wanted_if hops 34 true (by rfl) 69 (by rfl) false (by rfl)) (by rfl) ?_
              refine fl_pick 110 (by rfl) (by decide) (wanted_if hops 31 false (by rfl) 66 (by rfl) false (by rfl)) (by rw [hK.out]; rfl) (by rfl) _ _ _ (by rfl) false (by rfl) (.bool false) (by rfl) ?_
              refine fl_pick 111 (by rfl) (by decide) (wanted_none (by rfl)) (by rw [hK.out]; rfl) (by rfl) _ _ _ (by rfl) false (by rfl) (.bool false) (by rfl) ?_
              refine fl_end (fun _ _ w1 (hg : Grow _ w1) _ hfacts => hT _ _ ?_)
              clear hops hA' hK hT
              simp only [putsL, Act.put, List.setIfInBounds_toArray, List.set_cons_zero, List.set_cons_succ, List.drop_succ_cons, List.drop_zero]
              clear hfacts
              have hPg := hPj.grow hg
              have hlk := pm_look0 hPg (qn : Int) hwq
              rw [hnew] at hlk
              obtain ⟨w3, hrun, hP3, hj3⟩ := hPg.put intMap (qn : Int) 1 hwq (by decide) (by unfold maxLen; omega)
              rw [hnew, Option.isSome_none, if_neg (by simp)] at hP3
              have hP3 := PMap.imp hP3 (f' := seenF S (j + 1)) fun y _ => hnext y
              have e1 := (hc w1 (hg.block g hgl)).2
              go_wp2_with fail
              go_roundw
              case rel => exact ⟨j + 1, by omega, by go_num, hP3, (hjr.trans (Just.of_grow hg)).trans hj3⟩
              case measure => simp [intOf]; omega
            · have hj0 : decide ((0 : Int) < (j : Int)) = true := decide_eq_true (by omega)
              have hjt : ((j : Int) - 1).toNat = j - 1 := by omega
              have hj1 : 0 ≤ (j : Int) - 1 := by omega
              have hj2' : (j : Int) - 1 < (n0 : Int) := by omega
              have hjw : IntKind.i64.wrap ((j : Int) - 1) = (j : Int) - 1 := by rw [IntKind.wrap_i64]; omega
              obtain ⟨g', hA, _, _, hc'⟩ := own_item hOr (k := j - 1) (by omega)
              injection hA with hA
              injection hA with hA _ _
              subst hA
              have hlt := hpr (j - 1) (by omega)
              generalize hat S (j - 1) = ai at hc' hlt
              obtain ⟨p', q'⟩ := ai
              unfold Lt at hlt
              dsimp only at hc' hlt
              have hd1 : decide (p < p') = false := decide_eq_false (by omega)
              clear hpr
              by_cases hpe : p = p'
              · have hd2 : (p == p') = true := beq_iff_eq.2 hpe
                have hd3 : decide ((qn : Int) ≤ q') = false := decide_eq_false (by omega)
                have HPE := Lib.hid hpe
                clear hpe
                go_wp2_with fail
                refine wp_region_flow 77 139 [] rfl rfl (by kernel_rfl) (by kernel_rfl) (by kernel_rfl) ?_ ?_
                · intro x hx φ he
                  cases hx
                intro ops' A' K' T hops hA' hK hT
                refine fl_mv 35 (by rfl) (by decide) (wanted_none (by rfl)) (by rw [hK.out]; rfl) (by rfl) _ (Or.inl (by rfl)) (.slice (some ⟨g, 0, none⟩) n0 c) (by rfl) ?_
                refine fl_mv 36 (by rfl) (by decide) (wanted_none (by rfl)) (by rw [hK.out]; rfl) (by rfl) _ (Or.inl (by rfl)) (.int .i64 (j : Int)) (by rfl) ?_
                refine fl_op2 37 (by rfl) (by decide) (wanted_none (by rfl)) (by rw [hK.out]; rfl) (by rfl) (.tmp 35) (.tmp 36) (.slice (some ⟨g, 0, none⟩) n0 c) (.int .i64 (j : Int)) (by rfl) (by rfl) (.pointer (some ⟨g, j * 2, none⟩)) (fun ρ h1 h2 kk w1 (hg : Grow _ w1) hb hf => by go_simp) ?_
                refine fl_op1 38 (by rfl) (by decide) (wanted_none (by rfl)) (by rw [hK.out]; rfl) (by rfl) (.tmp 37) (.pointer (some ⟨g, j * 2, none⟩)) (by rfl) (.pointer (some ⟨g, j * 2 + 1, none⟩)) (fun ρ h1 kk w1 (hg : Grow _ w1) hb hf => by go_simp) ?_
                refine fl_op1 39 (by rfl) (by decide) (wanted_none (by rfl)) (by rw [hK.out]; rfl) (by rfl) (.tmp 38) (.pointer (some ⟨g, j * 2 + 1, none⟩)) (by rfl) (.int .i64 (qn : Int)) (fun ρ h1 kk w1 (hg : Grow _ w1) hb hf => by have c1 := (hc w1 (hg.block g hgl)).2; go_simp) ?_
                refine fl_op2 40 (by rfl) (by decide) (wanted_none (by rfl)) (by rw [hK.out]; rfl) (by rfl) (.tmp 39) (.const (.int .i64 0)) (.int .i64 (qn : Int)) (.int .i64 0) (by rfl) (by rfl) (.bool false) (fun ρ h1 h2 kk w1 (hg : Grow _ w1) hb hf => by go_simp) ?_
                refine fl_mv 41 (by rfl) (by decide) (wanted_none (by rfl)) (by rw [hK.out]; rfl) (by rfl) _ (Or.inl (by rfl)) (.bool false) (by rfl) ?_
                refine fl_mv 42 (by rfl) (by decide) (wanted_if hops 6 false (by rfl) 41 (by rfl) false (by rfl)) (by rw [hK.out]; rfl) (by rfl) _ (Or.inl (by rfl)) (.slice (some ⟨g, 0, none⟩) n0 c) (by rfl) ?_
                refine fl_mv 43 (by rfl) (by decide) (wanted_if hops 6 false (by rfl) 41 (by rfl) false (by rfl)) (by rw [hK.out]; rfl) (by rfl) _ (Or.inl (by rfl)) (.int .i64 (j : Int)) (by rfl) ?_
                refine fl_op2 44 (by rfl) (by decide) (wanted_if hops 6 false (by rfl) 41 (by rfl) false (by rfl)) (by rw [hK.out]; rfl) (by rfl) (.tmp 42) (.tmp 43) (.slice (some ⟨g, 0, none⟩) n0 c) (.int .i64 (j : Int)) (by rfl) (by rfl) (.pointer (some ⟨g, j * 2, none⟩)) (fun ρ h1 h2 kk w1 (hg : Grow _ w1) hb hf => by go_simp) ?_
                refine fl_op1 45 (by rfl) (by decide) (wanted_if hops 6 false (by rfl) 41 (by rfl) false (by rfl)) (by rw [hK.out]; rfl) (by rfl) (.tmp 44) (.pointer (some ⟨g, j * 2, none⟩)) (by rfl) (.pointer (some ⟨g, j * 2 + 1, none⟩)) (fun ρ h1 kk w1 (hg : Grow _ w1) hb hf => by go_simp) ?_
                refine fl_op1 46 (by rfl) (by decide) (wanted_if hops 6 false (by rfl) 41 (by rfl) false (by rfl)) (by rw [hK.out]; rfl) (by rfl) (.tmp 45) (.pointer (some ⟨g, j * 2 + 1, none⟩)) (by rfl) (.int .i64 (qn : Int)) (fun ρ h1 kk w1 (hg : Grow _ w1) hb hf => by have c1 := (hc w1 (hg.block g hgl)).2; go_simp) ?_
                refine fl_mv 47 (by rfl) (by decide) (wanted_if hops 6 false (by rfl) 41 (by rfl) false (by rfl)) (by rw [hK.out]; rfl) (by rfl) _ (Or.inl (by rfl)) (.int .i64 (n0 : Int)) (by rfl) ?_
                refine fl_op2 48 (by rfl) (by decide) (wanted_if hops 6 false (by rfl) 41 (by rfl) false (by rfl)) (by rw [hK.out]; rfl) (by rfl) (.tmp 46) (.tmp 47) (.int .i64 (qn : Int)) (.int .i64 (n0 : Int)) (by rfl) (by rfl) (.bool false) (fun ρ h1 h2 kk w1 (hg : Grow _ w1) hb hf => by go_simp) ?_
                refine fl_pick 49 (by rfl) (by decide) (wanted_none (by rfl)) (by rw [hK.out]; rfl) (by rfl) _ _ _ (by rfl) false (by rfl) (.bool false) (by rfl) ?_
                refine fl_mv 50 (by rfl) (by decide) (wanted_none (by rfl)) (by rw [hK.out]; rfl) (by rfl) _ (Or.inl (by rfl)) (.bool false) (by rfl) ?_
                refine fl_mv 51 (by rfl) (by decide) (wanted_if hops 15 false (by rfl) 50 (by rfl) false (by rfl)) (by rw [hK.out]; rfl) (by rfl) _ (Or.inl (by rfl)) (.slice (some ⟨g, 0, none⟩) n0 c) (by rfl) ?_
                refine fl_mv 52 (by rfl) (by decide) (wanted_if hops 15 false (by rfl) 50 (by rfl) false (by rfl)) (by rw [hK.out]; rfl) (by rfl) _ (Or.inl (by rfl)) (.int .i64 (j : Int)) (by rfl) ?_
                refine fl_op2 53 (by rfl) (by decide) (wanted_if hops 15 false (by rfl) 50 (by rfl) false (by rfl)) (by rw [hK.out]; rfl) (by rfl) (.tmp 51) (.tmp 52) (.slice (some ⟨g, 0, none⟩) n0 c) (.int .i64 (j : Int)) (by rfl) (by rfl) (.pointer (some ⟨g, j * 2, none⟩)) (fun ρ h1 h2 kk w1 (hg : Grow _ w1) hb hf => by go_simp) ?_
                refine fl_op1 54 (by rfl) (by decide) (wanted_if hops 15 false (by rfl) 50 (by rfl) false (by rfl)) (by rw [hK.out]; rfl) (by rfl) (.tmp 53) (.pointer (some ⟨g, j * 2, none⟩)) (by rfl) (.pointer (some ⟨g, j * 2, none⟩)) (fun ρ h1 kk w1 (hg : Grow _ w1) hb hf => by go_simp) ?_
                refine fl_op1 55 (by rfl) (by decide) (wanted_if hops 15 false (by rfl) 50 (by rfl) false (by rfl)) (by rw [hK.out]; rfl) (by rfl) (.tmp 54) (.pointer (some ⟨g, j * 2, none⟩)) (by rfl) (.int .i64 p) (fun ρ h1 kk w1 (hg : Grow _ w1) hb hf => by have c1 := (hc w1 (hg.block g hgl)).1; go_simp) ?_
                refine fl_mv 56 (by rfl) (by decide) (wanted_if hops 15 false (by rfl) 50 (by rfl) false (by rfl)) (by rw [hK.out]; rfl) (by rfl) _ (Or.inl (by rfl)) (.slice (some ad) n0 c0) (by rfl) ?_
                refine fl_mv 57 (by rfl) (by decide) (wanted_if hops 15 false (by rfl) 50 (by rfl) false (by rfl)) (by rw [hK.out]; rfl) (by rfl) _ (Or.inl (by rfl)) (.slice (some ⟨g, 0, none⟩) n0 c) (by rfl) ?_
                refine fl_mv 58 (by rfl) (by decide) (wanted_if hops 15 false (by rfl) 50 (by rfl) false (by rfl)) (by rw [hK.out]; rfl) (by rfl) _ (Or.inl (by rfl)) (.int .i64 (j : Int)) (by rfl) ?_
                refine fl_op2 59 (by rfl) (by decide) (wanted_if hops 15 false (by rfl) 50 (by rfl) false (by rfl)) (by rw [hK.out]; rfl) (by rfl) (.tmp 57) (.tmp 58) (.slice (some ⟨g, 0, none⟩) n0 c) (.int .i64 (j : Int)) (by rfl) (by rfl) (.pointer (some ⟨g, j * 2, none⟩)) (fun ρ h1 h2 kk w1 (hg : Grow _ w1) hb hf => by go_simp) ?_
                refine fl_op1 60 (by rfl) (by decide) (wanted_if hops 15 false (by rfl) 50 (by rfl) false (by rfl)) (by rw [hK.out]; rfl) (by rfl) (.tmp 59) (.pointer (some ⟨g, j * 2, none⟩)) (by rfl) (.pointer (some ⟨g, j * 2 + 1, none⟩)) (fun ρ h1 kk w1 (hg : Grow _ w1) hb hf => by go_simp) ?_
                refine fl_op1 61 (by rfl) (by decide) (wanted_if hops 15 false (by rfl) 50 (by rfl) false (by rfl)) (by rw [hK.out]; rfl) (by rfl) (.tmp 60) (.pointer (some ⟨g, j * 2 + 1, none⟩)) (by rfl) (.int .i64 (qn : Int)) (fun ρ h1 kk w1 (hg : Grow _ w1) hb hf => by have c1 := (hc w1 (hg.block g hgl)).2; go_simp) ?_
                refine fl_op2 62 (by rfl) (by decide) (wanted_if hops 15 false (by rfl) 50 (by rfl) false (by rfl)) (by rw [hK.out]; rfl) (by rfl) (.tmp 56) (.tmp 61) (.slice (some ad) n0 c0) (.int .i64 (qn : Int)) (by rfl) (by rfl) (.pointer (some (ad.add qn))) (fun ρ h1 h2 kk w1 (hg : Grow _ w1) hb hf => by go_simp; try (intro hlt; omega)) ?_
                refine fl_op1 63 (by rfl) (by decide) (wanted_if hops 15 false (by rfl) 50 (by rfl) false (by rfl)) (by rw [hK.out]; rfl) (by rfl) (.tmp 62) (.pointer (some (ad.add qn))) (by rfl) (.int .i64 p) (fun ρ h1 kk w1 (hg : Grow _ w1) hb hf => by have c1 := (hg.cell (p := ad.add qn) hadB).trans f0; go_simp) ?_
                refine fl_op2 64 (by rfl) (by decide) (wanted_if hops 15 false (by rfl) 50 (by rfl) false (by rfl)) (by rw [hK.out]; rfl) (by rfl) (.tmp 55) (.tmp 63) (.int .i64 p) (.int .i64 p) (by rfl) (by rfl) (.bool false) (fun ρ h1 h2 kk w1 (hg : Grow _ w1) hb hf => by go_simp) ?_
                refine fl_pick 65 (by rfl) (by decide) (wanted_none (by rfl)) (by rw [hK.out]; rfl) (by rfl) _ _ _ (by rfl) false (by rfl) (.bool false) (by rfl) ?_
                refine fl_mv 66 (by rfl) (by decide) (wanted_none (by rfl)) (by rw [hK.out]; rfl) (by rfl) _ (Or.inl (by rfl)) (.bool false) (by rfl) ?_
                refine fl_mv 67 (by rfl) (by decide) (wanted_if hops 31 false (by rfl) 66 (by rfl) false (by rfl)) (by rw [hK.out]; rfl) (by rfl) _ (Or.inl (by rfl)) (.int .i64 (j : Int)) (by rfl) ?_
                refine fl_op2 68 (by rfl) (by decide) (wanted_if hops 31 false (by rfl) 66 (by rfl) false (by rfl)) (by rw [hK.out]; rfl) (by rfl) (.tmp 67) (.const (.int .i64 0)) (.int .i64 (j : Int)) (.int .i64 0) (by rfl) (by rfl) (.bool true) (fun ρ h1 h2 kk w1 (hg : Grow _ w1) hb hf => by go_simp; omega) ?_
                refine fl_mv 69 (by rfl) (by decide) (wanted_if hops 31 false (by rfl) 66 (by rfl) false (by rfl)) (by rw [hK.out]; rfl) (by rfl) _ (Or.inl (by rfl)) (.bool true) (by rfl) ?_
                refine fl_mv 70 (by rfl) (by decide) (wanted_if hops 34 true (by rfl) 69 (by rfl) true (by rfl)) (by rw [hK.out]; rfl) (by rfl) _ (Or.inl (by rfl)) (.slice (some ⟨g, 0, none⟩) n0 c) (by rfl) ?_
                refine fl_mv 71 (by rfl) (by decide) (wanted_if hops 34 true (by rfl) 69 (by rfl) true (by rfl)) (by rw [hK.out]; rfl) (by rfl) _ (Or.inl (by rfl)) (.int .i64 (j : Int)) (by rfl) ?_
                refine fl_op2 72 (by rfl) (by decide) (wanted_if hops 34 true (by rfl) 69 (by rfl) true (by rfl)) (by rw [hK.out]; rfl) (by rfl) (.tmp 70) (.tmp 71) (.slice (some ⟨g, 0, none⟩) n0 c) (.int .i64 (j : Int)) (by rfl) (by rfl) (.pointer (some ⟨g, j * 2, none⟩)) (fun ρ h1 h2 kk w1 (hg : Grow _ w1) hb hf => by go_simp) ?_
                refine fl_op1 73 (by rfl) (by decide) (wanted_if hops 34 true (by rfl) 69 (by rfl) true (by rfl)) (by rw [hK.out]; rfl) (by rfl) (.tmp 72) (.pointer (some ⟨g, j * 2, none⟩)) (by rfl) (.pointer (some ⟨g, j * 2, none⟩)) (fun ρ h1 kk w1 (hg : Grow _ w1) hb hf => by go_simp) ?_
                refine fl_op1 74 (by rfl) (by decide) (wanted_if hops 34 true (by rfl) 69 (by rfl) true (by rfl)) (by rw [hK.out]; rfl) (by rfl) (.tmp 73) (.pointer (some ⟨g, j * 2, none⟩)) (by rfl) (.int .i64 p) (fun ρ h1 kk w1 (hg : Grow _ w1) hb hf => by have c1 := (hc w1 (hg.block g hgl)).1; go_simp) ?_
                refine fl_mv 75 (by rfl) (by decide) (wanted_if hops 34 true (by rfl) 69 (by rfl) true (by rfl)) (by rw [hK.out]; rfl) (by rfl) _ (Or.inl (by rfl)) (.slice (some ⟨g, 0, none⟩) n0 c) (by rfl) ?_
                refine fl_mv 76 (by rfl) (by decide) (wanted_if hops 34 true (by rfl) 69 (by rfl) true (by rfl)) (by rw [hK.out]; rfl) (by rfl) _ (Or.inl (by rfl)) (.int .i64 (j : Int)) (by rfl) ?_
                refine fl_op2 77 (by rfl) (by decide) (wanted_if hops 34 true (by rfl) 69 (by rfl) true (by rfl)) (by rw [hK.out]; rfl) (by rfl) (.tmp 76) (.const (.int .i64 1)) (.int .i64 (j : Int)) (.int .i64 1) (by rfl) (by rfl) (.int .i64 ((j : Int) - 1)) (fun ρ h1 h2 kk w1 (hg : Grow _ w1) hb hf => by go_simp) ?_
                refine fl_op2 78 (by rfl) (by decide) (wanted_if hops 34 true (by rfl) 69 (by rfl) true (by rfl)) (by rw [hK.out]; rfl) (by rfl) (.tmp 75) (.tmp 77) (.slice (some ⟨g, 0, none⟩) n0 c) (.int .i64 ((j : Int) - 1)) (by rfl) (by rfl) (.pointer (some ⟨g, (j - 1) * 2, none⟩)) (fun ρ h1 h2 kk w1 (hg : Grow _ w1) hb hf => by go_simp; try (intro hlt; omega)) ?_
                refine fl_op1 79 (by rfl) (by decide) (wanted_if hops 34 true (by rfl) 69 (by rfl) true (by rfl)) (by rw [hK.out]; rfl) (by rfl) (.tmp 78) (.pointer (some ⟨g, (j - 1) * 2, none⟩)) (by rfl) (.pointer (some ⟨g, (j - 1) * 2, none⟩)) (fun ρ h1 kk w1 (hg : Grow _ w1) hb hf => by go_simp) ?_
                refine fl_op1 80 (by rfl) (by decide) (wanted_if hops 34 true (by rfl) 69 (by rfl) true (by rfl)) (by rw [hK.out]; rfl) (by rfl) (.tmp 79) (.pointer (some ⟨g, (j - 1) * 2, none⟩)) (by rfl) (.int .i64 p') (fun ρ h1 kk w1 (hg : Grow _ w1) hb hf => by have c1 := (hc' w1 (hg.block g hgl)).1; go_simp) ?_
                refine fl_op2 81 (by rfl) (by decide) (wanted_if hops 34 true (by rfl) 69 (by rfl) true (by rfl)) (by rw [hK.out]; rfl) (by rfl) (.tmp 74) (.tmp 80) (.int .i64 p) (.int .i64 p') (by rfl) (by rfl) (.bool false) (fun ρ h1 h2 kk w1 (hg : Grow _ w1) hb hf => by go_simp) ?_
                refine fl_mv 82 (by rfl) (by decide) (wanted_if hops 34 true (by rfl) 69 (by rfl) true (by rfl)) (by rw [hK.out]; rfl) (by rfl) _ (Or.inl (by rfl)) (.bool false) (by rfl) ?_
                refine fl_mv 83 (by rfl) (by decide) (wanted_if hops 47 false (by rfl) 82 (by rfl) false (by rfl)) (by rw [hK.out]; rfl) (by rfl) _ (Or.inl (by rfl)) (.slice (some ⟨g, 0, none⟩) n0 c) (by rfl) ?_
                refine fl_mv 84 (by rfl) (by decide) (wanted_if hops 47 false (by rfl) 82 (by rfl) false (by rfl)) (by rw [hK.out]; rfl) (by rfl) _ (Or.inl (by rfl)) (.int .i64 (j : Int)) (by rfl) ?_
                refine fl_op2 85 (by rfl) (by decide) (wanted_if hops 47 false (by rfl) 82 (by rfl) false (by rfl)) (by rw [hK.out]; rfl) (by rfl) (.tmp 83) (.tmp 84) (.slice (some ⟨g, 0, none⟩) n0 c) (.int .i64 (j : Int)) (by rfl) (by rfl) (.pointer (some ⟨g, j * 2, none⟩)) (fun ρ h1 h2 kk w1 (hg : Grow _ w1) hb hf => by go_simp) ?_
                refine fl_op1 86 (by rfl) (by decide) (wanted_if hops 47 false (by rfl) 82 (by rfl) false (by rfl)) (by rw [hK.out]; rfl) (by rfl) (.tmp 85) (.pointer (some ⟨g, j * 2, none⟩)) (by rfl) (.pointer (some ⟨g, j * 2, none⟩)) (fun ρ h1 kk w1 (hg : Grow _ w1) hb hf => by go_simp) ?_
                refine fl_op1 87 (by rfl) (by decide) (wanted_if hops 47 false (by rfl) 82 (by rfl) false (by rfl)) (by rw [hK.out]; rfl) (by rfl) (.tmp 86) (.pointer (some ⟨g, j * 2, none⟩)) (by rfl) (.int .i64 p) (fun ρ h1 kk w1 (hg : Grow _ w1) hb hf => by have c1 := (hc w1 (hg.block g hgl)).1; go_simp) ?_
                refine fl_mv 88 (by rfl) (by decide) (wanted_if hops 47 false (by rfl) 82 (by rfl) false (by rfl)) (by rw [hK.out]; rfl) (by rfl) _ (Or.inl (by rfl)) (.slice (some ⟨g, 0, none⟩) n0 c) (by rfl) ?_
                refine fl_mv 89 (by rfl) (by decide) (wanted_if hops 47 false (by rfl) 82 (by rfl) false (by rfl)) (by rw [hK.out]; rfl) (by rfl) _ (Or.inl (by rfl)) (.int .i64 (j : Int)) (by rfl) ?_
                refine fl_op2 90 (by rfl) (by decide) (wanted_if hops 47 false (by rfl) 82 (by rfl) false (by rfl)) (by rw [hK.out]; rfl) (by rfl) (.tmp 89) (.const (.int .i64 1)) (.int .i64 (j : Int)) (.int .i64 1) (by rfl) (by rfl) (.int .i64 ((j : Int) - 1)) (fun ρ h1 h2 kk w1 (hg : Grow _ w1) hb hf => by go_simp) ?_
                refine fl_op2 91 (by rfl) (by decide) (wanted_if hops 47 false (by rfl) 82 (by rfl) false (by rfl)) (by rw [hK.out]; rfl) (by rfl) (.tmp 88) (.tmp 90) (.slice (some ⟨g, 0, none⟩) n0 c) (.int .i64 ((j : Int) - 1)) (by rfl) (by rfl) (.pointer (some ⟨g, (j - 1) * 2, none⟩)) (fun ρ h1 h2 kk w1 (hg : Grow _ w1) hb hf => by go_simp; try (intro hlt; omega)) ?_
                refine fl_op1 92 (by rfl) (by decide) (wanted_if hops 47 false (by rfl) 82 (by rfl) false (by rfl)) (by rw [hK.out]; rfl) (by rfl) (.tmp 91) (.pointer (some ⟨g, (j - 1) * 2, none⟩)) (by rfl) (.pointer (some ⟨g, (j - 1) * 2, none⟩)) (fun ρ h1 kk w1 (hg : Grow _ w1) hb hf => by go_simp) ?_
                refine fl_op1 93 (by rfl) (by decide) (wanted_if hops 47 false (by rfl) 82 (by rfl) false (by rfl)) (by rw [hK.out]; rfl) (by rfl) (.tmp 92) (.pointer (some ⟨g, (j - 1) * 2, none⟩)) (by rfl) (.int .i64 p') (fun ρ h1 kk w1 (hg : Grow _ w1) hb hf => by have c1 := (hc' w1 (hg.block g hgl)).1; go_simp) ?_
                refine fl_op2 94 (by rfl) (by decide) (wanted_if hops 47 false (by rfl) 82 (by rfl) false (by rfl)) (by rw [hK.out]; rfl) (by rfl) (.tmp 87) (.tmp 93) (.int .i64 p) (.int .i64 p') (by rfl) (by rfl) (.bool true) (fun ρ h1 h2 kk w1 (hg : Grow _ w1) hb hf => by go_simp) ?_
                refine fl_mv 95 (by rfl) (by decide) (wanted_if hops 47 false (by rfl) 82 (by rfl) false (by rfl)) (by rw [hK.out]; rfl) (by rfl) _ (Or.inl (by rfl)) (.bool true) (by rfl) ?_
                refine fl_mv 96 (by rfl) (by decide) (wanted_if hops 60 true (by rfl) 95 (by rfl) true (by rfl)) (by rw [hK.out]; rfl) (by rfl) _ (Or.inl (by rfl)) (.slice (some ⟨g, 0, none⟩) n0 c) (by rfl) ?_
                refine fl_mv 97 (by rfl) (by decide) (wanted_if hops 60 true (by rfl) 95 (by rfl) true (by rfl)) (by rw [hK.out]; rfl) (by rfl) _ (Or.inl (by rfl)) (.int .i64 (j : Int)) (by rfl) ?_
                refine fl_op2 98 (by rfl) (by decide) (wanted_if hops 60 true (by rfl) 95 (by rfl) true (by rfl)) (by rw [hK.out]; rfl) (by rfl) (.tmp 96) (.tmp 97) (.slice (some ⟨g, 0, none⟩) n0 c) (.int .i64 (j : Int)) (by rfl) (by rfl) (.pointer (some ⟨g, j * 2, none⟩)) (fun ρ h1 h2 kk w1 (hg : Grow _ w1) hb hf => by go_simp) ?_
                refine fl_op1 99 (by rfl) (by decide) (wanted_if hops 60 true (by rfl) 95 (by rfl) true (by rfl)) (by rw [hK.out]; rfl) (by rfl) (.tmp 98) (.pointer (some ⟨g, j * 2, none⟩)) (by rfl) (.pointer (some ⟨g, j * 2 + 1, none⟩)) (fun ρ h1 kk w1 (hg : Grow _ w1) hb hf => by go_simp) ?_
                refine fl_op1 100 (by rfl) (by decide) (wanted_if hops 60 true (by rfl) 95 (by rfl) true (by rfl)) (by rw [hK.out]; rfl) (by rfl) (.tmp 99) (.pointer (some ⟨g, j * 2 + 1, none⟩)) (by rfl) (.int .i64 (qn : Int)) (fun ρ h1 kk w1 (hg : Grow _ w1) hb hf => by have c1 := (hc w1 (hg.block g hgl)).2; go_simp) ?_
                refine fl_mv 101 (by rfl) (by decide) (wanted_if hops 60 true (by rfl) 95 (by rfl) true (by rfl)) (by rw [hK.out]; rfl) (by rfl) _ (Or.inl (by rfl)) (.slice (some ⟨g, 0, none⟩) n0 c) (by rfl) ?_
                refine fl_mv 102 (by rfl) (by decide) (wanted_if hops 60 true (by rfl) 95 (by rfl) true (by rfl)) (by rw [hK.out]; rfl) (by rfl) _ (Or.inl (by rfl)) (.int .i64 (j : Int)) (by rfl) ?_
                refine fl_op2 103 (by rfl) (by decide) (wanted_if hops 60 true (by rfl) 95 (by rfl) true (by rfl)) (by rw [hK.out]; rfl) (by rfl) (.tmp 102) (.const (.int .i64 1)) (.int .i64 (j : Int)) (.int .i64 1) (by rfl) (by rfl) (.int .i64 ((j : Int) - 1)) (fun ρ h1 h2 kk w1 (hg : Grow _ w1) hb hf => by go_simp) ?_
                refine fl_op2 104 (by rfl) (by decide) (wanted_if hops 60 true (by rfl) 95 (by rfl) true (by rfl)) (by rw [hK.out]; rfl) (by rfl) (.tmp 101) (.tmp 103) (.slice (some ⟨g, 0, none⟩) n0 c) (.int .i64 ((j : Int) - 1)) (by rfl) (by rfl) (.pointer (some ⟨g, (j - 1) * 2, none⟩)) (fun ρ h1 h2 kk w1 (hg : Grow _ w1) hb hf => by go_simp; try (intro hlt; omega)) ?_
                refine fl_op1 105 (by rfl) (by decide) (wanted_if hops 60 true (by rfl) 95 (by rfl) true (by rfl)) (by rw [hK.out]; rfl) (by rfl) (.tmp 104) (.pointer (some ⟨g, (j - 1) * 2, none⟩)) (by rfl) (.pointer (some ⟨g, (j - 1) * 2 + 1, none⟩)) (fun ρ h1 kk w1 (hg : Grow _ w1) hb hf => by go_simp) ?_
                refine fl_op1 106 (by rfl) (by decide) (wanted_if hops 60 true (by rfl) 95 (by rfl) true (by rfl)) (by rw [hK.out]; rfl) (by rfl) (.tmp 105) (.pointer (some ⟨g, (j - 1) * 2 + 1, none⟩)) (by rfl) (.int .i64 q') (fun ρ h1 kk w1 (hg : Grow _ w1) hb hf => by have c1 := (hc' w1 (hg.block g hgl)).2; go_simp) ?_
                refine fl_op2 107 (by rfl) (by decide) (wanted_if hops 60 true (by rfl) 95 (by rfl) true (by rfl)) (by rw [hK.out]; rfl) (by rfl) (.tmp 100) (.tmp 106) (.int .i64 (qn : Int)) (.int .i64 q') (by rfl) (by rfl) (.bool false) (fun ρ h1 h2 kk w1 (hg : Grow _ w1) hb hf => by go_simp) ?_
                refine fl_pick 108 (by rfl) (by decide) (wanted_if hops 47 false (by rfl) 82 (by rfl) false (by rfl)) (by rw [hK.out]; rfl) (by rfl) _ _ _ (by rfl) true (by rfl) (.bool false) (by rfl) ?_
                refine fl_pick 109 (by rfl) (by decide) (wanted_if hops 34 true (by rfl) 69 (by rfl) true (by rfl)) (by rw [hK.out]; rfl) (by rfl) _ _ _ (by rfl) false (by rfl) (.bool false) (by rfl) ?_
                refine fl_pick 110 (by rfl) (by decide) (wanted_if hops 31 false (by rfl) 66 (by rfl) false (by rfl)) (by rw [hK.out]; rfl) (by rfl) _ _ _ (by rfl) true (by rfl) (.bool false) (by rfl) ?_
                refine fl_pick 111 (by rfl) (by decide) (wanted_none (by rfl)) (by rw [hK.out]; rfl) (by rfl) _ _ _ (by rfl) false (by rfl) (.bool false) (by rfl) ?_
                refine fl_end (fun _ _ w1 (hg : Grow _ w1) _ hfacts => hT _ _ ?_)
                clear hops hA' hK hT
                simp only [putsL, Act.put, List.setIfInBounds_toArray, List.set_cons_zero, List.set_cons_succ, List.drop_succ_cons, List.drop_zero]
                clear hfacts
                have hPg := hPj.grow hg
                have hlk := pm_look0 hPg (qn : Int) hwq
                rw [hnew] at hlk
                obtain ⟨w3, hrun, hP3, hj3⟩ := hPg.put intMap (qn : Int) 1 hwq (by decide) (by unfold maxLen; omega)
                rw [hnew, Option.isSome_none, if_neg (by simp)] at hP3
                have hP3 := PMap.imp hP3 (f' := seenF S (j + 1)) fun y _ => hnext y
                have e1 := (hc w1 (hg.block g hgl)).2
                go_wp2_with fail
                go_roundw
                case rel => exact ⟨j + 1, by omega, by go_num, hP3, (hjr.trans (Just.of_grow hg)).trans hj3⟩
                case measure => simp [intOf]; omega
              · have hd2 : (p == p') = false := beq_eq_false_iff_ne.2 hpe
                go_wp2_with fail
                refine wp_region_flow 77 139 [] rfl rfl (by kernel_rfl) (by kernel_rfl) (by kernel_rfl) ?_ ?_
                · intro x hx φ he
                  cases hx
                intro ops' A' K' T hops hA' hK hT
                refine fl_mv 35 (by rfl) (by decide) (wanted_none (by rfl)) (by rw [hK.out]; rfl) (by rfl) _ (Or.inl (by rfl)) (.slice (some ⟨g, 0, none⟩) n0 c) (by rfl) ?_
                refine fl_mv 36 (by rfl) (by decide) (wanted_none (by rfl)) (by rw [hK.out]; rfl) (by rfl) _ (Or.inl (by rfl)) (.int .i64 (j : Int)) (by rfl) ?_
                refine fl_op2 37 (by rfl) (by decide) (wanted_none (by rfl)) (by rw [hK.out]; rfl) (by rfl) (.tmp 35) (.tmp 36) (.slice (some ⟨g, 0, none⟩) n0 c) (.int .i64 (j : Int)) (by rfl) (by rfl) (.pointer (some ⟨g, j * 2, none⟩)) (fun ρ h1 h2 kk w1 (hg : Grow _ w1) hb hf => by go_simp) ?_
                refine fl_op1 38 (by rfl) (by decide) (wanted_none (by rfl)) (by rw [hK.out]; rfl) (by rfl) (.tmp 37) (.pointer (some ⟨g, j * 2, none⟩)) (by rfl) (.pointer (some ⟨g, j * 2 + 1, none⟩)) (fun ρ h1 kk w1 (hg : Grow _ w1) hb hf => by go_simp) ?_
                refine fl_op1 39 (by rfl) (by decide) (wanted_none (by rfl)) (by rw [hK.out]; rfl) (by rfl) (.tmp 38) (.pointer (some ⟨g, j * 2 + 1, none⟩)) (by rfl) (.int .i64 (qn : Int)) (fun ρ h1 kk w1 (hg : Grow _ w1) hb hf => by have c1 := (hc w1 (hg.block g hgl)).2; go_simp) ?_
                refine fl_op2 40 (by rfl) (by decide) (wanted_none (by rfl)) (by rw [hK.out]; rfl) (by rfl) (.tmp 39) (.const (.int .i64 0)) (.int .i64 (qn : Int)) (.int .i64 0) (by rfl) (by rfl) (.bool false) (fun ρ h1 h2 kk w1 (hg : Grow _ w1) hb hf => by go_simp) ?_
                refine fl_mv 41 (by rfl) (by decide) (wanted_none (by rfl)) (by rw [hK.out]; rfl) (by rfl) _ (Or.inl (by rfl)) (.bool false) (by rfl) ?_
                refine fl_mv 42 (by rfl) (by decide) (wanted_if hops 6 false (by rfl) 41 (by rfl) false (by rfl)) (by rw [hK.out]; rfl) (by rfl) _ (Or.inl (by rfl)) (.slice (some ⟨g, 0, none⟩) n0 c) (by rfl) ?_
                refine fl_mv 43 (by rfl) (by decide) (wanted_if hops 6 false (by rfl) 41 (by rfl) false (by rfl)) (by rw [hK.out]; rfl) (by rfl) _ (Or.inl (by rfl)) (.int .i64 (j : Int)) (by rfl) ?_
                refine fl_op2 44 (by rfl) (by decide) (wanted_if hops 6 false (by rfl) 41 (by rfl) false (by rfl)) (by rw [hK.out]; rfl) (by rfl) (.tmp 42) (.tmp 43) (.slice (some ⟨g, 0, none⟩) n0 c) (.int .i64 (j : Int)) (by rfl) (by rfl) (.pointer (some ⟨g, j * 2, none⟩)) (fun ρ h1 h2 kk w1 (hg : Grow _ w1) hb hf => by go_simp) ?_
                refine fl_op1 45 (by rfl) (by decide) (wanted_if hops 6 false (by rfl) 41 (by rfl) false (by rfl)) (by rw [hK.out]; rfl) (by rfl) (.tmp 44) (.pointer (some ⟨g, j * 2, none⟩)) (by rfl) (.pointer (some ⟨g, j * 2 + 1, none⟩)) (fun ρ h1 kk w1 (hg : Grow _ w1) hb hf => by go_simp) ?_
                refine fl_op1 46 (by rfl) (by decide) (wanted_if hops 6 false (by rfl) 41 (by rfl) false (by rfl)) (by rw [hK.out]; rfl) (by rfl) (.tmp 45) (.pointer (some ⟨g, j * 2 + 1, none⟩)) (by rfl) (.int .i64 (qn : Int)) (fun ρ h1 kk w1 (hg : Grow _ w1) hb hf => by have c1 := (hc w1 (hg.block g hgl)).2; go_simp) ?_
                refine fl_mv 47 (by rfl) (by decide) (wanted_if hops 6 false (by rfl) 41 (by rfl) false (by rfl)) (by rw [hK.out]; rfl) (by rfl) _ (Or.inl (by rfl)) (.int .i64 (n0 : Int)) (by rfl) ?_
                refine fl_op2 48 (by rfl) (by decide) (wanted_if hops 6 false (by rfl) 41 (by rfl) false (by rfl)) (by rw [hK.out]; rfl) (by rfl) (.tmp 46) (.tmp 47) (.int .i64 (qn : Int)) (.int .i64 (n0 : Int)) (by rfl) (by rfl) (.bool false) (fun ρ h1 h2 kk w1 (hg : Grow _ w1) hb hf => by go_simp) ?_
                refine fl_pick 49 (by rfl) (by decide) (wanted_none (by rfl)) (by rw [hK.out]; rfl) (by rfl) _ _ _ (by rfl) false (by rfl) (.bool false) (by rfl) ?_
                refine fl_mv 50 (by rfl) (by decide) (wanted_none (by rfl)) (by rw [hK.out]; rfl) (by rfl) _ (Or.inl (by rfl)) (.bool false) (by rfl) ?_
                refine fl_mv 51 (by rfl) (by decide) (wanted_if hops 15 false (by rfl) 50 (by rfl) false (by rfl)) (by rw [hK.out]; rfl) (by rfl) _ (Or.inl (by rfl)) (.slice (some ⟨g, 0, none⟩) n0 c) (by rfl) ?_
                refine fl_mv 52 (by rfl) (by decide) (wanted_if hops 15 false (by rfl) 50 (by rfl) false (by rfl)) (by rw [hK.out]; rfl) (by rfl) _ (Or.inl (by rfl)) (.int .i64 (j : Int)) (by rfl) ?_
                refine fl_op2 53 (by rfl) (by decide) (wanted_if hops 15 false (by rfl) 50 (by rfl) false (by rfl)) (by rw [hK.out]; rfl) (by rfl) (.tmp 51) (.tmp 52) (.slice (some ⟨g, 0, none⟩) n0 c) (.int .i64 (j : Int)) (by rfl) (by rfl) (.pointer (some ⟨g, j * 2, none⟩)) (fun ρ h1 h2 kk w1 (hg : Grow _ w1) hb hf => by go_simp) ?_
                refine fl_op1 54 (by rfl) (by decide) (wanted_if hops 15 false (by rfl) 50 (by rfl) false (by rfl)) (by rw [hK.out]; rfl) (by rfl) (.tmp 53) (.pointer (some ⟨g, j * 2, none⟩)) (by rfl) (.pointer (some ⟨g, j * 2, none⟩)) (fun ρ h1 kk w1 (hg : Grow _ w1) hb hf => by go_simp) ?_
                refine fl_op1 55 (by rfl) (by decide) (wanted_if hops 15 false (by rfl) 50 (by rfl) false (by rfl)) (by rw [hK.out]; rfl) (by rfl) (.tmp 54) (.pointer (some ⟨g, j * 2, none⟩)) (by rfl) (.int .i64 p) (fun ρ h1 kk w1 (hg : Grow _ w1) hb hf => by have c1 := (hc w1 (hg.block g hgl)).1; go_simp) ?_
                refine fl_mv 56 (by rfl) (by decide) (wanted_if hops 15 false (by rfl) 50 (by rfl) false (by rfl)) (by rw [hK.out]; rfl) (by rfl) _ (Or.inl (by rfl)) (.slice (some ad) n0 c0) (by rfl) ?_
                refine fl_mv 57 (by rfl) (by decide) (wanted_if hops 15 false (by rfl) 50 (by rfl) false (by rfl)) (by rw [hK.out]; rfl) (by rfl) _ (Or.inl (by rfl)) (.slice (some ⟨g, 0, none⟩) n0 c) (by rfl) ?_
                refine fl_mv 58 (by rfl) (by decide) (wanted_if hops 15 false (by rfl) 50 (by rfl) false (by rfl)) (by rw [hK.out]; rfl) (by rfl) _ (Or.inl (by rfl)) (.int .i64 (j : Int)) (by rfl) ?_
                refine fl_op2 59 (by rfl) (by decide) (wanted_if hops 15 false (by rfl) 50 (by rfl) false (by rfl)) (by rw [hK.out]; rfl) (by rfl) (.tmp 57) (.tmp 58) (.slice (some ⟨g, 0, none⟩) n0 c) (.int .i64 (j : Int)) (by rfl) (by rfl) (.pointer (some ⟨g, j * 2, none⟩)) (fun ρ h1 h2 kk w1 (hg : Grow _ w1) hb hf => by go_simp) ?_
                refine fl_op1 60 (by rfl) (by decide) (wanted_if hops 15 false (by rfl) 50 (by rfl) false (by rfl)) (by rw [hK.out]; rfl) (by rfl) (.tmp 59) (.pointer (some ⟨g, j * 2, none⟩)) (by rfl) (.pointer (some ⟨g, j * 2 + 1, none⟩)) (fun ρ h1 kk w1 (hg : Grow _ w1) hb hf => by go_simp) ?_
                refine fl_op1 61 (by rfl) (by decide) (wanted_if hops 15 false (by rfl) 50 (by rfl) false (by rfl)) (by rw [hK.out]; rfl) (by rfl) (.tmp 60) (.pointer (some ⟨g, j * 2 + 1, none⟩)) (by rfl) (.int .i64 (qn : Int)) (fun ρ h1 kk w1 (hg : Grow _ w1) hb hf => by have c1 := (hc w1 (hg.block g hgl)).2; go_simp) ?_
                refine fl_op2 62 (by rfl) (by decide) (wanted_if hops 15 false (by rfl) 50 (by rfl) false (by rfl)) (by rw [hK.out]; rfl) (by rfl) (.tmp 56) (.tmp 61) (.slice (some ad) n0 c0) (.int .i64 (qn : Int)) (by rfl) (by rfl) (.pointer (some (ad.add qn))) (fun ρ h1 h2 kk w1 (hg : Grow _ w1) hb hf => by go_simp; try (intro hlt; omega)) ?_
                refine fl_op1 63 (by rfl) (by decide) (wanted_if hops 15 false (by rfl) 50 (by rfl) false (by rfl)) (by rw [hK.out]; rfl) (by rfl) (.tmp 62) (.pointer (some (ad.add qn))) (by rfl) (.int .i64 p) (fun ρ h1 kk w1 (hg : Grow _ w1) hb hf => by have c1 := (hg.cell (p := ad.add qn) hadB).trans f0; go_simp) ?_
                refine fl_op2 64 (by rfl) (by decide) (wanted_if hops 15 false (by rfl) 50 (by rfl) false (by rfl)) (by rw [hK.out]; rfl) (by rfl) (.tmp 55) (.tmp 63) (.int .i64 p) (.int .i64 p) (by rfl) (by rfl) (.bool false) (fun ρ h1 h2 kk w1 (hg : Grow _ w1) hb hf => by go_simp) ?_
                refine fl_pick 65 (by rfl) (by decide) (wanted_none (by rfl)) (by rw [hK.out]; rfl) (by rfl) _ _ _ (by rfl) false (by rfl) (.bool false) (by rfl) ?_
                refine fl_mv 66 (by rfl) (by decide) (wanted_none (by rfl)) (by rw [hK.out]; rfl) (by rfl) _ (Or.inl (by rfl)) (.bool false) (by rfl) ?_
                refine fl_mv 67 (by rfl) (by decide) (wanted_if hops 31 false (by rfl) 66 (by rfl) false (by rfl)) (by rw [hK.out]; rfl) (by rfl) _ (Or.inl (by rfl)) (.int .i64 (j : Int)) (by rfl) ?_
                refine fl_op2 68 (by rfl) (by decide) (wanted_if hops 31 false (by rfl) 66 (by rfl) false (by rfl)) (by rw [hK.out]; rfl) (by rfl) (.tmp 67) (.const (.int .i64 0)) (.int .i64 (j : Int)) (.int .i64 0) (by rfl) (by rfl) (.bool true) (fun ρ h1 h2 kk w1 (hg : Grow _ w1) hb hf => by go_simp; omega) ?_
                refine fl_mv 69 (by rfl) (by decide) (wanted_if hops 31 false (by rfl) 66 (by rfl) false (by rfl)) (by rw [hK.out]; rfl) (by rfl) _ (Or.inl (by rfl)) (.bool true) (by rfl) ?_
                refine fl_mv 70 (by rfl) (by decide) (wanted_if hops 34 true (by rfl) 69 (by rfl) true (by rfl)) (by rw [hK.out]; rfl) (by rfl) _ (Or.inl (by rfl)) (.slice (some ⟨g, 0, none⟩) n0 c) (by rfl) ?_
                refine fl_mv 71 (by rfl) (by decide) (wanted_if hops 34 true (by rfl) 69 (by rfl) true (by rfl)) (by rw [hK.out]; rfl) (by rfl) _ (Or.inl (by rfl)) (.int .i64 (j : Int)) (by rfl) ?_
                refine fl_op2 72 (by rfl) (by decide) (wanted_if hops 34 true (by rfl) 69 (by rfl) true (by rfl)) (by rw [hK.out]; rfl) (by rfl) (.tmp 70) (.tmp 71) (.slice (some ⟨g, 0, none⟩) n0 c) (.int .i64 (j : Int)) (by rfl) (by rfl) (.pointer (some ⟨g, j * 2, none⟩)) (fun ρ h1 h2 kk w1 (hg : Grow _ w1) hb hf => by go_simp) ?_
                refine fl_op1 73 (by rfl) (by decide) (wanted_if hops 34 true (by rfl) 69 (by rfl) true (by rfl)) (by rw [hK.out]; rfl) (by rfl) (.tmp 72) (.pointer (some ⟨g, j * 2, none⟩)) (by rfl) (.pointer (some ⟨g, j * 2, none⟩)) (fun ρ h1 kk w1 (hg : Grow _ w1) hb hf => by go_simp) ?_
                refine fl_op1 74 (by rfl) (by decide) (wanted_if hops 34 true (by rfl) 69 (by rfl) true (by rfl)) (by rw [hK.out]; rfl) (by rfl) (.tmp 73) (.pointer (some ⟨g, j * 2, none⟩)) (by rfl) (.int .i64 p) (fun ρ h1 kk w1 (hg : Grow _ w1) hb hf => by have c1 := (hc w1 (hg.block g hgl)).1; go_simp) ?_
                refine fl_mv 75 (by rfl) (by decide) (wanted_if hops 34 true (by rfl) 69 (by rfl) true (by rfl)) (by rw [hK.out]; rfl) (by rfl) _ (Or.inl (by rfl)) (.slice (some ⟨g, 0, none⟩) n0 c) (by rfl) ?_
                refine fl_mv 76 (by rfl) (by decide) (wanted_if hops 34 true (by rfl) 69 (by rfl) true (by rfl)) (by rw [hK.out]; rfl) (by rfl) _ (Or.inl (by rfl)) (.int .i64 (j : Int)) (by rfl) ?_
                refine fl_op2 77 (by rfl) (by decide) (wanted_if hops 34 true (by rfl) 69 (by rfl) true (by rfl)) (by rw [hK.out]; rfl) (by rfl) (.tmp 76) (.const (.int .i64 1)) (.int .i64 (j : Int)) (.int .i64 1) (by rfl) (by rfl) (.int .i64 ((j : Int) - 1)) (fun ρ h1 h2 kk w1 (hg : Grow _ w1) hb hf => by go_simp) ?_
                refine fl_op2 78 (by rfl) (by decide) (wanted_if hops 34 true (by rfl) 69 (by rfl) true (by rfl)) (by rw [hK.out]; rfl) (by rfl) (.tmp 75) (.tmp 77) (.slice (some ⟨g, 0, none⟩) n0 c) (.int .i64 ((j : Int) - 1)) (by rfl) (by rfl) (.pointer (some ⟨g, (j - 1) * 2, none⟩)) (fun ρ h1 h2 kk w1 (hg : Grow _ w1) hb hf => by go_simp; try (intro hlt; omega)) ?_
                refine fl_op1 79 (by rfl) (by decide) (wanted_if hops 34 true (by rfl) 69 (by rfl) true (by rfl)) (by rw [hK.out]; rfl) (by rfl) (.tmp 78) (.pointer (some ⟨g, (j - 1) * 2, none⟩)) (by rfl) (.pointer (some ⟨g, (j - 1) * 2, none⟩)) (fun ρ h1 kk w1 (hg : Grow _ w1) hb hf => by go_simp) ?_
                refine fl_op1 80 (by rfl) (by decide) (wanted_if hops 34 true (by rfl) 69 (by rfl) true (by rfl)) (by rw [hK.out]; rfl) (by rfl) (.tmp 79) (.pointer (some ⟨g, (j - 1) * 2, none⟩)) (by rfl) (.int .i64 p') (fun ρ h1 kk w1 (hg : Grow _ w1) hb hf => by have c1 := (hc' w1 (hg.block g hgl)).1; go_simp) ?_
                refine fl_op2 81 (by rfl) (by decide) (wanted_if hops 34 true (by rfl) 69 (by rfl) true (by rfl)) (by rw [hK.out]; rfl) (by rfl) (.tmp 74) (.tmp 80) (.int .i64 p) (.int .i64 p') (by rfl) (by rfl) (.bool false) (fun ρ h1 h2 kk w1 (hg : Grow _ w1) hb hf => by go_simp) ?_
                refine fl_mv 82 (by rfl) (by decide) (wanted_if hops 34 true (by rfl) 69 (by rfl) true (by rfl)) (by rw [hK.out]; rfl) (by rfl) _ (Or.inl (by rfl)) (.bool false) (by rfl) ?_
                refine fl_mv 83 (by rfl) (by decide) (wanted_if hops 47 false (by rfl) 82 (by rfl) false (by rfl)) (by rw [hK.out]; rfl) (by rfl) _ (Or.inl (by rfl)) (.slice (some ⟨g, 0, none⟩) n0 c) (by rfl) ?_
                refine fl_mv 84 (by rfl) (by decide) (wanted_if hops 47 false (by rfl) 82 (by rfl) false (by rfl)) (by rw [hK.out]; rfl) (by rfl) _ (Or.inl (by rfl)) (.int .i64 (j : Int)) (by rfl) ?_
                refine fl_op2 85 (by rfl) (by decide) (wanted_if hops 47 false (by rfl) 82 (by rfl) false (by rfl)) (by rw [hK.out]; rfl) (by rfl) (.tmp 83) (.tmp 84) (.slice (some ⟨g, 0, none⟩) n0 c) (.int .i64 (j : Int)) (by rfl) (by rfl) (.pointer (some ⟨g, j * 2, none⟩)) (fun ρ h1 h2 kk w1 (hg : Grow _ w1) hb hf => by go_simp) ?_
                refine fl_op1 86 (by rfl) (by decide) (wanted_if hops 47 false (by rfl) 82 (by rfl) false (by rfl)) (by rw [hK.out]; rfl) (by rfl) (.tmp 85) (.pointer (some ⟨g, j * 2, none⟩)) (by rfl) (.pointer (some ⟨g, j * 2, none⟩)) (fun ρ h1 kk w1 (hg : Grow _ w1) hb hf => by go_simp) ?_
                refine fl_op1 87 (by rfl) (by decide) (wanted_if hops 47 false (by rfl) 82 (by rfl) false (by rfl)) (by rw [hK.out]; rfl) (by rfl) (.tmp 86) (.pointer (some ⟨g, j * 2, none⟩)) (by rfl) (.int .i64 p) (fun ρ h1 kk w1 (hg : Grow _ w1) hb hf => by have c1 := (hc w1 (hg.block g hgl)).1; go_simp) ?_
                refine fl_mv 88 (by rfl) (by decide) (wanted_if hops 47 false (by rfl) 82 (by rfl) false (by rfl)) (by rw [hK.out]; rfl) (by rfl) _ (Or.inl (by rfl)) (.slice (some ⟨g, 0, none⟩) n0 c) (by rfl) ?_
                refine fl_mv 89 (by rfl) (by decide) (wanted_if hops 47 false (by rfl) 82 (by rfl) false (by rfl)) (by rw [hK.out]; rfl) (by rfl) _ (Or.inl (by rfl)) (.int .i64 (j : Int)) (by rfl) ?_
                refine fl_op2 90 (by rfl) (by decide) (wanted_if hops 47 false (by rfl) 82 (by rfl) false (by rfl)) (by rw [hK.out]; rfl) (by rfl) (.tmp 89) (.const (.int .i64 1)) (.int .i64 (j : Int)) (.int .i64 1) (by rfl) (by rfl) (.int .i64 ((j : Int) - 1)) (fun ρ h1 h2 kk w1 (hg : Grow _ w1) hb hf => by go_simp) ?_
                refine fl_op2 91 (by rfl) (by decide) (wanted_if hops 47 false (by rfl) 82 (by rfl) false (by rfl)) (by rw [hK.out]; rfl) (by rfl) (.tmp 88) (.tmp 90) (.slice (some ⟨g, 0, none⟩) n0 c) (.int .i64 ((j : Int) - 1)) (by rfl) (by rfl) (.pointer (some ⟨g, (j - 1) * 2, none⟩)) (fun ρ h1 h2 kk w1 (hg : Grow _ w1) hb hf => by go_simp; try (intro hlt; omega)) ?_
                refine fl_op1 92 (by rfl) (by decide) (wanted_if hops 47 false (by rfl) 82 (by rfl) false (by rfl)) (by rw [hK.out]; rfl) (by rfl) (.tmp 91) (.pointer (some ⟨g, (j - 1) * 2, none⟩)) (by rfl) (.pointer (some ⟨g, (j - 1) * 2, none⟩)) (fun ρ h1 kk w1 (hg : Grow _ w1) hb hf => by go_simp) ?_
                refine fl_op1 93 (by rfl) (by decide) (wanted_if hops 47 false (by rfl) 82 (by rfl) false (by rfl)) (by rw [hK.out]; rfl) (by rfl) (.tmp 92) (.pointer (some ⟨g, (j - 1) * 2, none⟩)) (by rfl) (.int .i64 p') (fun ρ h1 kk w1 (hg : Grow _ w1) hb hf => by have c1 := (hc' w1 (hg.block g hgl)).1; go_simp) ?_
                refine fl_op2 94 (by rfl) (by decide) (wanted_if hops 47 false (by rfl) 82 (by rfl) false (by rfl)) (by rw [hK.out]; rfl) (by rfl) (.tmp 87) (.tmp 93) (.int .i64 p) (.int .i64 p') (by rfl) (by rfl) (.bool false) (fun ρ h1 h2 kk w1 (hg : Grow _ w1) hb hf => by go_simp) ?_
                refine fl_mv 95 (by rfl) (by decide) (wanted_if hops 47 false (by rfl) 82 (by rfl) false (by rfl)) (by rw [hK.out]; rfl) (by rfl) _ (Or.inl (by rfl)) (.bool false) (by rfl) ?_
                refine fl_skip 96 (by rfl) (by decide) (wanted_if hops 60 true (by rfl) 95 (by rfl) false (by rfl)) (by rfl) ?_
                refine fl_skip 97 (by rfl) (by decide) (wanted_if hops 60 true (by rfl) 95 (by rfl) false (by rfl)) (by rfl) ?_
                refine fl_skip 98 (by rfl) (by decide) (wanted_if hops 60 true (by rfl) 95 (by rfl) false (by rfl)) (by rfl) ?_
                refine fl_skip 99 (by rfl) (by decide) (wanted_if hops 60 true (by rfl) 95 (by rfl) false (by rfl)) (by rfl) ?_
                refine fl_skip 100 (by rfl) (by decide) (wanted_if hops 60 true (by rfl) 95 (by rfl) false (by rfl)) (by rfl) ?_
                refine fl_skip 101 (by rfl) (by decide) (wanted_if hops 60 true (by rfl) 95 (by rfl) false (by rfl)) (by rfl) ?_
                refine fl_skip 102 (by rfl) (by decide) (wanted_if hops 60 true (by rfl) 95 (by rfl) false (by rfl)) (by rfl) ?_
                refine fl_skip 103 (by rfl) (by decide) (wanted_if hops 60 true (by rfl) 95 (by rfl) false (by rfl)) (by rfl) ?_
                refine fl_skip 104 (by rfl) (by decide) (wanted_if hops 60 true (by rfl) 95 (by rfl) false (by rfl)) (by rfl) ?_
                refine fl_skip 105 (by rfl) (by decide) (wanted_if hops 60 true (by rfl) 95 (by rfl) false (by rfl)) (by rfl) ?_
                refine fl_skip 106 (by rfl) (by decide) (wanted_if hops 60 true (by rfl) 95 (by rfl) false (by rfl)) (by rfl) ?_
                refine fl_skip 107 (by rfl) (by decide) (wanted_if hops 60 true (by rfl) 95 (by rfl) false (by rfl)) (by rfl) ?_
                refine fl_pick 108 (by rfl) (by decide) (wanted_if hops 47 false (by rfl) 82 (by rfl) false (by rfl)) (by rw [hK.out]; rfl) (by rfl) _ _ _ (by rfl) false (by rfl) (.bool false) (by rfl) ?_
                refine fl_pick 109 (by rfl) (by decide) (wanted_if hops 34 true (by rfl) 69 (by rfl) true (by rfl)) (by rw [hK.out]; rfl) (by rfl) _ _ _ (by rfl) false (by rfl) (.bool false) (by rfl) ?_
                refine fl_pick 110 (by rfl) (by decide) (wanted_if hops 31 false (by rfl) 66 (by rfl) false (by rfl)) (by rw [hK.out]; rfl) (by rfl) _ _ _ (by rfl) true (by rfl) (.bool false) (by rfl) ?_
                refine fl_pick 111 (by rfl) (by decide) (wanted_none (by rfl)) (by rw [hK.out]; rfl) (by rfl) _ _ _ (by rfl) false (by rfl) (.bool false) (by rfl) ?_
                refine fl_end (fun _ _ w1 (hg : Grow _ w1) _ hfacts => hT _ _ ?_)
                clear hops hA' hK hT
                simp only [putsL, Act.put, List.setIfInBounds_toArray, List.set_cons_zero, List.set_cons_succ, List.drop_succ_cons, List.drop_zero]
                clear hfacts
                have hPg := hPj.grow hg
                have hlk := pm_look0 hPg (qn : Int) hwq
                rw [hnew] at hlk
                obtain ⟨w3, hrun, hP3, hj3⟩ := hPg.put intMap (qn : Int) 1 hwq (by decide) (by unfold maxLen; omega)
                rw [hnew, Option.isSome_none, if_neg (by simp)] at hP3
                have hP3 := PMap.imp hP3 (f' := seenF S (j + 1)) fun y _ => hnext y
                have e1 := (hc w1 (hg.block g hgl)).2
                go_wp2_with fail
                go_roundw
                case rel => exact ⟨j + 1, by omega, by go_num, hP3, (hjr.trans (Just.of_grow hg)).trans hj3⟩
                case measure => simp [intOf]; omega
          · obtain rfl : n0 = j := by omega
            have hj' : decide ((n0 : Int) < (n0 : Int)) = false := decide_eq_false (by omega)
            have hln := fun ty => hPj.len intMap ty
            have hs := hs.past (TimersAt.framed _ _) hjr fun b h1 h2 => h2.2 h1
            clear hOr hPj hO2 hP0
            go_wp2_with fail
            refine (tlen_solo hs).mono ?_
            rintro e w9 ⟨rfl, rfl⟩
            go_wp2_with (go_at_call 8; refine (known_any _).mono ?_; rintro e w7 ⟨rfl, hg7⟩)
            go_ret
            exact ⟨rfl, Below.trans hbr (hg7.mono hbr.size)⟩
  · subst h10
    go_enter Try.func5, Try.ntmps5
    go_wp2_with fail
    refine (New_any w).mono ?_
    rintro e w1 ⟨t, rfl, hT, hg1⟩
    have hs : Solo (fun b => w.heap.size ≤ b) (TimersAt t []) w1 := Solo.make (V := New w w1) hT (fun b hb => by have := hg1.size; omega) (fun b hb => hb)
    clear hT
    go_wp2_with fail
    go_loopw [5] (fun i wr => ∃ (k : Nat) (S : List It), k ≤ 60 ∧ i = .int .i64 (k : Int) ∧ PS xs k S ∧ Solo (fun b => w.heap.size ≤ b) (TimersAt t S) wr ∧ Below w.heap.size w wr) (fun i _ => 60 - (intOf i).toNat)
    case atStart => exact ⟨0, [], by omega, rfl, ⟨rfl, by simp⟩, hs, hg1⟩
    case round =>
      obtain ⟨k, S, hkn, rfl, hPS, hs, hb⟩ := hrel
      have hkw : IntKind.i64.wrap (k : Int) = (k : Int) := by rw [IntKind.wrap_i64]; omega
      by_cases hk : k < 60
      · have hk' : decide ((k : Int) < (60 : Int)) = true := decide_eq_true (by omega)
        obtain ⟨ad, u, rfl, _, hu, e0⟩ := Reads.at_ (Reads.below hx hb) (show k < 60 by omega)
        obtain ⟨z, hz, rfl⟩ : ∃ z, xs[k]? = some z ∧ u = .int .i64 z := by
          rw [List.getElem?_map] at hu
          obtain ⟨z, hz, he⟩ := Option.map_eq_some_iff.1 hu
          exact ⟨z, hz, he.symm⟩
        have hz64 := h64 z (List.mem_of_getElem? hz)
        have hset := hs.call (Set_any wr t S (k : Int) z ⟨by omega, by omega⟩ hz64 (by rw [hPS.1]; omega))
        go_wp2_with fail
        refine hset.mono ?_
        rintro e w2 ⟨rfl, hj2, hs⟩
        have hb2 := Below.trans hb (hj2.below (fun _ h => h) hb.size)
        have hPS2 := ps_next hPS hz
        go_wp2_with fail
        go_roundw
        case rel => exact ⟨k + 1, _, by omega, by go_num, hPS2, hs, hb2⟩
        case measure => simp [intOf]; omega
      · obtain rfl : 60 = k := by omega
        have hk' : decide ((60 : Int) < (60 : Int)) = false := decide_eq_false (by omega)
        obtain ⟨hSk, hSs, hS64⟩ : Keys S ∧ Sorted S ∧ ∀ a ∈ S, in64 a.1 ∧ in64 a.2 := by
          obtain ⟨_, V, hQ, _⟩ := id hs
          exact ⟨hQ.facts.1, hQ.facts.2.1, hQ.facts.2.2.2⟩
        obtain ⟨hdu, hla⟩ := due_all (now := 9223372036854775807) (S := S) fun a ha => (hS64 a ha).1.2
        go_wp2_with fail
        refine (due_solo 9223372036854775807 hs).mono ?_
        rintro e w2 ⟨A, c, rfl, hO, hj2, hs⟩
        rw [hdu] at hO ⊢
        rw [hla] at hs
        have hb2 := Below.trans hb (hj2.below (fun _ h => h) hb.size)
        have hSl : S.length = 60 := hPS.1
        rw [hSl] at hO ⊢
        have hmm := @run_makeMap Try.prog
        have hgm : Grow w2 (w2.alloc (.map #[] 0)) := (Below.refl _ _).alloc (Nat.le_refl _) _
        have hsm : (w2.alloc (.map #[] 0)).heap.size = w2.heap.size + 1 := by simp
        have hP0 : PM (w2.alloc (.map #[] 0)) w2.heap.size 0 (seenF S 0) := PMap.imp (PMap.made w2) fun x _ => rfl
        have hs : Solo (fun b => w.heap.size ≤ b ∧ b ≠ w2.heap.size) (TimersAt t []) (w2.alloc (.map #[] 0)) := Solo.beside hs (TimersAt.framed _ _) hgm fun b h1 h2 => ⟨h1, by omega⟩
        have hbm := Below.trans hb2 (hgm.mono hb2.size)
        have hO2 := hO.keep (w' := w2.alloc (.map #[] 0)) fun b hb' => hgm.block b hb'.2
        obtain ⟨mm, HM⟩ : ∃ mm : Nat, Hid (mm = w2.heap.size) := ⟨_, rfl⟩
        obtain ⟨wm, HW⟩ : ∃ wm : World, Hid (wm = w2.alloc (.map #[] 0)) := ⟨_, rfl⟩
        rw [← HW.out] at hs hbm hO2 hP0 hsm
        rw [← HM.out] at hs hP0
        have hm2 : w2.heap.size = mm := HM.out.symm
        have hOlt : ∀ b, New wr w2 b → b < mm := fun b hb' => by have := hb'.2; omega
        have hwm := hb2.size
        clear hgm hdu hla hO hkw
        go_wp2_with fail
        rw [← HW.out]
        clear hmm
        go_loopw [32] (fun i wr' => ∃ j : Nat, j ≤ 60 ∧ i = .int .i64 (j : Int) ∧ PM wr' mm j (seenF S j) ∧ Just (fun b => b = mm) wm wr') (fun i _ => 60 - (intOf i).toNat)
        case atStart => exact ⟨0, by omega, rfl, hP0, Just.of_grow (Grow.refl _)⟩
        case round =>
          obtain ⟨j, hjn, rfl, hPj, hjr⟩ := hrel
          have hbr := Below.trans hbm (hjr.below (B := w.heap.size) (fun b hb' => by rw [show b = mm from hb']; omega) (by omega))
          have hOr := hO2.keep (w' := wr) fun b hb' => hjr.block b (by have := hOlt b hb'; omega) (by have := hOlt b hb'; omega)
          by_cases hj : j < 60
          · have hj' : decide ((j : Int) < (60 : Int)) = true := decide_eq_true (by omega)
            obtain ⟨g, rfl, hgN, hgl, hc⟩ := own_item hOr hj
            obtain ⟨hq0, hqN, hqx⟩ := hPS.2 (hat S j) (by rw [hat_get (by omega)]; exact List.getElem_mem (by omega))
            have hnew := seen_new hSk (j := j) (by omega)
            have hnext := seen_next (S := S) (j := j) (by omega)
            have hpr : ∀ i, i < j → Lt (hat S i) (hat S j) := fun i hi => by
              rw [hat_get (by omega), hat_get (by omega)]
              exact List.pairwise_iff_getElem.1 hSs i j (by omega) (by omega) hi
            have h64q := hS64 (hat S j) (by rw [hat_get (by omega)]; exact List.getElem_mem (by omega))
            generalize hat S j = aj at hc hq0 hqN hqx hnew hnext hpr h64q
            obtain ⟨p, q⟩ := aj
            dsimp only at hc hq0 hqN hqx hnew hnext hpr h64q
            obtain ⟨qn, rfl⟩ := Int.eq_ofNat_of_zero_le hq0
            rw [Int.toNat_natCast] at hqx
            obtain ⟨ad, u, hA0, hadB, hu, f0⟩ := Reads.at_ (Reads.below hx hbr) (show qn < 60 by omega)
            have hadB : (ad.add qn).block < wr.heap.size := by rw [block_add]; have := hbr.size; omega
            obtain rfl : u = .int .i64 p := by
              rw [List.getElem?_map, hqx] at hu
              injection hu with hu
              exact hu.symm
            subst hA0
            have hqn' : decide (60 ≤ qn) = false := decide_eq_false (by omega)
            have hqn2 : decide ((60 : Int) ≤ (qn : Int)) = false := decide_eq_false (by omega)
            have hqz : decide ((qn : Int) < 0) = false := decide_eq_false (by omega)
            have hwq : (Lit.int .i64 (qn : Int)).wf = true := wf_of h64q.2
            clear hqx hu
            by_cases h0 : j = 0
            · have hj0 : decide ((0 : Int) < (j : Int)) = false := decide_eq_false (by omega)
              have H0 := Lib.hid h0
              clear h0
              go_wp2_with fail
              refine wp_region_flow 77 139 [] rfl rfl (by kernel_rfl) (by kernel_rfl) (by kernel_rfl) ?_ ?_
              · intro x hx φ he
                cases hx
              intro ops' A' K' T hops hA' hK hT
              refine fl_mv 35 (by rfl) (by decide) (wanted_none (by rfl)) (by rw [hK.out]; rfl) (by rfl) _ (Or.inl (by rfl)) (.slice (some ⟨g, 0, none⟩) 60 c) (by rfl) ?_
              refine fl_mv 36 (by rfl) (by decide) (wanted_none (by rfl)) (by rw [hK.out]; rfl) (by rfl) _ (Or.inl (by rfl)) (.int .i64 (j : Int)) (by rfl) ?_
              refine fl_op2 37 (by rfl) (by decide) (wanted_none (by rfl)) (by rw [hK.out]; rfl) (by rfl) (.tmp 35) (.tmp 36) (.slice (some ⟨g, 0, none⟩) 60 c) (.int .i64 (j : Int)) (by rfl) (by rfl) (.pointer (some ⟨g, j * 2, none⟩)) (fun ρ h1 h2 kk w1 (hg : Grow _ w1) hb hf => by go_simp; intro hlt; omega) ?_
              refine fl_op1 38 (by rfl) (by decide) (wanted_none (by rfl)) (by rw [hK.out]; rfl) (by rfl) (.tmp 37) (.pointer (some ⟨g, j * 2, none⟩)) (by rfl) (.pointer (some ⟨g, j * 2 + 1, none⟩)) (fun ρ h1 kk w1 (hg : Grow _ w1) hb hf => by go_simp) ?_
              refine fl_op1 39 (by rfl) (by decide) (wanted_none (by rfl)) (by rw [hK.out]; rfl) (by rfl) (.tmp 38) (.pointer (some ⟨g, j * 2 + 1, none⟩)) (by rfl) (.int .i64 (qn : Int)) (fun ρ h1 kk w1 (hg : Grow _ w1) hb hf => by have c1 := (hc w1 (hg.block g hgl)).2; go_simp) ?_
              refine fl_op2 40 (by rfl) (by decide) (wanted_none (by rfl)) (by rw [hK.out]; rfl) (by rfl) (.tmp 39) (.const (.int .i64 0)) (.int .i64 (qn : Int)) (.int .i64 0) (by rfl) (by rfl) (.bool false) (fun ρ h1 h2 kk w1 (hg : Grow _ w1) hb hf => by go_simp) ?_
              refine fl_mv 41 (by rfl) (by decide) (wanted_none (by rfl)) (by rw [hK.out]; rfl) (by rfl) _ (Or.inl (by rfl)) (.bool false) (by rfl) ?_
              refine fl_mv 42 (by rfl) (by decide) (wanted_if hops 6 false (by rfl) 41 (by rfl) false (by rfl)) (by rw [hK.out]; rfl) (by rfl) _ (Or.inl (by rfl)) (.slice (some ⟨g, 0, none⟩) 60 c) (by rfl) ?_
              refine fl_mv 43 (by rfl) (by decide) (wanted_if hops 6 false (by rfl) 41 (by rfl) false (by rfl)) (by rw [hK.out]; rfl) (by rfl) _ (Or.inl (by rfl)) (.int .i64 (j : Int)) (by rfl) ?_
              refine fl_op2 44 (by rfl) (by decide) (wanted_if hops 6 false (by rfl) 41 (by rfl) false (by rfl)) (by rw [hK.out]; rfl) (by rfl) (.tmp 42) (.tmp 43) (.slice (some ⟨g, 0, none⟩) 60 c) (.int .i64 (j : Int)) (by rfl) (by rfl) (.pointer (some ⟨g, j * 2, none⟩)) (fun ρ h1 h2 kk w1 (hg : Grow _ w1) hb hf => by go_simp; intro hlt; omega) ?_
              refine fl_op1 45 (by rfl) (by decide) (wanted_if hops 6 false (by rfl) 41 (by rfl) false (by rfl)) (by rw [hK.out]; rfl) (by rfl) (.tmp 44) (.pointer (some ⟨g, j * 2, none⟩)) (by rfl) (.pointer (some ⟨g, j * 2 + 1, none⟩)) (fun ρ h1 kk w1 (hg : Grow _ w1) hb hf => by go_simp) ?_
              refine fl_op1 46 (by rfl) (by decide) (wanted_if hops 6 false (by rfl) 41 (by rfl) false (by rfl)) (by rw [hK.out]; rfl) (by rfl) (.tmp 45) (.pointer (some ⟨g, j * 2 + 1, none⟩)) (by rfl) (.int .i64 (qn : Int)) (fun ρ h1 kk w1 (hg : Grow _ w1) hb hf => by have c1 := (hc w1 (hg.block g hgl)).2; go_simp) ?_
              refine fl_mv 47 (by rfl) (by decide) (wanted_if hops 6 false (by rfl) 41 (by rfl) false (by rfl)) (by rw [hK.out]; rfl) (by rfl) _ (Or.inl (by rfl)) (.int .i64 60) (by rfl) ?_
              refine fl_op2 48 (by rfl) (by decide) (wanted_if hops 6 false (by rfl) 41 (by rfl) false (by rfl)) (by rw [hK.out]; rfl) (by rfl) (.tmp 46) (.tmp 47) (.int .i64 (qn : Int)) (.int .i64 60) (by rfl) (by rfl) (.bool false) (fun ρ h1 h2 kk w1 (hg : Grow _ w1) hb hf => by go_simp) ?_
              refine fl_pick 49 (by rfl) (by decide) (wanted_none (by rfl)) (by rw [hK.out]; rfl) (by rfl) _ _ _ (by rfl) false (by rfl) (.bool false) (by rfl) ?_
              refine fl_mv 50 (by rfl) (by decide) (wanted_none (by rfl)) (by rw [hK.out]; rfl) (by rfl) _ (Or.inl (by rfl)) (.bool false) (by rfl) ?_
              refine fl_mv 51 (by rfl) (by decide) (wanted_if hops 15 false (by rfl) 50 (by rfl) false (by rfl)) (by rw [hK.out]; rfl) (by rfl) _ (Or.inl (by rfl)) (.slice (some ⟨g, 0, none⟩) 60 c) (by rfl) ?_
              refine fl_mv 52 (by rfl) (by decide) (wanted_if hops 15 false (by rfl) 50 (by rfl) false (by rfl)) (by rw [hK.out]; rfl) (by rfl) _ (Or.inl (by rfl)) (.int .i64 (j : Int)) (by rfl) ?_
              refine fl_op2 53 (by rfl) (by decide) (wanted_if hops 15 false (by rfl) 50 (by rfl) false (by rfl)) (by rw [hK.out]; rfl) (by rfl) (.tmp 51) (.tmp 52) (.slice (some ⟨g, 0, none⟩) 60 c) (.int .i64 (j : Int)) (by rfl) (by rfl) (.pointer (some ⟨g, j * 2, none⟩)) (fun ρ h1 h2 kk w1 (hg : Grow _ w1) hb hf => by go_simp; intro hlt; omega) ?_
              refine fl_op1 54 (by rfl) (by decide) (wanted_if hops 15 false (by rfl) 50 (by rfl) false (by rfl)) (by rw [hK.out]; rfl) (by rfl) (.tmp 53) (.pointer (some ⟨g, j * 2, none⟩)) (by rfl) (.pointer (some ⟨g, j * 2, none⟩)) (fun ρ h1 kk w1 (hg : Grow _ w1) hb hf => by go_simp) ?_
              refine fl_op1 55 (by rfl) (by decide) (wanted_if hops 15 false (by rfl) 50 (by rfl) false (by rfl)) (by rw [hK.out]; rfl) (by rfl) (.tmp 54) (.pointer (some ⟨g, j * 2, none⟩)) (by rfl) (.int .i64 p) (fun ρ h1 kk w1 (hg : Grow _ w1) hb hf => by have c1 := (hc w1 (hg.block g hgl)).1; go_simp) ?_
              refine fl_mv 56 (by rfl) (by decide) (wanted_if hops 15 false (by rfl) 50 (by rfl) false (by rfl)) (by rw [hK.out]; rfl) (by rfl) _ (Or.inl (by rfl)) (.slice (some ad) 60 c0) (by rfl) ?_
              refine fl_mv 57 (by rfl) (by decide) (wanted_if hops 15 false (by rfl) 50 (by rfl) false (by rfl)) (by rw [hK.out]; rfl) (by rfl) _ (Or.inl (by rfl)) (.slice (some ⟨g, 0, none⟩) 60 c) (by rfl) ?_
              refine fl_mv 58 (by rfl) (by decide) (wanted_if hops 15 false (by rfl) 50 (by rfl) false (by rfl)) (by rw [hK.out]; rfl) (by rfl) _ (Or.inl (by rfl)) (.int .i64 (j : Int)) (by rfl) ?_
              refine fl_op2 59 (by rfl) (by decide) (wanted_if hops 15 false (by rfl) 50 (by rfl) false (by rfl)) (by rw [hK.out]; rfl) (by rfl) (.tmp 57) (.tmp 58) (.slice (some ⟨g, 0, none⟩) 60 c) (.int .i64 (j : Int)) (by rfl) (by rfl) (.pointer (some ⟨g, j * 2, none⟩)) (fun ρ h1 h2 kk w1 (hg : Grow _ w1) hb hf => by go_simp; intro hlt; omega) ?_
              refine fl_op1 60 (by rfl) (by decide) (wanted_if hops 15 false (by rfl) 50 (by rfl) false (by rfl)) (by rw [hK.out]; rfl) (by rfl) (.tmp 59) (.pointer (some ⟨g, j * 2, none⟩)) (by rfl) (.pointer (some ⟨g, j * 2 + 1, none⟩)) (fun ρ h1 kk w1 (hg : Grow _ w1) hb hf => by go_simp) ?_
              refine fl_op1 61 (by rfl) (by decide) (wanted_if hops 15 false (by rfl) 50 (by rfl) false (by rfl)) (by rw [hK.out]; rfl) (by rfl) (.tmp 60) (.pointer (some ⟨g, j * 2 + 1, none⟩)) (by rfl) (.int .i64 (qn : Int)) (fun ρ h1 kk w1 (hg : Grow _ w1) hb hf => by have c1 := (hc w1 (hg.block g hgl)).2; go_simp) ?_
              refine fl_op2 62 (by rfl) (by decide) (wanted_if hops 15 false (by rfl) 50 (by rfl) false (by rfl)) (by rw [hK.out]; rfl) (by rfl) (.tmp 56) (.tmp 61) (.slice (some ad) 60 c0) (.int .i64 (qn : Int)) (by rfl) (by rfl) (.pointer (some (ad.add qn))) (fun ρ h1 h2 kk w1 (hg : Grow _ w1) hb hf => by go_simp; try (intro hlt; omega)) ?_
              refine fl_op1 63 (by rfl) (by decide) (wanted_if hops 15 false (by rfl) 50 (by rfl) false (by rfl)) (by rw [hK.out]; rfl) (by rfl) (.tmp 62) (.pointer (some (ad.add qn))) (by rfl) (.int .i64 p) (fun ρ h1 kk w1 (hg : Grow _ w1) hb hf => by have c1 := (hg.cell (p := ad.add qn) hadB).trans f0; go_simp) ?_
              refine fl_op2 64 (by rfl) (by decide) (wanted_if hops 15 false (by rfl) 50 (by rfl) false (by rfl)) (by rw [hK.out]; rfl) (by rfl) (.tmp 55) (.tmp 63) (.int .i64 p) (.int .i64 p) (by rfl) (by rfl) (.bool false) (fun ρ h1 h2 kk w1 (hg : Grow _ w1) hb hf => by go_simp) ?_
              refine fl_pick 65 (by rfl) (by decide) (wanted_none (by rfl)) (by rw [hK.out]; rfl) (by rfl) _ _ _ (by rfl) false (by rfl) (.bool false) (by rfl) ?_
              refine fl_mv 66 (by rfl) (by decide) (wanted_none (by rfl)) (by rw [hK.out]; rfl) (by rfl) _ (Or.inl (by rfl)) (.bool false) (by rfl) ?_
              refine fl_mv 67 (by rfl) (by decide) (wanted_if hops 31 false (by rfl) 66 (by rfl) false (by rfl)) (by rw [hK.out]; rfl) (by rfl) _ (Or.inl (by rfl)) (.int .i64 (j : Int)) (by rfl) ?_
              refine fl_op2 68 (by rfl) (by decide) (wanted_if hops 31 false (by rfl) 66 (by rfl) false (by rfl)) (by rw [hK.out]; rfl) (by rfl) (.tmp 67) (.const (.int .i64 0)) (.int .i64 (j : Int)) (.int .i64 0) (by rfl) (by rfl) (.bool false) (fun ρ h1 h2 kk w1 (hg : Grow _ w1) hb hf => by go_simp; exact H0.out) ?_
              refine fl_mv 69 (by rfl) (by decide) (wanted_if hops 31 false (by rfl) 66 (by rfl) false (by rfl)) (by rw [hK.out]; rfl) (by rfl) _ (Or.inl (by rfl)) (.bool false) (by rfl) ?_
              refine fl_skip 70 (by rfl) (by decide) (wanted_if hops 34 true (by rfl) 69 (by rfl) false (by rfl)) (by rfl) ?_
              refine fl_skip 71 (by rfl) (by decide) (wanted_if hops 34 true (by rfl) 69 (by rfl) false (by rfl)) (by rfl) ?_
              refine fl_skip 72 (by rfl) (by decide) (wanted_if hops 34 true (by rfl) 69 (by rfl) false (by rfl)) (by rfl) ?_
              refine fl_skip 73 (by rfl) (by decide) (wanted_if hops 34 true (by rfl) 69 (by rfl) false (by rfl)) (by rfl) ?_
              refine fl_skip 74 (by rfl) (by decide) (wanted_if hops 34 true (by rfl) 69 (by rfl) false (by rfl)) (by rfl) ?_
              refine fl_skip 75 (by rfl) (by decide) (wanted_if hops 34 true (by rfl) 69 (by rfl) false (by rfl)) (by rfl) ?_
              refine fl_skip 76 (by rfl) (by decide) (wanted_if hops 34 true (by rfl) 69 (by rfl) false (by rfl)) (by rfl) ?_
              refine fl_skip 77 (by rfl) (by decide) (wanted_if hops 34 true (by rfl) 69 (by rfl) false (by rfl)) (by rfl) ?_
              refine fl_skip 78 (by rfl) (by decide) (wanted_if hops 34 true (by rfl) 69 (by rfl) false (by rfl)) (by rfl) ?_
              refine fl_skip 79 (by rfl) (by decide) (wanted_if hops 34 true (by rfl) 69 (by rfl) false (by rfl)) (by rfl) ?_
              refine fl_skip 80 (by rfl) (by decide) (wanted_if hops 34 true (by rfl) 69 (by rfl) false (by rfl)) (by rfl) ?_
              refine fl_skip 81 (by rfl) (by decide) (wanted_if hops 34 true (by rfl) 69 (by rfl) false (by rfl)) (by rfl) ?_
              refine fl_skip 82 (by rfl) (by decide) (wanted_if hops 34 true (by rfl) 69 (by rfl) false (by rfl)) (by rfl) ?_
              refine fl_skip 83 (by rfl) (by decide) (wanted_out hops 47 false (by rfl) 82 (by rfl) (by rfl)) (by rfl) ?_
              refine fl_skip 84 (by rfl) (by decide) (wanted_out hops 47 false (by rfl) 82 (by rfl) (by rfl)) (by rfl) ?_
              refine fl_skip 85 (by rfl) (by decide) (wanted_out hops 47 false (by rfl) 82 (by rfl) (by rfl)) (by rfl) ?_
              refine fl_skip 86 (by rfl) (by decide) (wanted_out hops 47 false (by rfl) 82 (by rfl) (by rfl)) (by rfl) ?_
              refine fl_skip 87 (by rfl) (by decide) (wanted_out hops 47 false (by rfl) 82 (by rfl) (by rfl)) (by rfl) ?_
              refine fl_skip 88 (by rfl) (by decide) (wanted_out hops 47 false (by rfl) 82 (by rfl) (by rfl)) (by rfl) ?_
              refine fl_skip 89 (by rfl) (by decide) (wanted_out hops 47 false (by rfl) 82 (by rfl) (by rfl)) (by rfl) ?_
              refine fl_skip 90 (by rfl) (by decide) (wanted_out hops 47 false (by rfl) 82 (by rfl) (by rfl)) (by rfl) ?_
              refine fl_skip 91 (by rfl) (by decide) (wanted_out hops 47 false (by rfl) 82 (by rfl) (by rfl)) (by rfl) ?_
              refine fl_skip 92 (by rfl) (by decide) (wanted_out hops 47 false (by rfl) 82 (by rfl) (by rfl)) (by rfl) ?_
              refine fl_skip 93 (by rfl) (by decide) (wanted_out hops 47 false (by rfl) 82 (by rfl) (by rfl)) (by rfl) ?_
              refine fl_skip 94 (by rfl) (by decide) (wanted_out hops 47 false (by rfl) 82 (by rfl) (by rfl)) (by rfl) ?_
              refine fl_skip 95 (by rfl) (by decide) (wanted_out hops 47 false (by rfl) 82 (by rfl) (by rfl)) (by rfl) ?_
              refine fl_skip 96 (by rfl) (by decide) (wanted_out hops 60 true (by rfl) 95 (by rfl) (by rfl)) (by rfl) ?_
              refine fl_skip 97 (by rfl) (by decide) (wanted_out hops 60 true (by rfl) 95 (by rfl) (by rfl)) (by rfl) ?_
              refine fl_skip 98 (by rfl) (by decide) (wanted_out hops 60 true (by rfl) 95 (by rfl) (by rfl)) (by rfl) ?_
              refine fl_skip 99 (by rfl) (by decide) (wanted_out hops 60 true (by rfl) 95 (by rfl) (by rfl)) (by rfl) ?_
              refine fl_skip 100 (by rfl) (by decide) (wanted_out hops 60 true (by rfl) 95 (by rfl) (by rfl)) (by rfl) ?_
              refine fl_skip 101 (by rfl) (by decide) (wanted_out hops 60 true (by rfl) 95 (by rfl) (by rfl)) (by rfl) ?_
              refine fl_skip 102 (by rfl) (by decide) (wanted_out hops 60 true (by rfl) 95 (by rfl) (by rfl)) (by rfl) ?_
              refine fl_skip 103 (by rfl) (by decide) (wanted_out hops 60 true (by rfl) 95 (by rfl) (by rfl)) (by rfl) ?_
              refine fl_skip 104 (by rfl) (by decide) (wanted_out hops 60 true (by rfl) 95 (by rfl) (by rfl)) (by rfl) ?_
              refine fl_skip 105 (by rfl) (by decide) (wanted_out hops 60 true (by rfl) 95 (by rfl) (by rfl)) (by rfl) ?_
              refine fl_skip 106 (by rfl) (by decide) (wanted_out hops 60 true (by rfl) 95 (by rfl) (by rfl)) (by rfl) ?_
              refine fl_skip 107 (by rfl) (by decide) (wanted_out hops 60 true (by rfl) 95 (by rfl) (by rfl)) (by rfl) ?_
              refine fl_skip 108 (by rfl) (by decide) (wanted_out hops 47 false (by rfl) 82 (by rfl) (by rfl)) (by rfl) ?_
              refine fl_skip 109 (by rfl) (by decide) (wanted_if hops 34 true (by rfl) 69 (by rfl) false (by rfl)) (by rfl) ?_
              refine fl_pick 110 (by rfl) (by decide) (wanted_if hops 31 false (by rfl) 66 (by rfl) false (by rfl)) (by rw [hK.out]; rfl) (by rfl) _ _ _ (by rfl) false (by rfl) (.bool false) (by rfl) ?_
              refine fl_pick 111 (by rfl) (by decide) (wanted_none (by rfl)) (by rw [hK.out]; rfl) (by rfl) _ _ _ (by rfl) false (by rfl) (.bool false) (by rfl) ?_
              refine fl_end (fun _ _ w1 (hg : Grow _ w1) _ hfacts => hT _ _ ?_)
              clear hops hA' hK hT
              simp only [putsL, Act.put, List.setIfInBounds_toArray, List.set_cons_zero, List.set_cons_succ, List.drop_succ_cons, List.drop_zero]
              clear hfacts
              have hPg := hPj.grow hg
              have hlk := pm_look0 hPg (qn : Int) hwq
              rw [hnew] at hlk
              obtain ⟨w3, hrun, hP3, hj3⟩ := hPg.put intMap (qn : Int) 1 hwq (by decide) (by unfold maxLen; omega)
              rw [hnew, Option.isSome_none, if_neg (by simp)] at hP3
              have hP3 := PMap.imp hP3 (f' := seenF S (j + 1)) fun y _ => hnext y
              have e1 := (hc w1 (hg.block g hgl)).2
              go_wp2_with fail
              go_roundw
              case rel => exact ⟨j + 1, by omega, by go_num, hP3, (hjr.trans (Just.of_grow hg)).trans hj3⟩
              case measure => simp [intOf]; omega
            · have hj0 : decide ((0 : Int) < (j : Int)) = true := decide_eq_true (by omega)
              have hjt : ((j : Int) - 1).toNat = j - 1 := by omega
              have hj1 : 0 ≤ (j : Int) - 1 := by omega
              have hj2' : (j : Int) - 1 < (60 : Int) := by omega
              have hjw : IntKind.i64.wrap ((j : Int) - 1) = (j : Int) - 1 := by rw [IntKind.wrap_i64]; omega
              obtain ⟨g', hA, _, _, hc'⟩ := own_item hOr (k := j - 1) (by omega)
              injection hA with hA
              injection hA with hA _ _
              subst hA
              have hlt := hpr (j - 1) (by omega)
              generalize hat S (j - 1) = ai at hc' hlt
              obtain ⟨p', q'⟩ := ai
              unfold Lt at hlt
              dsimp only at hc' hlt
              have hd1 : decide (p < p') = false := decide_eq_false (by omega)
              clear hpr
              by_cases hpe : p = p'
              · have hd2 : (p == p') = true := beq_iff_eq.2 hpe
                have hd3 : decide ((qn : Int) ≤ q') = false := decide_eq_false (by omega)
                have HPE := Lib.hid hpe
                clear hpe
                go_wp2_with fail
                refine wp_region_flow 77 139 [] rfl rfl (by kernel_rfl) (by kernel_rfl) (by kernel_rfl) ?_ ?_
                · intro x hx φ he
                  cases hx
                intro ops' A' K' T hops hA' hK hT
                refine fl_mv 35 (by rfl) (by decide) (wanted_none (by rfl)) (by rw [hK.out]; rfl) (by rfl) _ (Or.inl (by rfl)) (.slice (some ⟨g, 0, none⟩) 60 c) (by rfl) ?_
                refine fl_mv 36 (by rfl) (by decide) (wanted_none (by rfl)) (by rw [hK.out]; rfl) (by rfl) _ (Or.inl (by rfl)) (.int .i64 (j : Int)) (by rfl) ?_
                refine fl_op2 37 (by rfl) (by decide) (wanted_none (by rfl)) (by rw [hK.out]; rfl) (by rfl) (.tmp 35) (.tmp 36) (.slice (some ⟨g, 0, none⟩) 60 c) (.int .i64 (j : Int)) (by rfl) (by rfl) (.pointer (some ⟨g, j * 2, none⟩)) (fun ρ h1 h2 kk w1 (hg : Grow _ w1) hb hf => by go_simp; intro hlt; omega) ?_
                refine fl_op1 38 (by rfl) (by decide) (wanted_none (by rfl)) (by rw [hK.out]; rfl) (by rfl) (.tmp 37) (.pointer (some ⟨g, j * 2, none⟩)) (by rfl) (.pointer (some ⟨g, j * 2 + 1, none⟩)) (fun ρ h1 kk w1 (hg : Grow _ w1) hb hf => by go_simp) ?_
                refine fl_op1 39 (by rfl) (by decide) (wanted_none (by rfl)) (by rw [hK.out]; rfl) (by rfl) (.tmp 38) (.pointer (some ⟨g, j * 2 + 1, none⟩)) (by rfl) (.int .i64 (qn : Int)) (fun ρ h1 kk w1 (hg : Grow _ w1) hb hf => by have c1 := (hc w1 (hg.block g hgl)).2; go_simp) ?_
                refine fl_op2 40 (by rfl) (by decide) (wanted_none (by rfl)) (by rw [hK.out]; rfl) (by rfl) (.tmp 39) (.const (.int .i64 0)) (.int .i64 (qn : Int)) (.int .i64 0) (by rfl) (by rfl) (.bool false) (fun ρ h1 h2 kk w1 (hg : Grow _ w1) hb hf => by go_simp) ?_
                refine fl_mv 41 (by rfl) (by decide) (wanted_none (by rfl)) (by rw [hK.out]; rfl) (by rfl) _ (Or.inl (by rfl)) (.bool false) (by rfl) ?_
                refine fl_mv 42 (by rfl) (by decide) (wanted_if hops 6 false (by rfl) 41 (by rfl) false (by rfl)) (by rw [hK.out]; rfl) (by rfl) _ (Or.inl (by rfl)) (.slice (some ⟨g, 0, none⟩) 60 c) (by rfl) ?_
                refine fl_mv 43 (by rfl) (by decide) (wanted_if hops 6 false (by rfl) 41 (by rfl) false (by rfl)) (by rw [hK.out]; rfl) (by rfl) _ (Or.inl (by rfl)) (.int .i64 (j : Int)) (by rfl) ?_
                refine fl_op2 44 (by rfl) (by decide) (wanted_if hops 6 false (by rfl) 41 (by rfl) false (by rfl)) (by rw [hK.out]; rfl) (by rfl) (.tmp 42) (.tmp 43) (.slice (some ⟨g, 0, none⟩) 60 c) (.int .i64 (j : Int)) (by rfl) (by rfl) (.pointer (some ⟨g, j * 2, none⟩)) (fun ρ h1 h2 kk w1 (hg : Grow _ w1) hb hf => by go_simp; intro hlt; omega) ?_
                refine fl_op1 45 (by rfl) (by decide) (wanted_if hops 6 false (by rfl) 41 (by rfl) false (by rfl)) (by rw [hK.out]; rfl) (by rfl) (.tmp 44) (.pointer (some ⟨g, j * 2, none⟩)) (by rfl) (.pointer (some ⟨g, j * 2 + 1, none⟩)) (fun ρ h1 kk w1 (hg : Grow _ w1) hb hf => by go_simp) ?_
                refine fl_op1 46 (by rfl) (by decide) (wanted_if hops 6 false (by rfl) 41 (by rfl) false (by rfl)) (by rw [hK.out]; rfl) (by rfl) (.tmp 45) (.pointer (some ⟨g, j * 2 + 1, none⟩)) (by rfl) (.int .i64 (qn : Int)) (fun ρ h1 kk w1 (hg : Grow _ w1) hb hf => by have c1 := (hc w1 (hg.block g hgl)).2; go_simp) ?_
                refine fl_mv 47 (by rfl) (by decide) (wanted_if hops 6 false (by rfl) 41 (by rfl) false (by rfl)) (by rw [hK.out]; rfl) (by rfl) _ (Or.inl (by rfl)) (.int .i64 60) (by rfl) ?_
                refine fl_op2 48 (by rfl) (by decide) (wanted_if hops 6 false (by rfl) 41 (by rfl) false (by rfl)) (by rw [hK.out]; rfl) (by rfl) (.tmp 46) (.tmp 47) (.int .i64 (qn : Int)) (.int .i64 60) (by rfl) (by rfl) (.bool false) (fun ρ h1 h2 kk w1 (hg : Grow _ w1) hb hf => by go_simp) ?_
                refine fl_pick 49 (by rfl) (by decide) (wanted_none (by rfl)) (by rw [hK.out]; rfl) (by rfl) _ _ _ (by rfl) false (by rfl) (.bool false) (by rfl) ?_
                refine fl_mv 50 (by rfl) (by decide) (wanted_none (by rfl)) (by rw [hK.out]; rfl) (by rfl) _ (Or.inl (by rfl)) (.bool false) (by rfl) ?_
                refine fl_mv 51 (by rfl) (by decide) (wanted_if hops 15 false (by rfl) 50 (by rfl) false (by rfl)) (by rw [hK.out]; rfl) (by rfl) _ (Or.inl (by rfl)) (.slice (some ⟨g, 0, none⟩) 60 c) (by rfl) ?_
                refine fl_mv 52 (by rfl) (by decide) (wanted_if hops 15 false (by rfl) 50 (by rfl) false (by rfl)) (by rw [hK.out]; rfl) (by rfl) _ (Or.inl (by rfl)) (.int .i64 (j : Int)) (by rfl) ?_
                refine fl_op2 53 (by rfl) (by decide) (wanted_if hops 15 false (by rfl) 50 (by rfl) false (by rfl)) (by rw [hK.out]; rfl) (by rfl) (.tmp 51) (.tmp 52) (.slice (some ⟨g, 0, none⟩) 60 c) (.int .i64 (j : Int)) (by rfl) (by rfl) (.pointer (some ⟨g, j * 2, none⟩)) (fun ρ h1 h2 kk w1 (hg : Grow _ w1) hb hf => by go_simp; intro hlt; omega) ?_
                refine fl_op1 54 (by rfl) (by decide) (wanted_if hops 15 false (by rfl) 50 (by rfl) false (by rfl)) (by rw [hK.out]; rfl) (by rfl) (.tmp 53) (.pointer (some ⟨g, j * 2, none⟩)) (by rfl) (.pointer (some ⟨g, j * 2, none⟩)) (fun ρ h1 kk w1 (hg : Grow _ w1) hb hf => by go_simp) ?_
                refine fl_op1 55 (by rfl) (by decide) (wanted_if hops 15 false (by rfl) 50 (by rfl) false (by rfl)) (by rw [hK.out]; rfl) (by rfl) (.tmp 54) (.pointer (some ⟨g, j * 2, none⟩)) (by rfl) (.int .i64 p) (fun ρ h1 kk w1 (hg : Grow _ w1) hb hf => by have c1 := (hc w1 (hg.block g hgl)).1; go_simp) ?_
                refine fl_mv 56 (by rfl) (by decide) (wanted_if hops 15 false (by rfl) 50 (by rfl) false (by rfl)) (by rw [hK.out]; rfl) (by rfl) _ (Or.inl (by rfl)) (.slice (some ad) 60 c0) (by rfl) ?_
                refine fl_mv 57 (by rfl) (by decide) (wanted_if hops 15 false (by rfl) 50 (by rfl) false (by rfl)) (by rw [hK.out]; rfl) (by rfl) _ (Or.inl (by rfl)) (.slice (some ⟨g, 0, none⟩) 60 c) (by rfl) ?_
                refine fl_mv 58 (by rfl) (by decide) (wanted_if hops 15 false (by rfl) 50 (by rfl) false (by rfl)) (by rw [hK.out]; rfl) (by rfl) _ (Or.inl (by rfl)) (.int .i64 (j : Int)) (by rfl) ?_
                refine fl_op2 59 (by rfl) (by decide) (wanted_if hops 15 false (by rfl) 50 (by rfl) false (by rfl)) (by rw [hK.out]; rfl) (by rfl) (.tmp 57) (.tmp 58) (.slice (some ⟨g, 0, none⟩) 60 c) (.int .i64 (j : Int)) (by rfl) (by rfl) (.pointer (some ⟨g, j * 2, none⟩)) (fun ρ h1 h2 kk w1 (hg : Grow _ w1) hb hf => by go_simp; intro hlt; omega) ?_
                refine fl_op1 60 (by rfl) (by decide) (wanted_if hops 15 false (by rfl) 50 (by rfl) false (by rfl)) (by rw [hK.out]; rfl) (by rfl) (.tmp 59) (.pointer (some ⟨g, j * 2, none⟩)) (by rfl) (.pointer (some ⟨g, j * 2 + 1, none⟩)) (fun ρ h1 kk w1 (hg : Grow _ w1) hb hf => by go_simp) ?_
                refine fl_op1 61 (by rfl) (by decide) (wanted_if hops 15 false (by rfl) 50 (by rfl) false (by rfl)) (by rw [hK.out]; rfl) (by rfl) (.tmp 60) (.pointer (some ⟨g, j * 2 + 1, none⟩)) (by rfl) (.int .i64 (qn : Int)) (fun ρ h1 kk w1 (hg : Grow _ w1) hb hf => by have c1 := (hc w1 (hg.block g hgl)).2; go_simp) ?_
                refine fl_op2 62 (by rfl) (by decide) (wanted_if hops 15 false (by rfl) 50 (by rfl) false (by rfl)) (by rw [hK.out]; rfl) (by rfl) (.tmp 56) (.tmp 61) (.slice (some ad) 60 c0) (.int .i64 (qn : Int)) (by rfl) (by rfl) (.pointer (some (ad.add qn))) (fun ρ h1 h2 kk w1 (hg : Grow _ w1) hb hf => by go_simp; try (intro hlt; omega)) ?_
                refine fl_op1 63 (by rfl) (by decide) (wanted_if hops 15 false (by rfl) 50 (by rfl) false (by rfl)) (by rw [hK.out]; rfl) (by rfl) (.tmp 62) (.pointer (some (ad.add qn))) (by rfl) (.int .i64 p) (fun ρ h1 kk w1 (hg : Grow _ w1) hb hf => by have c1 := (hg.cell (p := ad.add qn) hadB).trans f0; go_simp) ?_
                refine fl_op2 64 (by rfl) (by decide) (wanted_if hops 15 false (by rfl) 50 (by rfl) false (by rfl)) (by rw [hK.out]; rfl) (by rfl) (.tmp 55) (.tmp 63) (.int .i64 p) (.int .i64 p) (by rfl) (by rfl) (.bool false) (fun ρ h1 h2 kk w1 (hg : Grow _ w1) hb hf => by go_simp) ?_
                refine fl_pick 65 (by rfl) (by decide) (wanted_none (by rfl)) (by rw [hK.out]; rfl) (by rfl) _ _ _ (by rfl) false (by rfl) (.bool false) (by rfl) ?_
                refine fl_mv 66 (by rfl) (by decide) (wanted_none (by rfl)) (by rw [hK.out]; rfl) (by rfl) _ (Or.inl (by rfl)) (.bool false) (by rfl) ?_
                refine fl_mv 67 (by rfl) (by decide) (wanted_if hops 31 false (by rfl) 66 (by rfl) false (by rfl)) (by rw [hK.out]; rfl) (by rfl) _ (Or.inl (by rfl)) (.int .i64 (j : Int)) (by rfl) ?_
                refine fl_op2 68 (by rfl) (by decide) (wanted_if hops 31 false (by rfl) 66 (by rfl) false (by rfl)) (by rw [hK.out]; rfl) (by rfl) (.tmp 67) (.const (.int .i64 0)) (.int .i64 (j : Int)) (.int .i64 0) (by rfl) (by rfl) (.bool true) (fun ρ h1 h2 kk w1 (hg : Grow _ w1) hb hf => by go_simp; omega) ?_
                refine fl_mv 69 (by rfl) (by decide) (wanted_if hops 31 false (by rfl) 66 (by rfl) false (by rfl)) (by rw [hK.out]; rfl) (by rfl) _ (Or.inl (by rfl)) (.bool true) (by rfl) ?_
                refine fl_mv 70 (by rfl) (by decide) (wanted_if hops 34 true (by rfl) 69 (by rfl) true (by rfl)) (by rw [hK.out]; rfl) (by rfl) _ (Or.inl (by rfl)) (.slice (some ⟨g, 0, none⟩) 60 c) (by rfl) ?_
                refine fl_mv 71 (by rfl) (by decide) (wanted_if hops 34 true (by rfl) 69 (by rfl) true (by rfl)) (by rw [hK.out]; rfl) (by rfl) _ (Or.inl (by rfl)) (.int .i64 (j : Int)) (by rfl) ?_
                refine fl_op2 72 (by rfl) (by decide) (wanted_if hops 34 true (by rfl) 69 (by rfl) true (by rfl)) (by rw [hK.out]; rfl) (by rfl) (.tmp 70) (.tmp 71) (.slice (some ⟨g, 0, none⟩) 60 c) (.int .i64 (j : Int)) (by rfl) (by rfl) (.pointer (some ⟨g, j * 2, none⟩)) (fun ρ h1 h2 kk w1 (hg : Grow _ w1) hb hf => by go_simp; intro hlt; omega) ?_
                refine fl_op1 73 (by rfl) (by decide) (wanted_if hops 34 true (by rfl) 69 (by rfl) true (by rfl)) (by rw [hK.out]; rfl) (by rfl) (.tmp 72) (.pointer (some ⟨g, j * 2, none⟩)) (by rfl) (.pointer (some ⟨g, j * 2, none⟩)) (fun ρ h1 kk w1 (hg : Grow _ w1) hb hf => by go_simp) ?_
                refine fl_op1 74 (by rfl) (by decide) (wanted_if hops 34 true (by rfl) 69 (by rfl) true (by rfl)) (by rw [hK.out]; rfl) (by rfl) (.tmp 73) (.pointer (some ⟨g, j * 2, none⟩)) (by rfl) (.int .i64 p) (fun ρ h1 kk w1 (hg : Grow _ w1) hb hf => by have c1 := (hc w1 (hg.block g hgl)).1; go_simp) ?_
                refine fl_mv 75 (by rfl) (by decide) (wanted_if hops 34 true (by rfl) 69 (by rfl) true (by rfl)) (by rw [hK.out]; rfl) (by rfl) _ (Or.inl (by rfl)) (.slice (some ⟨g, 0, none⟩) 60 c) (by rfl) ?_
                refine fl_mv 76 (by rfl) (by decide) (wanted_if hops 34 true (by rfl) 69 (by rfl) true (by rfl)) (by rw [hK.out]; rfl) (by rfl) _ (Or.inl (by rfl)) (.int .i64 (j : Int)) (by rfl) ?_
                refine fl_op2 77 (by rfl) (by decide) (wanted_if hops 34 true (by rfl) 69 (by rfl) true (by rfl)) (by rw [hK.out]; rfl) (by rfl) (.tmp 76) (.const (.int .i64 1)) (.int .i64 (j : Int)) (.int .i64 1) (by rfl) (by rfl) (.int .i64 ((j : Int) - 1)) (fun ρ h1 h2 kk w1 (hg : Grow _ w1) hb hf => by go_simp) ?_
                refine fl_op2 78 (by rfl) (by decide) (wanted_if hops 34 true (by rfl) 69 (by rfl) true (by rfl)) (by rw [hK.out]; rfl) (by rfl) (.tmp 75) (.tmp 77) (.slice (some ⟨g, 0, none⟩) 60 c) (.int .i64 ((j : Int) - 1)) (by rfl) (by rfl) (.pointer (some ⟨g, (j - 1) * 2, none⟩)) (fun ρ h1 h2 kk w1 (hg : Grow _ w1) hb hf => by go_simp; try (intro hlt; omega)) ?_
                refine fl_op1 79 (by rfl) (by decide) (wanted_if hops 34 true (by rfl) 69 (by rfl) true (by rfl)) (by rw [hK.out]; rfl) (by rfl) (.tmp 78) (.pointer (some ⟨g, (j - 1) * 2, none⟩)) (by rfl) (.pointer (some ⟨g, (j - 1) * 2, none⟩)) (fun ρ h1 kk w1 (hg : Grow _ w1) hb hf => by go_simp) ?_
                refine fl_op1 80 (by rfl) (by decide) (wanted_if hops 34 true (by rfl) 69 (by rfl) true (by rfl)) (by rw [hK.out]; rfl) (by rfl) (.tmp 79) (.pointer (some ⟨g, (j - 1) * 2, none⟩)) (by rfl) (.int .i64 p') (fun ρ h1 kk w1 (hg : Grow _ w1) hb hf => by have c1 := (hc' w1 (hg.block g hgl)).1; go_simp) ?_
                refine fl_op2 81 (by rfl) (by decide) (wanted_if hops 34 true (by rfl) 69 (by rfl) true (by rfl)) (by rw [hK.out]; rfl) (by rfl) (.tmp 74) (.tmp 80) (.int .i64 p) (.int .i64 p') (by rfl) (by rfl) (.bool false) (fun ρ h1 h2 kk w1 (hg : Grow _ w1) hb hf => by go_simp) ?_
                refine fl_mv 82 (by rfl) (by decide) (wanted_if hops 34 true (by rfl) 69 (by rfl) true (by rfl)) (by rw [hK.out]; rfl) (by rfl) _ (Or.inl (by rfl)) (.bool false) (by rfl) ?_
                refine fl_mv 83 (by rfl) (by decide) (wanted_if hops 47 false (by rfl) 82 (by rfl) false (by rfl)) (by rw [hK.out]; rfl) (by rfl) _ (Or.inl (by rfl)) (.slice (some ⟨g, 0, none⟩) 60 c) (by rfl) ?_
                refine fl_mv 84 (by rfl) (by decide) (wanted_if hops 47 false (by rfl) 82 (by rfl) false (by rfl)) (by rw [hK.out]; rfl) (by rfl) _ (Or.inl (by rfl)) (.int .i64 (j : Int)) (by rfl) ?_
                refine fl_op2 85 (by rfl) (by decide) (wanted_if hops 47 false (by rfl) 82 (by rfl) false (by rfl)) (by rw [hK.out]; rfl) (by rfl) (.tmp 83) (.tmp 84) (.slice (some ⟨g, 0, none⟩) 60 c) (.int .i64 (j : Int)) (by rfl) (by rfl) (.pointer (some ⟨g, j * 2, none⟩)) (fun ρ h1 h2 kk w1 (hg : Grow _ w1) hb hf => by go_simp; intro hlt; omega) ?_
                refine fl_op1 86 (by rfl) (by decide) (wanted_if hops 47 false (by rfl) 82 (by rfl) false (by rfl)) (by rw [hK.out]; rfl) (by rfl) (.tmp 85) (.pointer (some ⟨g, j * 2, none⟩)) (by rfl) (.pointer (some ⟨g, j * 2, none⟩)) (fun ρ h1 kk w1 (hg : Grow _ w1) hb hf => by go_simp) ?_
                refine fl_op1 87 (by rfl) (by decide) (wanted_if hops 47 false (by rfl) 82 (by rfl) false (by rfl)) (by rw [hK.out]; rfl) (by rfl) (.tmp 86) (.pointer (some ⟨g, j * 2, none⟩)) (by rfl) (.int .i64 p) (fun ρ h1 kk w1 (hg : Grow _ w1) hb hf => by have c1 := (hc w1 (hg.block g hgl)).1; go_simp) ?_
                refine fl_mv 88 (by rfl) (by decide) (wanted_if hops 47 false (by rfl) 82 (by rfl) false (by rfl)) (by rw [hK.out]; rfl) (by rfl) _ (Or.inl (by rfl)) (.slice (some ⟨g, 0, none⟩) 60 c) (by rfl) ?_
                refine fl_mv 89 (by rfl) (by decide) (wanted_if hops 47 false (by rfl) 82 (by rfl) false (by rfl)) (by rw [hK.out]; rfl) (by rfl) _ (Or.inl (by rfl)) (.int .i64 (j : Int)) (by rfl) ?_
                refine fl_op2 90 (by rfl) (by decide) (wanted_if hops 47 false (by rfl) 82 (by rfl) false (by rfl)) (by rw [hK.out]; rfl) (by rfl) (.tmp 89) (.const (.int .i64 1)) (.int .i64 (j : Int)) (.int .i64 1) (by rfl) (by rfl) (.int .i64 ((j : Int) - 1)) (fun ρ h1 h2 kk w1 (hg : Grow _ w1) hb hf => by go_simp) ?_
                refine fl_op2 91 (by rfl) (by decide) (wanted_if hops 47 false (by rfl) 82 (by rfl) false (by rfl)) (by rw [hK.out]; rfl) (by rfl) (.tmp 88) (.tmp 90) (.slice (some ⟨g, 0, none⟩) 60 c) (.int .i64 ((j : Int) - 1)) (by rfl) (by rfl) (.pointer (some ⟨g, (j - 1) * 2, none⟩)) (fun ρ h1 h2 kk w1 (hg : Grow _ w1) hb hf => by go_simp; try (intro hlt; omega)) ?_
                refine fl_op1 92 (by rfl) (by decide) (wanted_if hops 47 false (by rfl) 82 (by rfl) false (by rfl)) (by rw [hK.out]; rfl) (by rfl) (.tmp 91) (.pointer (some ⟨g, (j - 1) * 2, none⟩)) (by rfl) (.pointer (some ⟨g, (j - 1) * 2, none⟩)) (fun ρ h1 kk w1 (hg : Grow _ w1) hb hf => by go_simp) ?_
                refine fl_op1 93 (by rfl) (by decide) (wanted_if hops 47 false (by rfl) 82 (by rfl) false (by rfl)) (by rw [hK.out]; rfl) (by rfl) (.tmp 92) (.pointer (some ⟨g, (j - 1) * 2, none⟩)) (by rfl) (.int .i64 p') (fun ρ h1 kk w1 (hg : Grow _ w1) hb hf => by have c1 := (hc' w1 (hg.block g hgl)).1; go_simp) ?_
                refine fl_op2 94 (by rfl) (by decide) (wanted_if hops 47 false (by rfl) 82 (by rfl) false (by rfl)) (by rw [hK.out]; rfl) (by rfl) (.tmp 87) (.tmp 93) (.int .i64 p) (.int .i64 p') (by rfl) (by rfl) (.bool true) (fun ρ h1 h2 kk w1 (hg : Grow _ w1) hb hf => by go_simp) ?_
                refine fl_mv 95 (by rfl) (by decide) (wanted_if hops 47 false (by rfl) 82 (by rfl) false (by rfl)) (by rw [hK.out]; rfl) (by rfl) _ (Or.inl (by rfl)) (.bool true) (by rfl) ?_
                refine fl_mv 96 (by rfl) (by decide) (wanted_if hops 60 true (by rfl) 95 (by rfl) true (by rfl)) (by rw [hK.out]; rfl) (by rfl) _ (Or.inl (by rfl)) (.slice (some ⟨g, 0, none⟩) 60 c) (by rfl) ?_
                refine fl_mv 97 (by rfl) (by decide) (wanted_if hops 60 true (by rfl) 95 (by rfl) true (by rfl)) (by rw [hK.out]; rfl) (by rfl) _ (Or.inl (by rfl)) (.int .i64 (j : Int)) (by rfl) ?_
                refine fl_op2 98 (by rfl) (by decide) (wanted_if hops 60 true (by rfl) 95 (by rfl) true (by rfl)) (by rw [hK.out]; rfl) (by rfl) (.tmp 96) (.tmp 97) (.slice (some ⟨g, 0, none⟩) 60 c) (.int .i64 (j : Int)) (by rfl) (by rfl) (.pointer (some ⟨g, j * 2, none⟩)) (fun ρ h1 h2 kk w1 (hg : Grow _ w1) hb hf => by go_simp; intro hlt; omega) ?_
                refine fl_op1 99 (by rfl) (by decide) (wanted_if hops 60 true (by rfl) 95 (by rfl) true (by rfl)) (by rw [hK.out]; rfl) (by rfl) (.tmp 98) (.pointer (some ⟨g, j * 2, none⟩)) (by rfl) (.pointer (some ⟨g, j * 2 + 1, none⟩)) (fun ρ h1 kk w1 (hg : Grow _ w1) hb hf => by go_simp) ?_
                refine fl_op1 100 (by rfl) (by decide) (wanted_if hops 60 true (by rfl) 95 (by rfl) true (by rfl)) (by rw [hK.out]; rfl) (by rfl) (.tmp 99) (.pointer (some ⟨g, j * 2 + 1, none⟩)) (by rfl) (.int .i64 (qn : Int)) (fun ρ h1 kk w1 (hg : Grow _ w1) hb hf => by have c1 := (hc w1 (hg.block g hgl)).2; go_simp) ?_
                refine fl_mv 101 (by rfl) (by decide) (wanted_if hops 60 true (by rfl) 95 (by rfl) true (by rfl)) (by rw [hK.out]; rfl) (by rfl) _ (Or.inl (by rfl)) (.slice (some ⟨g, 0, none⟩) 60 c) (by rfl) ?_
                refine fl_mv 102 (by rfl) (by decide) (wanted_if hops 60 true (by rfl) 95 (by rfl) true (by rfl)) (by rw [hK.out]; rfl) (by rfl) _ (Or.inl (by rfl)) (.int .i64 (j : Int)) (by rfl) ?_
                refine fl_op2 103 (by rfl) (by decide) (wanted_if hops 60 true (by rfl) 95 (by rfl) true (by rfl)) (by rw [hK.out]; rfl) (by rfl) (.tmp 102) (.const (.int .i64 1)) (.int .i64 (j : Int)) (.int .i64 1) (by rfl) (by rfl) (.int .i64 ((j : Int) - 1)) (fun ρ h1 h2 kk w1 (hg : Grow _ w1) hb hf => by go_simp) ?_
                refine fl_op2 104 (by rfl) (by decide) (wanted_if hops 60 true (by rfl) 95 (by rfl) true (by rfl)) (by rw [hK.out]; rfl) (by rfl) (.tmp 101) (.tmp 103) (.slice (some ⟨g, 0, none⟩) 60 c) (.int .i64 ((j : Int) - 1)) (by rfl) (by rfl) (.pointer (some ⟨g, (j - 1) * 2, none⟩)) (fun ρ h1 h2 kk w1 (hg : Grow _ w1) hb hf => by go_simp; try (intro hlt; omega)) ?_
                refine fl_op1 105 (by rfl) (by decide) (wanted_if hops 60 true (by rfl) 95 (by rfl) true (by rfl)) (by rw [hK.out]; rfl) (by rfl) (.tmp 104) (.pointer (some ⟨g, (j - 1) * 2, none⟩)) (by rfl) (.pointer (some ⟨g, (j - 1) * 2 + 1, none⟩)) (fun ρ h1 kk w1 (hg : Grow _ w1) hb hf => by go_simp) ?_
                refine fl_op1 106 (by rfl) (by decide) (wanted_if hops 60 true (by rfl) 95 (by rfl) true (by rfl)) (by rw [hK.out]; rfl) (by rfl) (.tmp 105) (.pointer (some ⟨g, (j - 1) * 2 + 1, none⟩)) (by rfl) (.int .i64 q') (fun ρ h1 kk w1 (hg : Grow _ w1) hb hf => by have c1 := (hc' w1 (hg.block g hgl)).2; go_simp) ?_
                refine fl_op2 107 (by rfl) (by decide) (wanted_if hops 60 true (by rfl) 95 (by rfl) true (by rfl)) (by rw [hK.out]; rfl) (by rfl) (.tmp 100) (.tmp 106) (.int .i64 (qn : Int)) (.int .i64 q') (by rfl) (by rfl) (.bool false) (fun ρ h1 h2 kk w1 (hg : Grow _ w1) hb hf => by go_simp) ?_
                refine fl_pick 108 (by rfl) (by decide) (wanted_if hops 47 false (by rfl) 82 (by rfl) false (by rfl)) (by rw [hK.out]; rfl) (by rfl) _ _ _ (by rfl) true (by rfl) (.bool false) (by rfl) ?_
                refine fl_pick 109 (by rfl) (by decide) (wanted_if hops 34 true (by rfl) 69 (by rfl) true (by rfl)) (by rw [hK.out]; rfl) (by rfl) _ _ _ (by rfl) false (by rfl) (.bool false) (by rfl) ?_
                refine fl_pick 110 (by rfl) (by decide) (wanted_if hops 31 false (by rfl) 66 (by rfl) false (by rfl)) (by rw [hK.out]; rfl) (by rfl) _ _ _ (by rfl) true (by rfl) (.bool false) (by rfl) ?_
                refine fl_pick 111 (by rfl) (by decide) (wanted_none (by rfl)) (by rw [hK.out]; rfl) (by rfl) _ _ _ (by rfl) false (by rfl) (.bool false) (by rfl) ?_
                refine fl_end (fun _ _ w1 (hg : Grow _ w1) _ hfacts => hT _ _ ?_)
                clear hops hA' hK hT
                simp only [putsL, Act.put, List.setIfInBounds_toArray, List.set_cons_zero, List.set_cons_succ, List.drop_succ_cons, List.drop_zero]
                clear hfacts
                have hPg := hPj.grow hg
                have hlk := pm_look0 hPg (qn : Int) hwq
                rw [hnew] at hlk
                obtain ⟨w3, hrun, hP3, hj3⟩ := hPg.put intMap (qn : Int) 1 hwq (by decide) (by unfold maxLen; omega)
                rw [hnew, Option.isSome_none, if_neg (by simp)] at hP3
                have hP3 := PMap.imp hP3 (f' := seenF S (j + 1)) fun y _ => hnext y
                have e1 := (hc w1 (hg.block g hgl)).2
                go_wp2_with fail
                go_roundw
                case rel => exact ⟨j + 1, by omega, by go_num, hP3, (hjr.trans (Just.of_grow hg)).trans hj3⟩
                case measure => simp [intOf]; omega
              · have hd2 : (p == p') = false := beq_eq_false_iff_ne.2 hpe
                go_wp2_with fail
                refine wp_region_flow 77 139 [] rfl rfl (by kernel_rfl) (by kernel_rfl) (by kernel_rfl) ?_ ?_
                · intro x hx φ he
                  cases hx
                intro ops' A' K' T hops hA' hK hT
                refine fl_mv 35 (by rfl) (by decide) (wanted_none (by rfl)) (by rw [hK.out]; rfl) (by rfl) _ (Or.inl (by rfl)) (.slice (some ⟨g, 0, none⟩) 60 c) (by rfl) ?_
                refine fl_mv 36 (by rfl) (by decide) (wanted_none (by rfl)) (by rw [hK.out]; rfl) (by rfl) _ (Or.inl (by rfl)) (.int .i64 (j : Int)) (by rfl) ?_
                refine fl_op2 37 (by rfl) (by decide) (wanted_none (by rfl)) (by rw [hK.out]; rfl) (by rfl) (.tmp 35) (.tmp 36) (.slice (some ⟨g, 0, none⟩) 60 c) (.int .i64 (j : Int)) (by rfl) (by rfl) (.pointer (some ⟨g, j * 2, none⟩)) (fun ρ h1 h2 kk w1 (hg : Grow _ w1) hb hf => by go_simp; intro hlt; omega) ?_
                refine fl_op1 38 (by rfl) (by decide) (wanted_none (by rfl)) (by rw [hK.out]; rfl) (by rfl) (.tmp 37) (.pointer (some ⟨g, j * 2, none⟩)) (by rfl) (.pointer (some ⟨g, j * 2 + 1, none⟩)) (fun ρ h1 kk w1 (hg : Grow _ w1) hb hf => by go_simp) ?_
                refine fl_op1 39 (by rfl) (by decide) (wanted_none (by rfl)) (by rw [hK.out]; rfl) (by rfl) (.tmp 38) (.pointer (some ⟨g, j * 2 + 1, none⟩)) (by rfl) (.int .i64 (qn : Int)) (fun ρ h1 kk w1 (hg : Grow _ w1) hb hf => by have c1 := (hc w1 (hg.block g hgl)).2; go_simp) ?_
                refine fl_op2 40 (by rfl) (by decide) (wanted_none (by rfl)) (by rw [hK.out]; rfl) (by rfl) (.tmp 39) (.const (.int .i64 0)) (.int .i64 (qn : Int)) (.int .i64 0) (by rfl) (by rfl) (.bool false) (fun ρ h1 h2 kk w1 (hg : Grow _ w1) hb hf => by go_simp) ?_
                refine fl_mv 41 (by rfl) (by decide) (wanted_none (by rfl)) (by rw [hK.out]; rfl) (by rfl) _ (Or.inl (by rfl)) (.bool false) (by rfl) ?_
                refine fl_mv 42 (by rfl) (by decide) (wanted_if hops 6 false (by rfl) 41 (by rfl) false (by rfl)) (by rw [hK.out]; rfl) (by rfl) _ (Or.inl (by rfl)) (.slice (some ⟨g, 0, none⟩) 60 c) (by rfl) ?_
                refine fl_mv 43 (by rfl) (by decide) (wanted_if hops 6 false (by rfl) 41 (by rfl) false (by rfl)) (by rw [hK.out]; rfl) (by rfl) _ (Or.inl (by rfl)) (.int .i64 (j : Int)) (by rfl) ?_
                refine fl_op2 44 (by rfl) (by decide) (wanted_if hops 6 false (by rfl) 41 (by rfl) false (by rfl)) (by rw [hK.out]; rfl) (by rfl) (.tmp 42) (.tmp 43) (.slice (some ⟨g, 0, none⟩) 60 c) (.int .i64 (j : Int)) (by rfl) (by rfl) (.pointer (some ⟨g, j * 2, none⟩)) (fun ρ h1 h2 kk w1 (hg : Grow _ w1) hb hf => by go_simp; intro hlt; omega) ?_
                refine fl_op1 45 (by rfl) (by decide) (wanted_if hops 6 false (by rfl) 41 (by rfl) false (by rfl)) (by rw [hK.out]; rfl) (by rfl) (.tmp 44) (.pointer (some ⟨g, j * 2, none⟩)) (by rfl) (.pointer (some ⟨g, j * 2 + 1, none⟩)) (fun ρ h1 kk w1 (hg : Grow _ w1) hb hf => by go_simp) ?_
                refine fl_op1 46 (by rfl) (by decide) (wanted_if hops 6 false (by rfl) 41 (by rfl) false (by rfl)) (by rw [hK.out]; rfl) (by rfl) (.tmp 45) (.pointer (some ⟨g, j * 2 + 1, none⟩)) (by rfl) (.int .i64 (qn : Int)) (fun ρ h1 kk w1 (hg : Grow _ w1) hb hf => by have c1 := (hc w1 (hg.block g hgl)).2; go_simp) ?_
                refine fl_mv 47 (by rfl) (by decide) (wanted_if hops 6 false (by rfl) 41 (by rfl) false (by rfl)) (by rw [hK.out]; rfl) (by rfl) _ (Or.inl (by rfl)) (.int .i64 60) (by rfl) ?_
                refine fl_op2 48 (by rfl) (by decide) (wanted_if hops 6 false (by rfl) 41 (by rfl) false (by rfl)) (by rw [hK.out]; rfl) (by rfl) (.tmp 46) (.tmp 47) (.int .i64 (qn : Int)) (.int .i64 60) (by rfl) (by rfl) (.bool false) (fun ρ h1 h2 kk w1 (hg : Grow _ w1) hb hf => by go_simp) ?_
                refine fl_pick 49 (by rfl) (by decide) (wanted_none (by rfl)) (by rw [hK.out]; rfl) (by rfl) _ _ _ (by rfl) false (by rfl) (.bool false) (by rfl) ?_
                refine fl_mv 50 (by rfl) (by decide) (wanted_none (by rfl)) (by rw [hK.out]; rfl) (by rfl) _ (Or.inl (by rfl)) (.bool false) (by rfl) ?_
                refine fl_mv 51 (by rfl) (by decide) (wanted_if hops 15 false (by rfl) 50 (by rfl) false (by rfl)) (by rw [hK.out]; rfl) (by rfl) _ (Or.inl (by rfl)) (.slice (some ⟨g, 0, none⟩) 60 c) (by rfl) ?_
                refine fl_mv 52 (by rfl) (by decide) (wanted_if hops 15 false (by rfl) 50 (by rfl) false (by rfl)) (by rw [hK.out]; rfl) (by rfl) _ (Or.inl (by rfl)) (.int .i64 (j : Int)) (by rfl) ?_
                refine fl_op2 53 (by rfl) (by decide) (wanted_if hops 15 false (by rfl) 50 (by rfl) false (by rfl)) (by rw [hK.out]; rfl) (by rfl) (.tmp 51) (.tmp 52) (.slice (some ⟨g, 0, none⟩) 60 c) (.int .i64 (j : Int)) (by rfl) (by rfl) (.pointer (some ⟨g, j * 2, none⟩)) (fun ρ h1 h2 kk w1 (hg : Grow _ w1) hb hf => by go_simp; intro hlt; omega) ?_
                refine fl_op1 54 (by rfl) (by decide) (wanted_if hops 15 false (by rfl) 50 (by rfl) false (by rfl)) (by rw [hK.out]; rfl) (by rfl) (.tmp 53) (.pointer (some ⟨g, j * 2, none⟩)) (by rfl) (.pointer (some ⟨g, j * 2, none⟩)) (fun ρ h1 kk w1 (hg : Grow _ w1) hb hf => by go_simp) ?_
                refine fl_op1 55 (by rfl) (by decide) (wanted_if hops 15 false (by rfl) 50 (by rfl) false (by rfl)) (by rw [hK.out]; rfl) (by rfl) (.tmp 54) (.pointer (some ⟨g, j * 2, none⟩)) (by rfl) (.int .i64 p) (fun ρ h1 kk w1 (hg : Grow _ w1) hb hf => by have c1 := (hc w1 (hg.block g hgl)).1; go_simp) ?_
                refine fl_mv 56 (by rfl) (by decide) (wanted_if hops 15 false (by rfl) 50 (by rfl) false (by rfl)) (by rw [hK.out]; rfl) (by rfl) _ (Or.inl (by rfl)) (.slice (some ad) 60 c0) (by rfl) ?_
                refine fl_mv 57 (by rfl) (by decide) (wanted_if hops 15 false (by rfl) 50 (by rfl) false (by rfl)) (by rw [hK.out]; rfl) (by rfl) _ (Or.inl (by rfl)) (.slice (some ⟨g, 0, none⟩) 60 c) (by rfl) ?_
                refine fl_mv 58 (by rfl) (by decide) (wanted_if hops 15 false (by rfl) 50 (by rfl) false (by rfl)) (by rw [hK.out]; rfl) (by rfl) _ (Or.inl (by rfl)) (.int .i64 (j : Int)) (by rfl) ?_
                refine fl_op2 59 (by rfl) (by decide) (wanted_if hops 15 false (by rfl) 50 (by rfl) false (by rfl)) (by rw [hK.out]; rfl) (by rfl) (.tmp 57) (.tmp 58) (.slice (some ⟨g, 0, none⟩) 60 c) (.int .i64 (j : Int)) (by rfl) (by rfl) (.pointer (some ⟨g, j * 2, none⟩)) (fun ρ h1 h2 kk w1 (hg : Grow _ w1) hb hf => by go_simp; intro hlt; omega) ?_
                refine fl_op1 60 (by rfl) (by decide) (wanted_if hops 15 false (by rfl) 50 (by rfl) false (by rfl)) (by rw [hK.out]; rfl) (by rfl) (.tmp 59) (.pointer (some ⟨g, j * 2, none⟩)) (by rfl) (.pointer (some ⟨g, j * 2 + 1, none⟩)) (fun ρ h1 kk w1 (hg : Grow _ w1) hb hf => by go_simp) ?_
                refine fl_op1 61 (by rfl) (by decide) (wanted_if hops 15 false (by rfl) 50 (by rfl) false (by rfl)) (by rw [hK.out]; rfl) (by rfl) (.tmp 60) (.pointer (some ⟨g, j * 2 + 1, none⟩)) (by rfl) (.int .i64 (qn : Int)) (fun ρ h1 kk w1 (hg : Grow _ w1) hb hf => by have c1 := (hc w1 (hg.block g hgl)).2; go_simp) ?_
                refine fl_op2 62 (by rfl) (by decide) (wanted_if hops 15 false (by rfl) 50 (by rfl) false (by rfl)) (by rw [hK.out]; rfl) (by rfl) (.tmp 56) (.tmp 61) (.slice (some ad) 60 c0) (.int .i64 (qn : Int)) (by rfl) (by rfl) (.pointer (some (ad.add qn))) (fun ρ h1 h2 kk w1 (hg : Grow _ w1) hb hf => by go_simp; try (intro hlt; omega)) ?_
                refine fl_op1 63 (by rfl) (by decide) (wanted_if hops 15 false (by rfl) 50 (by rfl) false (by rfl)) (by rw [hK.out]; rfl) (by rfl) (.tmp 62) (.pointer (some (ad.add qn))) (by rfl) (.int .i64 p) (fun ρ h1 kk w1 (hg : Grow _ w1) hb hf => by have c1 := (hg.cell (p := ad.add qn) hadB).trans f0; go_simp) ?_
                refine fl_op2 64 (by rfl) (by decide) (wanted_if hops 15 false (by rfl) 50 (by rfl) false (by rfl)) (by rw [hK.out]; rfl) (by rfl) (.tmp 55) (.tmp 63) (.int .i64 p) (.int .i64 p) (by rfl) (by rfl) (.bool false) (fun ρ h1 h2 kk w1 (hg : Grow _ w1) hb hf => by go_simp) ?_
                refine fl_pick 65 (by rfl) (by decide) (wanted_none (by rfl)) (by rw [hK.out]; rfl) (by rfl) _ _ _ (by rfl) false (by rfl) (.bool false) (by rfl) ?_
                refine fl_mv 66 (by rfl) (by decide) (wanted_none (by rfl)) (by rw [hK.out]; rfl) (by rfl) _ (Or.inl (by rfl)) (.bool false) (by rfl) ?_
                refine fl_mv 67 (by rfl) (by decide) (wanted_if hops 31 false (by rfl) 66 (by rfl) false (by rfl)) (by rw [hK.out]; rfl) (by rfl) _ (Or.inl (by rfl)) (.int .i64 (j : Int)) (by rfl) ?_
                refine fl_op2 68 (by rfl) (by decide) (wanted_if hops 31 false (by rfl) 66 (by rfl) false (by rfl)) (by rw [hK.out]; rfl) (by rfl) (.tmp 67) (.const (.int .i64 0)) (.int .i64 (j : Int)) (.int .i64 0) (by rfl) (by rfl) (.bool true) (fun ρ h1 h2 kk w1 (hg : Grow _ w1) hb hf => by go_simp; omega) ?_
                refine fl_mv 69 (by rfl) (by decide) (wanted_if hops 31 false (by rfl) 66 (by rfl) false (by rfl)) (by rw [hK.out]; rfl) (by rfl) _ (Or.inl (by rfl)) (.bool true) (by rfl) ?_
                refine fl_mv 70 (by rfl) (by decide) (wanted_if hops 34 true (by rfl) 69 (by rfl) true (by rfl)) (by rw [hK.out]; rfl) (by rfl) _ (Or.inl (by rfl)) (.slice (some ⟨g, 0, none⟩) 60 c) (by rfl) ?_
                refine fl_mv 71 (by rfl) (by decide) (wanted_if hops 34 true (by rfl) 69 (by rfl) true (by rfl)) (by rw [hK.out]; rfl) (by rfl) _ (Or.inl (by rfl)) (.int .i64 (j : Int)) (by rfl) ?_
                refine fl_op2 72 (by rfl) (by decide) (wanted_if hops 34 true (by rfl) 69 (by rfl) true (by rfl)) (by rw [hK.out]; rfl) (by rfl) (.tmp 70) (.tmp 71) (.slice (some ⟨g, 0, none⟩) 60 c) (.int .i64 (j : Int)) (by rfl) (by rfl) (.pointer (some ⟨g, j * 2, none⟩)) (fun ρ h1 h2 kk w1 (hg : Grow _ w1) hb hf => by go_simp; intro hlt; omega) ?_
                refine fl_op1 73 (by rfl) (by decide) (wanted_if hops 34 true (by rfl) 69 (by rfl) true (by rfl)) (by rw [hK.out]; rfl) (by rfl) (.tmp 72) (.pointer (some ⟨g, j * 2, none⟩)) (by rfl) (.pointer (some ⟨g, j * 2, none⟩)) (fun ρ h1 kk w1 (hg : Grow _ w1) hb hf => by go_simp) ?_
                refine fl_op1 74 (by rfl) (by decide) (wanted_if hops 34 true (by rfl) 69 (by rfl) true (by rfl)) (by rw [hK.out]; rfl) (by rfl) (.tmp 73) (.pointer (some ⟨g, j * 2, none⟩)) (by rfl) (.int .i64 p) (fun ρ h1 kk w1 (hg : Grow _ w1) hb hf => by have c1 := (hc w1 (hg.block g hgl)).1; go_simp) ?_
                refine fl_mv 75 (by rfl) (by decide) (wanted_if hops 34 true (by rfl) 69 (by rfl) true (by rfl)) (by rw [hK.out]; rfl) (by rfl) _ (Or.inl (by rfl)) (.slice (some ⟨g, 0, none⟩) 60 c) (by rfl) ?_
                refine fl_mv 76 (by rfl) (by decide) (wanted_if hops 34 true (by rfl) 69 (by rfl) true (by rfl)) (by rw [hK.out]; rfl) (by rfl) _ (Or.inl (by rfl)) (.int .i64 (j : Int)) (by rfl) ?_
                refine fl_op2 77 (by rfl) (by decide) (wanted_if hops 34 true (by rfl) 69 (by rfl) true (by rfl)) (by rw [hK.out]; rfl) (by rfl) (.tmp 76) (.const (.int .i64 1)) (.int .i64 (j : Int)) (.int .i64 1) (by rfl) (by rfl) (.int .i64 ((j : Int) - 1)) (fun ρ h1 h2 kk w1 (hg : Grow _ w1) hb hf => by go_simp) ?_
                refine fl_op2 78 (by rfl) (by decide) (wanted_if hops 34 true (by rfl) 69 (by rfl) true (by rfl)) (by rw [hK.out]; rfl) (by rfl) (.tmp 75) (.tmp 77) (.slice (some ⟨g, 0, none⟩) 60 c) (.int .i64 ((j : Int) - 1)) (by rfl) (by rfl) (.pointer (some ⟨g, (j - 1) * 2, none⟩)) (fun ρ h1 h2 kk w1 (hg : Grow _ w1) hb hf => by go_simp; try (intro hlt; omega)) ?_
                refine fl_op1 79 (by rfl) (by decide) (wanted_if hops 34 true (by rfl) 69 (by rfl) true (by rfl)) (by rw [hK.out]; rfl) (by rfl) (.tmp 78) (.pointer (some ⟨g, (j - 1) * 2, none⟩)) (by rfl) (.pointer (some ⟨g, (j - 1) * 2, none⟩)) (fun ρ h1 kk w1 (hg : Grow _ w1) hb hf => by go_simp) ?_
                refine fl_op1 80 (by rfl) (by decide) (wanted_if hops 34 true (by rfl) 69 (by rfl) true (by rfl)) (by rw [hK.out]; rfl) (by rfl) (.tmp 79) (.pointer (some ⟨g, (j - 1) * 2, none⟩)) (by rfl) (.int .i64 p') (fun ρ h1 kk w1 (hg : Grow _ w1) hb hf => by have c1 := (hc' w1 (hg.block g hgl)).1; go_simp) ?_
                refine fl_op2 81 (by rfl) (by decide) (wanted_if hops 34 true (by rfl) 69 (by rfl) true (by rfl)) (by rw [hK.out]; rfl) (by rfl) (.tmp 74) (.tmp 80) (.int .i64 p) (.int .i64 p') (by rfl) (by rfl) (.bool false) (fun ρ h1 h2 kk w1 (hg : Grow _ w1) hb hf => by go_simp) ?_
                refine fl_mv 82 (by rfl) (by decide) (wanted_if hops 34 true (by rfl) 69 (by rfl) true (by rfl)) (by rw [hK.out]; rfl) (by rfl) _ (Or.inl (by rfl)) (.bool false) (by rfl) ?_
                refine fl_mv 83 (by rfl) (by decide) (wanted_if hops 47 false (by rfl) 82 (by rfl) false (by rfl)) (by rw [hK.out]; rfl) (by rfl) _ (Or.inl (by rfl)) (.slice (some ⟨g, 0, none⟩) 60 c) (by rfl) ?_
                refine fl_mv 84 (by rfl) (by decide) (wanted_if hops 47 false (by rfl) 82 (by rfl) false (by rfl)) (by rw [hK.out]; rfl) (by rfl) _ (Or.inl (by rfl)) (.int .i64 (j : Int)) (by rfl) ?_
                refine fl_op2 85 (by rfl) (by decide) (wanted_if hops 47 false (by rfl) 82 (by rfl) false (by rfl)) (by rw [hK.out]; rfl) (by rfl) (.tmp 83) (.tmp 84) (.slice (some ⟨g, 0, none⟩) 60 c) (.int .i64 (j : Int)) (by rfl) (by rfl) (.pointer (some ⟨g, j * 2, none⟩)) (fun ρ h1 h2 kk w1 (hg : Grow _ w1) hb hf => by go_simp; intro hlt; omega) ?_
                refine fl_op1 86 (by rfl) (by decide) (wanted_if hops 47 false (by rfl) 82 (by rfl) false (by rfl)) (by rw [hK.out]; rfl) (by rfl) (.tmp 85) (.pointer (some ⟨g, j * 2, none⟩)) (by rfl) (.pointer (some ⟨g, j * 2, none⟩)) (fun ρ h1 kk w1 (hg : Grow _ w1) hb hf => by go_simp) ?_
                refine fl_op1 87 (by rfl) (by decide) (wanted_if hops 47 false (by rfl) 82 (by rfl) false (by rfl)) (by rw [hK.out]; rfl) (by rfl) (.tmp 86) (.pointer (some ⟨g, j * 2, none⟩)) (by rfl) (.int .i64 p) (fun ρ h1 kk w1 (hg : Grow _ w1) hb hf => by have c1 := (hc w1 (hg.block g hgl)).1; go_simp) ?_
                refine fl_mv 88 (by rfl) (by decide) (wanted_if hops 47 false (by rfl) 82 (by rfl) false (by rfl)) (by rw [hK.out]; rfl) (by rfl) _ (Or.inl (by rfl)) (.slice (some ⟨g, 0, none⟩) 60 c) (by rfl) ?_
                refine fl_mv 89 (by rfl) (by decide) (wanted_if hops 47 false (by rfl) 82 (by rfl) false (by rfl)) (by rw [hK.out]; rfl) (by rfl) _ (Or.inl (by rfl)) (.int .i64 (j : Int)) (by rfl) ?_
                refine fl_op2 90 (by rfl) (by decide) (wanted_if hops 47 false (by rfl) 82 (by rfl) false (by rfl)) (by rw [hK.out]; rfl) (by rfl) (.tmp 89) (.const (.int .i64 1)) (.int .i64 (j : Int)) (.int .i64 1) (by rfl) (by rfl) (.int .i64 ((j : Int) - 1)) (fun ρ h1 h2 kk w1 (hg : Grow _ w1) hb hf => by go_simp) ?_
                refine fl_op2 91 (by rfl) (by decide) (wanted_if hops 47 false (by rfl) 82 (by rfl) false (by rfl)) (by rw [hK.out]; rfl) (by rfl) (.tmp 88) (.tmp 90) (.slice (some ⟨g, 0, none⟩) 60 c) (.int .i64 ((j : Int) - 1)) (by rfl) (by rfl) (.pointer (some ⟨g, (j - 1) * 2, none⟩)) (fun ρ h1 h2 kk w1 (hg : Grow _ w1) hb hf => by go_simp; try (intro hlt; omega)) ?_
                refine fl_op1 92 (by rfl) (by decide) (wanted_if hops 47 false (by rfl) 82 (by rfl) false (by rfl)) (by rw [hK.out]; rfl) (by rfl) (.tmp 91) (.pointer (some ⟨g, (j - 1) * 2, none⟩)) (by rfl) (.pointer (some ⟨g, (j - 1) * 2, none⟩)) (fun ρ h1 kk w1 (hg : Grow _ w1) hb hf => by go_simp) ?_
                refine fl_op1 93 (by rfl) (by decide) (wanted_if hops 47 false (by rfl) 82 (by rfl) false (by rfl)) (by rw [hK.out]; rfl) (by rfl) (.tmp 92) (.pointer (some ⟨g, (j - 1) * 2, none⟩)) (by rfl) (.int .i64 p') (fun ρ h1 kk w1 (hg : Grow _ w1) hb hf => by have c1 := (hc' w1 (hg.block g hgl)).1; go_simp) ?_
                refine fl_op2 94 (by rfl) (by decide) (wanted_if hops 47 false (by rfl) 82 (by rfl) false (by rfl)) (by rw [hK.out]; rfl) (by rfl) (.tmp 87) (.tmp 93) (.int .i64 p) (.int .i64 p') (by rfl) (by rfl) (.bool false) (fun ρ h1 h2 kk w1 (hg : Grow _ w1) hb hf => by go_simp) ?_
                refine fl_mv 95 (by rfl) (by decide) (wanted_if hops 47 false (by rfl) 82 (by rfl) false (by rfl)) (by rw [hK.out]; rfl) (by rfl) _ (Or.inl (by rfl)) (.bool false) (by rfl) ?_
                refine fl_skip 96 (by rfl) (by decide) (wanted_if hops 60 true (by rfl) 95 (by rfl) false (by rfl)) (by rfl) ?_
                refine fl_skip 97 (by rfl) (by decide) (wanted_if hops 60 true (by rfl) 95 (by rfl) false (by rfl)) (by rfl) ?_
                refine fl_skip 98 (by rfl) (by decide) (wanted_if hops 60 true (by rfl) 95 (by rfl) false (by rfl)) (by rfl) ?_
                refine fl_skip 99 (by rfl) (by decide) (wanted_if hops 60 true (by rfl) 95 (by rfl) false (by rfl)) (by rfl) ?_
                refine fl_skip 100 (by rfl) (by decide) (wanted_if hops 60 true (by rfl) 95 (by rfl) false (by rfl)) (by rfl) ?_
                refine fl_skip 101 (by rfl) (by decide) (wanted_if hops 60 true (by rfl) 95 (by rfl) false (by rfl)) (by rfl) ?_
                refine fl_skip 102 (by rfl) (by decide) (wanted_if hops 60 true (by rfl) 95 (by rfl) false (by rfl)) (by rfl) ?_
                refine fl_skip 103 (by rfl) (by decide) (wanted_if hops 60 true (by rfl) 95 (by rfl) false (by rfl)) (by rfl) ?_
                refine fl_skip 104 (by rfl) (by decide) (wanted_if hops 60 true (by rfl) 95 (by rfl) false (by rfl)) (by rfl) ?_
                refine fl_skip 105 (by rfl) (by decide) (wanted_if hops 60 true (by rfl) 95 (by rfl) false (by rfl)) (by rfl) ?_
                refine fl_skip 106 (by rfl) (by decide) (wanted_if hops 60 true (by rfl) 95 (by rfl) false (by rfl)) (by rfl) ?_
                refine fl_skip 107 (by rfl) (by decide) (wanted_if hops 60 true (by rfl) 95 (by rfl) false (by rfl)) (by rfl) ?_
                refine fl_pick 108 (by rfl) (by decide) (wanted_if hops 47 false (by rfl) 82 (by rfl) false (by rfl)) (by rw [hK.out]; rfl) (by rfl) _ _ _ (by rfl) false (by rfl) (.bool false) (by rfl) ?_
                refine fl_pick 109 (by rfl) (by decide) (wanted_if hops 34 true (by rfl) 69 (by rfl) true (by rfl)) (by rw [hK.out]; rfl) (by rfl) _ _ _ (by rfl) false (by rfl) (.bool false) (by rfl) ?_
                refine fl_pick 110 (by rfl) (by decide) (wanted_if hops 31 false (by rfl) 66 (by rfl) false (by rfl)) (by rw [hK.out]; rfl) (by rfl) _ _ _ (by rfl) true (by rfl) (.bool false) (by rfl) ?_
                refine fl_pick 111 (by rfl) (by decide) (wanted_none (by rfl)) (by rw [hK.out]; rfl) (by rfl) _ _ _ (by rfl) false (by rfl) (.bool false) (by rfl) ?_
                refine fl_end (fun _ _ w1 (hg : Grow _ w1) _ hfacts => hT _ _ ?_)
                clear hops hA' hK hT
                simp only [putsL, Act.put, List.setIfInBounds_toArray, List.set_cons_zero, List.set_cons_succ, List.drop_succ_cons, List.drop_zero]
                clear hfacts
                have hPg := hPj.grow hg
                have hlk := pm_look0 hPg (qn : Int) hwq
                rw [hnew] at hlk
                obtain ⟨w3, hrun, hP3, hj3⟩ := hPg.put intMap (qn : Int) 1 hwq (by decide) (by unfold maxLen; omega)
                rw [hnew, Option.isSome_none, if_neg (by simp)] at hP3
                have hP3 := PMap.imp hP3 (f' := seenF S (j + 1)) fun y _ => hnext y
                have e1 := (hc w1 (hg.block g hgl)).2
                go_wp2_with fail
                go_roundw
                case rel => exact ⟨j + 1, by omega, by go_num, hP3, (hjr.trans (Just.of_grow hg)).trans hj3⟩
                case measure => simp [intOf]; omega
          · obtain rfl : 60 = j := by omega
            have hj' : decide ((60 : Int) < (60 : Int)) = false := decide_eq_false (by omega)
            have hln := fun ty => hPj.len intMap ty
            have hs := hs.past (TimersAt.framed _ _) hjr fun b h1 h2 => h2.2 h1
            clear hOr hPj hO2 hP0
            go_wp2_with fail
            refine (tlen_solo hs).mono ?_
            rintro e w9 ⟨rfl, rfl⟩
            go_wp2_with (go_at_call 8; refine (known_any _).mono ?_; rintro e w7 ⟨rfl, hg7⟩)
            go_ret
            exact ⟨rfl, Below.trans hbr (hg7.mono hbr.size)⟩
  · have h10' : decide ((n0 : Int) < (60 : Int)) = false := decide_eq_false (by omega)
    have h10'' : decide ((60 : Int) < (n0 : Int)) = true := decide_eq_true (by omega)
    go_enter Try.func5, Try.ntmps5
    go_wp2_with fail
    refine (New_any w).mono ?_
    rintro e w1 ⟨t, rfl, hT, hg1⟩
    have hs : Solo (fun b => w.heap.size ≤ b) (TimersAt t []) w1 := Solo.make (V := New w w1) hT (fun b hb => by have := hg1.size; omega) (fun b hb => hb)
    clear hT
    go_wp2_with fail
    go_loopw [5] (fun i wr => ∃ (k : Nat) (S : List It), k ≤ 60 ∧ i = .int .i64 (k : Int) ∧ PS xs k S ∧ Solo (fun b => w.heap.size ≤ b) (TimersAt t S) wr ∧ Below w.heap.size w wr) (fun i _ => 60 - (intOf i).toNat)
    case atStart => exact ⟨0, [], by omega, rfl, ⟨rfl, by simp⟩, hs, hg1⟩
    case round =>
      obtain ⟨k, S, hkn, rfl, hPS, hs, hb⟩ := hrel
      have hkw : IntKind.i64.wrap (k : Int) = (k : Int) := by rw [IntKind.wrap_i64]; omega
      by_cases hk : k < 60
      · have hk' : decide ((k : Int) < (60 : Int)) = true := decide_eq_true (by omega)
        obtain ⟨ad, u, rfl, _, hu, e0⟩ := Reads.at_ (Reads.below hx hb) (show k < n0 by omega)
        obtain ⟨z, hz, rfl⟩ : ∃ z, xs[k]? = some z ∧ u = .int .i64 z := by
          rw [List.getElem?_map] at hu
          obtain ⟨z, hz, he⟩ := Option.map_eq_some_iff.1 hu
          exact ⟨z, hz, he.symm⟩
        have hz64 := h64 z (List.mem_of_getElem? hz)
        have hset := hs.call (Set_any wr t S (k : Int) z ⟨by omega, by omega⟩ hz64 (by rw [hPS.1]; omega))
        go_wp2_with fail
        refine hset.mono ?_
        rintro e w2 ⟨rfl, hj2, hs⟩
        have hb2 := Below.trans hb (hj2.below (fun _ h => h) hb.size)
        have hPS2 := ps_next hPS hz
        go_wp2_with fail
        go_roundw
        case rel => exact ⟨k + 1, _, by omega, by go_num, hPS2, hs, hb2⟩
        case measure => simp [intOf]; omega
      · obtain rfl : 60 = k := by omega
        have hk' : decide ((60 : Int) < (60 : Int)) = false := decide_eq_false (by omega)
        obtain ⟨hSk, hSs, hS64⟩ : Keys S ∧ Sorted S ∧ ∀ a ∈ S, in64 a.1 ∧ in64 a.2 := by
          obtain ⟨_, V, hQ, _⟩ := id hs
          exact ⟨hQ.facts.1, hQ.facts.2.1, hQ.facts.2.2.2⟩
        obtain ⟨hdu, hla⟩ := due_all (now := 9223372036854775807) (S := S) fun a ha => (hS64 a ha).1.2
        go_wp2_with fail
        refine (due_solo 9223372036854775807 hs).mono ?_
        rintro e w2 ⟨A, c, rfl, hO, hj2, hs⟩
        rw [hdu] at hO ⊢
        rw [hla] at hs
        have hb2 := Below.trans hb (hj2.below (fun _ h => h) hb.size)
        have hSl : S.length = 60 := hPS.1
        rw [hSl] at hO ⊢
        have hmm := @run_makeMap Try.prog
        have hgm : Grow w2 (w2.alloc (.map #[] 0)) := (Below.refl _ _).alloc (Nat.le_refl _) _
        have hsm : (w2.alloc (.map #[] 0)).heap.size = w2.heap.size + 1 := by simp
        have hP0 : PM (w2.alloc (.map #[] 0)) w2.heap.size 0 (seenF S 0) := PMap.imp (PMap.made w2) fun x _ => rfl
        have hs : Solo (fun b => w.heap.size ≤ b ∧ b ≠ w2.heap.size) (TimersAt t []) (w2.alloc (.map #[] 0)) := Solo.beside hs (TimersAt.framed _ _) hgm fun b h1 h2 => ⟨h1, by omega⟩
        have hbm := Below.trans hb2 (hgm.mono hb2.size)
        have hO2 := hO.keep (w' := w2.alloc (.map #[] 0)) fun b hb' => hgm.block b hb'.2
        obtain ⟨mm, HM⟩ : ∃ mm : Nat, Hid (mm = w2.heap.size) := ⟨_, rfl⟩
        obtain ⟨wm, HW⟩ : ∃ wm : World, Hid (wm = w2.alloc (.map #[] 0)) := ⟨_, rfl⟩
        rw [← HW.out] at hs hbm hO2 hP0 hsm
        rw [← HM.out] at hs hP0
        have hm2 : w2.heap.size = mm := HM.out.symm
        have hOlt : ∀ b, New wr w2 b → b < mm := fun b hb' => by have := hb'.2; omega
        have hwm := hb2.size
        clear hgm hdu hla hO hkw
        go_wp2_with fail
        rw [← HW.out]
        clear hmm
        go_loopw [32] (fun i wr' => ∃ j : Nat, j ≤ 60 ∧ i = .int .i64 (j : Int) ∧ PM wr' mm j (seenF S j) ∧ Just (fun b => b = mm) wm wr') (fun i _ => 60 - (intOf i).toNat)
        case atStart => exact ⟨0, by omega, rfl, hP0, Just.of_grow (Grow.refl _)⟩
        case round =>
          obtain ⟨j, hjn, rfl, hPj, hjr⟩ := hrel
          have hbr := Below.trans hbm (hjr.below (B := w.heap.size) (fun b hb' => by rw [show b = mm from hb']; omega) (by omega))
          have hOr := hO2.keep (w' := wr) fun b hb' => hjr.block b (by have := hOlt b hb'; omega) (by have := hOlt b hb'; omega)
          by_cases hj : j < 60
          · have hj' : decide ((j : Int) < (60 : Int)) = true := decide_eq_true (by omega)
            obtain ⟨g, rfl, hgN, hgl, hc⟩ := own_item hOr hj
            obtain ⟨hq0, hqN, hqx⟩ := hPS.2 (hat S j) (by rw [hat_get (by omega)]; exact List.getElem_mem (by omega))
            have hnew := seen_new hSk (j := j) (by omega)
            have hnext := seen_next (S := S) (j := j) (by omega)
            have hpr : ∀ i, i < j → Lt (hat S i) (hat S j) := fun i hi => by
              rw [hat_get (by omega), hat_get (by omega)]
              exact List.pairwise_iff_getElem.1 hSs i j (by omega) (by omega) hi
            have h64q := hS64 (hat S j) (by rw [hat_get (by omega)]; exact List.getElem_mem (by omega))
            generalize hat S j = aj at hc hq0 hqN hqx hnew hnext hpr h64q
            obtain ⟨p, q⟩ := aj
            dsimp only at hc hq0 hqN hqx hnew hnext hpr h64q
            obtain ⟨qn, rfl⟩ := Int.eq_ofNat_of_zero_le hq0
            rw [Int.toNat_natCast] at hqx
            obtain ⟨ad, u, hA0, hadB, hu, f0⟩ := Reads.at_ (Reads.below hx hbr) (show qn < n0 by omega)
            have hadB : (ad.add qn).block < wr.heap.size := by rw [block_add]; have := hbr.size; omega
            obtain rfl : u = .int .i64 p := by
              rw [List.getElem?_map, hqx] at hu
              injection hu with hu
              exact hu.symm
            subst hA0
            have hqn' : decide (60 ≤ qn) = false := decide_eq_false (by omega)
            have hqn2 : decide ((60 : Int) ≤ (qn : Int)) = false := decide_eq_false (by omega)
            have hqz : decide ((qn : Int) < 0) = false := decide_eq_false (by omega)
            have hwq : (Lit.int .i64 (qn : Int)).wf = true := wf_of h64q.2
            clear hqx hu
            by_cases h0 : j = 0
            · have hj0 : decide ((0 : Int) < (j : Int)) = false := decide_eq_false (by omega)
              have H0 := Lib.hid h0
              clear h0
              go_wp2_with fail
              refine wp_region_flow 77 139 [] rfl rfl (by kernel_rfl) (by kernel_rfl) (by kernel_rfl) ?_ ?_
              · intro x hx φ he
                cases hx
              intro ops' A' K' T hops hA' hK hT
              refine fl_mv 35 (by rfl) (by decide) (wanted_none (by rfl)) (by rw [hK.out]; rfl) (by rfl) _ (Or.inl (by rfl)) (.slice (some ⟨g, 0, none⟩) 60 c) (by rfl) ?_
              refine fl_mv 36 (by rfl) (by decide) (wanted_none (by rfl)) (by rw [hK.out]; rfl) (by rfl) _ (Or.inl (by rfl)) (.int .i64 (j : Int)) (by rfl) ?_
              refine fl_op2 37 (by rfl) (by decide) (wanted_none (by rfl)) (by rw [hK.out]; rfl) (by rfl) (.tmp 35) (.tmp 36) (.slice (some ⟨g, 0, none⟩) 60 c) (.int .i64 (j : Int)) (by rfl) (by rfl) (.pointer (some ⟨g, j * 2, none⟩)) (fun ρ h1 h2 kk w1 (hg : Grow _ w1) hb hf => by go_simp; intro hlt; omega) ?_
              refine fl_op1 38 (by rfl) (by decide) (wanted_none (by rfl)) (by rw [hK.out]; rfl) (by rfl) (.tmp 37) (.pointer (some ⟨g, j * 2, none⟩)) (by rfl) (.pointer (some ⟨g, j * 2 + 1, none⟩)) (fun ρ h1 kk w1 (hg : Grow _ w1) hb hf => by go_simp) ?_
              refine fl_op1 39 (by rfl) (by decide) (wanted_none (by rfl)) (by rw [hK.out]; rfl) (by rfl) (.tmp 38) (.pointer (some ⟨g, j * 2 + 1, none⟩)) (by rfl) (.int .i64 (qn : Int)) (fun ρ h1 kk w1 (hg : Grow _ w1) hb hf => by have c1 := (hc w1 (hg.block g hgl)).2; go_simp) ?_
              refine fl_op2 40 (by rfl) (by decide) (wanted_none (by rfl)) (by rw [hK.out]; rfl) (by rfl) (.tmp 39) (.const (.int .i64 0)) (.int .i64 (qn : Int)) (.int .i64 0) (by rfl) (by rfl) (.bool false) (fun ρ h1 h2 kk w1 (hg : Grow _ w1) hb hf => by go_simp) ?_
              refine fl_mv 41 (by rfl) (by decide) (wanted_none (by rfl)) (by rw [hK.out]; rfl) (by rfl) _ (Or.inl (by rfl)) (.bool false) (by rfl) ?_
              refine fl_mv 42 (by rfl) (by decide) (wanted_if hops 6 false (by rfl) 41 (by rfl) false (by rfl)) (by rw [hK.out]; rfl) (by rfl) _ (Or.inl (by rfl)) (.slice (some ⟨g, 0, none⟩) 60 c) (by rfl) ?_
              refine fl_mv 43 (by rfl) (by decide) (wanted_if hops 6 false (by rfl) 41 (by rfl) false (by rfl)) (by rw [hK.out]; rfl) (by rfl) _ (Or.inl (by rfl)) (.int .i64 (j : Int)) (by rfl) ?_
              refine fl_op2 44 (by rfl) (by decide) (wanted_if hops 6 false (by rfl) 41 (by rfl) false (by rfl)) (by rw [hK.out]; rfl) (by rfl) (.tmp 42) (.tmp 43) (.slice (some ⟨g, 0, none⟩) 60 c) (.int .i64 (j : Int)) (by rfl) (by rfl) (.pointer (some ⟨g, j * 2, none⟩)) (fun ρ h1 h2 kk w1 (hg : Grow _ w1) hb hf => by go_simp; intro hlt; omega) ?_
              refine fl_op1 45 (by rfl) (by decide) (wanted_if hops 6 false (by rfl) 41 (by rfl) false (by rfl)) (by rw [hK.out]; rfl) (by rfl) (.tmp 44) (.pointer (some ⟨g, j * 2, none⟩)) (by rfl) (.pointer (some ⟨g, j * 2 + 1, none⟩)) (fun ρ h1 kk w1 (hg : Grow _ w1) hb hf => by go_simp) ?_
              refine fl_op1 46 (by rfl) (by decide) (wanted_if hops 6 false (by rfl) 41 (by rfl) false (by rfl)) (by rw [hK.out]; rfl) (by rfl) (.tmp 45) (.pointer (some ⟨g, j * 2 + 1, none⟩)) (by rfl) (.int .i64 (qn : Int)) (fun ρ h1 kk w1 (hg : Grow _ w1) hb hf => by have c1 := (hc w1 (hg.block g hgl)).2; go_simp) ?_
              refine fl_mv 47 (by rfl) (by decide) (wanted_if hops 6 false (by rfl) 41 (by rfl) false (by rfl)) (by rw [hK.out]; rfl) (by rfl) _ (Or.inl (by rfl)) (.int .i64 60) (by rfl) ?_
              refine fl_op2 48 (by rfl) (by decide) (wanted_if hops 6 false (by rfl) 41 (by rfl) false (by rfl)) (by rw [hK.out]; rfl) (by rfl) (.tmp 46) (.tmp 47) (.int .i64 (qn : Int)) (.int .i64 60) (by rfl) (by rfl) (.bool false) (fun ρ h1 h2 kk w1 (hg : Grow _ w1) hb hf => by go_simp) ?_
              refine fl_pick 49 (by rfl) (by decide) (wanted_none (by rfl)) (by rw [hK.out]; rfl) (by rfl) _ _ _ (by rfl) false (by rfl) (.bool false) (by rfl) ?_
              refine fl_mv 50 (by rfl) (by decide) (wanted_none (by rfl)) (by rw [hK.out]; rfl) (by rfl) _ (Or.inl (by rfl)) (.bool false) (by rfl) ?_
              refine fl_mv 51 (by rfl) (by decide) (wanted_if hops 15 false (by rfl) 50 (by rfl) false (by rfl)) (by rw [hK.out]; rfl) (by rfl) _ (Or.inl (by rfl)) (.slice (some ⟨g, 0, none⟩) 60 c) (by rfl) ?_
              refine fl_mv 52 (by rfl) (by decide) (wanted_if hops 15 false (by rfl) 50 (by rfl) false (by rfl)) (by rw [hK.out]; rfl) (by rfl) _ (Or.inl (by rfl)) (.int .i64 (j : Int)) (by rfl) ?_
              refine fl_op2 53 (by rfl) (by decide) (wanted_if hops 15 false (by rfl) 50 (by rfl) false (by rfl)) (by rw [hK.out]; rfl) (by rfl) (.tmp 51) (.tmp 52) (.slice (some ⟨g, 0, none⟩) 60 c) (.int .i64 (j : Int)) (by rfl) (by rfl) (.pointer (some ⟨g, j * 2, none⟩)) (fun ρ h1 h2 kk w1 (hg : Grow _ w1) hb hf => by go_simp; intro hlt; omega) ?_
              refine fl_op1 54 (by rfl) (by decide) (wanted_if hops 15 false (by rfl) 50 (by rfl) false (by rfl)) (by rw [hK.out]; rfl) (by rfl) (.tmp 53) (.pointer (some ⟨g, j * 2, none⟩)) (by rfl) (.pointer (some ⟨g, j * 2, none⟩)) (fun ρ h1 kk w1 (hg : Grow _ w1) hb hf => by go_simp) ?_
              refine fl_op1 55 (by rfl) (by decide) (wanted_if hops 15 false (by rfl) 50 (by rfl) false (by rfl)) (by rw [hK.out]; rfl) (by rfl) (.tmp 54) (.pointer (some ⟨g, j * 2, none⟩)) (by rfl) (.int .i64 p) (fun ρ h1 kk w1 (hg : Grow _ w1) hb hf => by have c1 := (hc w1 (hg.block g hgl)).1; go_simp) ?_
              refine fl_mv 56 (by rfl) (by decide) (wanted_if hops 15 false (by rfl) 50 (by rfl) false (by rfl)) (by rw [hK.out]; rfl) (by rfl) _ (Or.inl (by rfl)) (.slice (some ad) n0 c0) (by rfl) ?_
              refine fl_mv 57 (by rfl) (by decide) (wanted_if hops 15 false (by rfl) 50 (by rfl) false (by rfl)) (by rw [hK.out]; rfl) (by rfl) _ (Or.inl (by rfl)) (.slice (some ⟨g, 0, none⟩) 60 c) (by rfl) ?_
              refine fl_mv 58 (by rfl) (by decide) (wanted_if hops 15 false (by rfl) 50 (by rfl) false (by rfl)) (by rw [hK.out]; rfl) (by rfl) _ (Or.inl (by rfl)) (.int .i64 (j : Int)) (by rfl) ?_
              refine fl_op2 59 (by rfl) (by decide) (wanted_if hops 15 false (by rfl) 50 (by rfl) false (by rfl)) (by rw [hK.out]; rfl) (by rfl) (.tmp 57) (.tmp 58) (.slice (some ⟨g, 0, none⟩) 60 c) (.int .i64 (j : Int)) (by rfl) (by rfl) (.pointer (some ⟨g, j * 2, none⟩)) (fun ρ h1 h2 kk w1 (hg : Grow _ w1) hb hf => by go_simp; intro hlt; omega) ?_
              refine fl_op1 60 (by rfl) (by decide) (wanted_if hops 15 false (by rfl) 50 (by rfl) false (by rfl)) (by rw [hK.out]; rfl) (by rfl) (.tmp 59) (.pointer (some ⟨g, j * 2, none⟩)) (by rfl) (.pointer (some ⟨g, j * 2 + 1, none⟩)) (fun ρ h1 kk w1 (hg : Grow _ w1) hb hf => by go_simp) ?_
              refine fl_op1 61 (by rfl) (by decide) (wanted_if hops 15 false (by rfl) 50 (by rfl) false (by rfl)) (by rw [hK.out]; rfl) (by rfl) (.tmp 60) (.pointer (some ⟨g, j * 2 + 1, none⟩)) (by rfl) (.int .i64 (qn : Int)) (fun ρ h1 kk w1 (hg : Grow _ w1) hb hf => by have c1 := (hc w1 (hg.block g hgl)).2; go_simp) ?_
              refine fl_op2 62 (by rfl) (by decide) (wanted_if hops 15 false (by rfl) 50 (by rfl) false (by rfl)) (by rw [hK.out]; rfl) (by rfl) (.tmp 56) (.tmp 61) (.slice (some ad) n0 c0) (.int .i64 (qn : Int)) (by rfl) (by rfl) (.pointer (some (ad.add qn))) (fun ρ h1 h2 kk w1 (hg : Grow _ w1) hb hf => by go_simp; try (intro hlt; omega)) ?_
              refine fl_op1 63 (by rfl) (by decide) (wanted_if hops 15 false (by rfl) 50 (by rfl) false (by rfl)) (by rw [hK.out]; rfl) (by rfl) (.tmp 62) (.pointer (some (ad.add qn))) (by rfl) (.int .i64 p) (fun ρ h1 kk w1 (hg : Grow _ w1) hb hf => by have c1 := (hg.cell (p := ad.add qn) hadB).trans f0; go_simp) ?_
              refine fl_op2 64 (by rfl) (by decide) (wanted_if hops 15 false (by rfl) 50 (by rfl) false (by rfl)) (by rw [hK.out]; rfl) (by rfl) (.tmp 55) (.tmp 63) (.int .i64 p) (.int .i64 p) (by rfl) (by rfl) (.bool false) (fun ρ h1 h2 kk w1 (hg : Grow _ w1) hb hf => by go_simp) ?_
              refine fl_pick 65 (by rfl) (by decide) (wanted_none (by rfl)) (by rw [hK.out]; rfl) (by rfl) _ _ _ (by rfl) false (by rfl) (.bool false) (by rfl) ?_
              refine fl_mv 66 (by rfl) (by decide) (wanted_none (by rfl)) (by rw [hK.out]; rfl) (by rfl) _ (Or.inl (by rfl)) (.bool false) (by rfl) ?_
              refine fl_mv 67 (by rfl) (by decide) (wanted_if hops 31 false (by rfl) 66 (by rfl) false (by rfl)) (by rw [hK.out]; rfl) (by rfl) _ (Or.inl (by rfl)) (.int .i64 (j : Int)) (by rfl) ?_
              refine fl_op2 68 (by rfl) (by decide) (wanted_if hops 31 false (by rfl) 66 (by rfl) false (by rfl)) (by rw [hK.out]; rfl) (by rfl) (.tmp 67) (.const (.int .i64 0)) (.int .i64 (j : Int)) (.int .i64 0) (by rfl) (by rfl) (.bool false) (fun ρ h1 h2 kk w1 (hg : Grow _ w1) hb hf => by go_simp; exact H0.out) ?_
              refine fl_mv 69 (by rfl) (by decide) (wanted_if hops 31 false (by rfl) 66 (by rfl) false (by rfl)) (by rw [hK.out]; rfl) (by rfl) _ (Or.inl (by rfl)) (.bool false) (by rfl) ?_
              refine fl_skip 70 (by rfl) (by decide) (wanted_if hops 34 true (by rfl) 69 (by rfl) false (by rfl)) (by rfl) ?_
              refine fl_skip 71 (by rfl) (by decide) (wanted_if hops 34 true (by rfl) 69 (by rfl) false (by rfl)) (by rfl) ?_
              refine fl_skip 72 (by rfl) (by decide) (wanted_if hops 34 true (by rfl) 69 (by rfl) false (by rfl)) (by rfl) ?_
              refine fl_skip 73 (by rfl) (by decide) (wanted_if hops 34 true (by rfl) 69 (by rfl) false (by rfl)) (by rfl) ?_
              refine fl_skip 74 (by rfl) (by decide) (wanted_if hops 34 true (by rfl) 69 (by rfl) false (by rfl)) (by rfl) ?_
              refine fl_skip 75 (by rfl) (by decide) (wanted_if hops 34 true (by rfl) 69 (by rfl) false (by rfl)) (by rfl) ?_
              refine fl_skip 76 (by rfl) (by decide) (wanted_if hops 34 true (by rfl) 69 (by rfl) false (by rfl)) (by rfl) ?_
              refine fl_skip 77 (by rfl) (by decide) (wanted_if hops 34 true (by rfl) 69 (by rfl) false (by rfl)) (by rfl) ?_
              refine fl_skip 78 (by rfl) (by decide) (wanted_if hops 34 true (by rfl) 69 (by rfl) false (by rfl)) (by rfl) ?_
              refine fl_skip 79 (by rfl) (by decide) (wanted_if hops 34 true (by rfl) 69 (by rfl) false (by rfl)) (by rfl) ?_
              refine fl_skip 80 (by rfl) (by decide) (wanted_if hops 34 true (by rfl) 69 (by rfl) false (by rfl)) (by rfl) ?_
              refine fl_skip 81 (by rfl) (by decide) (wanted_if hops 34 true (by rfl) 69 (by rfl) false (by rfl)) (by rfl) ?_
              refine fl_skip 82 (by rfl) (by decide) (wanted_if hops 34 true (by rfl) 69 (by rfl) false (by rfl)) (by rfl) ?_
              refine fl_skip 83 (by rfl) (by decide) (wanted_out hops 47 false (by rfl) 82 (by rfl) (by rfl)) (by rfl) ?_
              refine fl_skip 84 (by rfl) (by decide) (wanted_out hops 47 false (by rfl) 82 (by rfl) (by rfl)) (by rfl) ?_
              refine fl_skip 85 (by rfl) (by decide) (wanted_out hops 47 false (by rfl) 82 (by rfl) (by rfl)) (by rfl) ?_
              refine fl_skip 86 (by rfl) (by decide) (wanted_out hops 47 false (by rfl) 82 (by rfl) (by rfl)) (by rfl) ?_
              refine fl_skip 87 (by rfl) (by decide) (wanted_out hops 47 false (by rfl) 82 (by rfl) (by rfl)) (by rfl) ?_
              refine fl_skip 88 (by rfl) (by decide) (wanted_out hops 47 false (by rfl) 82 (by rfl) (by rfl)) (by rfl) ?_
              refine fl_skip 89 (by rfl) (by decide) (wanted_out hops 47 false (by rfl) 82 (by rfl) (by rfl)) (by rfl) ?_
              refine fl_skip 90 (by rfl) (by decide) (wanted_out hops 47 false (by rfl) 82 (by rfl) (by rfl)) (by rfl) ?_
              refine fl_skip 91 (by rfl) (by decide) (wanted_out hops 47 false (by rfl) 82 (by rfl) (by rfl)) (by rfl) ?_
              refine fl_skip 92 (by rfl) (by decide) (wanted_out hops 47 false (by rfl) 82 (by rfl) (by rfl)) (by rfl) ?_
              refine fl_skip 93 (by rfl) (by decide) (wanted_out hops 47 false (by rfl) 82 (by rfl) (by rfl)) (by rfl) ?_
              refine fl_skip 94 (by rfl) (by decide) (wanted_out hops 47 false (by rfl) 82 (by rfl) (by rfl)) (by rfl) ?_
              refine fl_skip 95 (by rfl) (by decide) (wanted_out hops 47 false (by rfl) 82 (by rfl) (by rfl)) (by rfl) ?_
              refine fl_skip 96 (by rfl) (by decide) (wanted_out hops 60 true (by rfl) 95 (by rfl) (by rfl)) (by rfl) ?_
              refine fl_skip 97 (by rfl) (by decide) (wanted_out hops 60 true (by rfl) 95 (by rfl) (by rfl)) (by rfl) ?_
              refine fl_skip 98 (by rfl) (by decide) (wanted_out hops 60 true (by rfl) 95 (by rfl) (by rfl)) (by rfl) ?_
              refine fl_skip 99 (by rfl) (by decide) (wanted_out hops 60 true (by rfl) 95 (by rfl) (by rfl)) (by rfl) ?_
              refine fl_skip 100 (by rfl) (by decide) (wanted_out hops 60 true (by rfl) 95 (by rfl) (by rfl)) (by rfl) ?_
              refine fl_skip 101 (by rfl) (by decide) (wanted_out hops 60 true (by rfl) 95 (by rfl) (by rfl)) (by rfl) ?_
              refine fl_skip 102 (by rfl) (by decide) (wanted_out hops 60 true (by rfl) 95 (by rfl) (by rfl)) (by rfl) ?_
              refine fl_skip 103 (by rfl) (by decide) (wanted_out hops 60 true (by rfl) 95 (by rfl) (by rfl)) (by rfl) ?_
              refine fl_skip 104 (by rfl) (by decide) (wanted_out hops 60 true (by rfl) 95 (by rfl) (by rfl)) (by rfl) ?_
              refine fl_skip 105 (by rfl) (by decide) (wanted_out hops 60 true (by rfl) 95 (by rfl) (by rfl)) (by rfl) ?_
              refine fl_skip 106 (by rfl) (by decide) (wanted_out hops 60 true (by rfl) 95 (by rfl) (by rfl)) (by rfl) ?_
              refine fl_skip 107 (by rfl) (by decide) (wanted_out hops 60 true (by rfl) 95 (by rfl) (by rfl)) (by rfl) ?_
              refine fl_skip 108 (by rfl) (by decide) (wanted_out hops 47 false (by rfl) 82 (by rfl) (by rfl)) (by rfl) ?_
              refine fl_skip 109 (by rfl) (by decide) (wanted_if hops 34 true (by rfl) 69 (by rfl) false (by rfl)) (by rfl) ?_
              refine fl_pick 110 (by rfl) (by decide) (wanted_if hops 31 false (by rfl) 66 (by rfl) false (by rfl)) (by rw [hK.out]; rfl) (by rfl) _ _ _ (by rfl) false (by rfl) (.bool false) (by rfl) ?_
              refine fl_pick 111 (by rfl) (by decide) (wanted_none (by rfl)) (by rw [hK.out]; rfl) (by rfl) _ _ _ (by rfl) false (by rfl) (.bool false) (by rfl) ?_
              refine fl_end (fun _ _ w1 (hg : Grow _ w1) _ hfacts => hT _ _ ?_)
              clear hops hA' hK hT
              simp only [putsL, Act.put, List.setIfInBounds_toArray, List.set_cons_zero, List.set_cons_succ, List.drop_succ_cons, List.drop_zero]
              clear hfacts
              have hPg := hPj.grow hg
              have hlk := pm_look0 hPg (qn : Int) hwq
              rw [hnew] at hlk
              obtain ⟨w3, hrun, hP3, hj3⟩ := hPg.put intMap (qn : Int) 1 hwq (by decide) (by unfold maxLen; omega)
              rw [hnew, Option.isSome_none, if_neg (by simp)] at hP3
              have hP3 := PMap.imp hP3 (f' := seenF S (j + 1)) fun y _ => hnext y
              have e1 := (hc w1 (hg.block g hgl)).2
              go_wp2_with fail
              go_roundw
              case rel => exact ⟨j + 1, by omega, by go_num, hP3, (hjr.trans (Just.of_grow hg)).trans hj3⟩
              case measure => simp [intOf]; omega
            · have hj0 : decide ((0 : Int) < (j : Int)) = true := decide_eq_true (by omega)
              have hjt : ((j : Int) - 1).toNat = j - 1 := by omega
              have hj1 : 0 ≤ (j : Int) - 1 := by omega
              have hj2' : (j : Int) - 1 < (60 : Int) := by omega
              have hjw : IntKind.i64.wrap ((j : Int) - 1) = (j : Int) - 1 := by rw [IntKind.wrap_i64]; omega
              obtain ⟨g', hA, _, _, hc'⟩ := own_item hOr (k := j - 1) (by omega)
              injection hA with hA
              injection hA with hA _ _
              subst hA
              have hlt := hpr (j - 1) (by omega)
              generalize hat S (j - 1) = ai at hc' hlt
              obtain ⟨p', q'⟩ := ai
              unfold Lt at hlt
              dsimp only at hc' hlt
              have hd1 : decide (p < p') = false := decide_eq_false (by omega)
              clear hpr
              by_cases hpe : p = p'
              · have hd2 : (p == p') = true := beq_iff_eq.2 hpe
                have hd3 : decide ((qn : Int) ≤ q') = false := decide_eq_false (by omega)
                have HPE := Lib.hid hpe
                clear hpe
                go_wp2_with fail
                refine wp_region_flow 77 139 [] rfl rfl (by kernel_rfl) (by kernel_rfl) (by kernel_rfl) ?_ ?_
                · intro x hx φ he
                  cases hx
                intro ops' A' K' T hops hA' hK hT
                refine fl_mv 35 (by rfl) (by decide) (wanted_none (by rfl)) (by rw [hK.out]; rfl) (by rfl) _ (Or.inl (by rfl)) (.slice (some ⟨g, 0, none⟩) 60 c) (by rfl) ?_
                refine fl_mv 36 (by rfl) (by decide) (wanted_none (by rfl)) (by rw [hK.out]; rfl) (by rfl) _ (Or.inl (by rfl)) (.int .i64 (j : Int)) (by rfl) ?_
                refine fl_op2 37 (by rfl) (by decide) (wanted_none (by rfl)) (by rw [hK.out]; rfl) (by rfl) (.tmp 35) (.tmp 36) (.slice (some ⟨g, 0, none⟩) 60 c) (.int .i64 (j : Int)) (by rfl) (by rfl) (.pointer (some ⟨g, j * 2, none⟩)) (fun ρ h1 h2 kk w1 (hg : Grow _ w1) hb hf => by go_simp; intro hlt; omega) ?_
                refine fl_op1 38 (by rfl) (by decide) (wanted_none (by rfl)) (by rw [hK.out]; rfl) (by rfl) (.tmp 37) (.pointer (some ⟨g, j * 2, none⟩)) (by rfl) (.pointer (some ⟨g, j * 2 + 1, none⟩)) (fun ρ h1 kk w1 (hg : Grow _ w1) hb hf => by go_simp) ?_
                refine fl_op1 39 (by rfl) (by decide) (wanted_none (by rfl)) (by rw [hK.out]; rfl) (by rfl) (.tmp 38) (.pointer (some ⟨g, j * 2 + 1, none⟩)) (by rfl) (.int .i64 (qn : Int)) (fun ρ h1 kk w1 (hg : Grow _ w1) hb hf => by have c1 := (hc w1 (hg.block g hgl)).2; go_simp) ?_
                refine fl_op2 40 (by rfl) (by decide) (wanted_none (by rfl)) (by rw [hK.out]; rfl) (by rfl) (.tmp 39) (.const (.int .i64 0)) (.int .i64 (qn : Int)) (.int .i64 0) (by rfl) (by rfl) (.bool false) (fun ρ h1 h2 kk w1 (hg : Grow _ w1) hb hf => by go_simp) ?_
                refine fl_mv 41 (by rfl) (by decide) (wanted_none (by rfl)) (by rw [hK.out]; rfl) (by rfl) _ (Or.inl (by rfl)) (.bool false) (by rfl) ?_
                refine fl_mv 42 (by rfl) (by decide) (wanted_if hops 6 false (by rfl) 41 (by rfl) false (by rfl)) (by rw [hK.out]; rfl) (by rfl) _ (Or.inl (by rfl)) (.slice (some ⟨g, 0, none⟩) 60 c) (by rfl) ?_
                refine fl_mv 43 (by rfl) (by decide) (wanted_if hops 6 false (by rfl) 41 (by rfl) false (by rfl)) (by rw [hK.out]; rfl) (by rfl) _ (Or.inl (by rfl)) (.int .i64 (j : Int)) (by rfl) ?_
                refine fl_op2 44 (by rfl) (by decide) (wanted_if hops 6 false (by rfl) 41 (by rfl) false (by rfl)) (by rw [hK.out]; rfl) (by rfl) (.tmp 42) (.tmp 43) (.slice (some ⟨g, 0, none⟩) 60 c) (.int .i64 (j : Int)) (by rfl) (by rfl) (.pointer (some ⟨g, j * 2, none⟩)) (fun ρ h1 h2 kk w1 (hg : Grow _ w1) hb hf => by go_simp; intro hlt; omega) ?_
                refine fl_op1 45 (by rfl) (by decide) (wanted_if hops 6 false (by rfl) 41 (by rfl) false (by rfl)) (by rw [hK.out]; rfl) (by rfl) (.tmp 44) (.pointer (some ⟨g, j * 2, none⟩)) (by rfl) (.pointer (some ⟨g, j * 2 + 1, none⟩)) (fun ρ h1 kk w1 (hg : Grow _ w1) hb hf => by go_simp) ?_
                refine fl_op1 46 (by rfl) (by decide) (wanted_if hops 6 false (by rfl) 41 (by rfl) false (by rfl)) (by rw [hK.out]; rfl) (by rfl) (.tmp 45) (.pointer (some ⟨g, j * 2 + 1, none⟩)) (by rfl) (.int .i64 (qn : Int)) (fun ρ h1 kk w1 (hg : Grow _ w1) hb hf => by have c1 := (hc w1 (hg.block g hgl)).2; go_simp) ?_
                refine fl_mv 47 (by rfl) (by decide) (wanted_if hops 6 false (by rfl) 41 (by rfl) false (by rfl)) (by rw [hK.out]; rfl) (by rfl) _ (Or.inl (by rfl)) (.int .i64 60) (by rfl) ?_
                refine fl_op2 48 (by rfl) (by decide) (wanted_if hops 6 false (by rfl) 41 (by rfl) false (by rfl)) (by rw [hK.out]; rfl) (by rfl) (.tmp 46) (.tmp 47) (.int .i64 (qn : Int)) (.int .i64 60) (by rfl) (by rfl) (.bool false) (fun ρ h1 h2 kk w1 (hg : Grow _ w1) hb hf => by go_simp) ?_
                refine fl_pick 49 (by rfl) (by decide) (wanted_none (by rfl)) (by rw [hK.out]; rfl) (by rfl) _ _ _ (by rfl) false (by rfl) (.bool false) (by rfl) ?_
                refine fl_mv 50 (by rfl) (by decide) (wanted_none (by rfl)) (by rw [hK.out]; rfl) (by rfl) _ (Or.inl (by rfl)) (.bool false) (by rfl) ?_
                refine fl_mv 51 (by rfl) (by decide) (wanted_if hops 15 false (by rfl) 50 (by rfl) false (by rfl)) (by rw [hK.out]; rfl) (by rfl) _ (Or.inl (by rfl)) (.slice (some ⟨g, 0, none⟩) 60 c) (by rfl) ?_
                refine fl_mv 52 (by rfl) (by decide) (wanted_if hops 15 false (by rfl) 50 (by rfl) false (by rfl)) (by rw [hK.out]; rfl) (by rfl) _ (Or.inl (by rfl)) (.int .i64 (j : Int)) (by rfl) ?_
                refine fl_op2 53 (by rfl) (by decide) (wanted_if hops 15 false (by rfl) 50 (by rfl) false (by rfl)) (by rw [hK.out]; rfl) (by rfl) (.tmp 51) (.tmp 52) (.slice (some ⟨g, 0, none⟩) 60 c) (.int .i64 (j : Int)) (by rfl) (by rfl) (.pointer (some ⟨g, j * 2, none⟩)) (fun ρ h1 h2 kk w1 (hg : Grow _ w1) hb hf => by go_simp; intro hlt; omega) ?_
                refine fl_op1 54 (by rfl) (by decide) (wanted_if hops 15 false (by rfl) 50 (by rfl) false (by rfl)) (by rw [hK.out]; rfl) (by rfl) (.tmp 53) (.pointer (some ⟨g, j * 2, none⟩)) (by rfl) (.pointer (some ⟨g, j * 2, none⟩)) (fun ρ h1 kk w1 (hg : Grow _ w1) hb hf => by go_simp) ?_
                refine fl_op1 55 (by rfl) (by decide) (wanted_if hops 15 false (by rfl) 50 (by rfl) false (by rfl)) (by rw [hK.out]; rfl) (by rfl) (.tmp 54) (.pointer (some ⟨g, j * 2, none⟩)) (by rfl) (.int .i64 p) (fun ρ h1 kk w1 (hg : Grow _ w1) hb hf => by have c1 := (hc w1 (hg.block g hgl)).1; go_simp) ?_
                refine fl_mv 56 (by rfl) (by decide) (wanted_if hops 15 false (by rfl) 50 (by rfl) false (by rfl)) (by rw [hK.out]; rfl) (by rfl) _ (Or.inl (by rfl)) (.slice (some ad) n0 c0) (by rfl) ?_
                refine fl_mv 57 (by rfl) (by decide) (wanted_if hops 15 false (by rfl) 50 (by rfl) false (by rfl)) (by rw [hK.out]; rfl) (by rfl) _ (Or.inl (by rfl)) (.slice (some ⟨g, 0, none⟩) 60 c) (by rfl) ?_
                refine fl_mv 58 (by rfl) (by decide) (wanted_if hops 15 false (by rfl) 50 (by rfl) false (by rfl)) (by rw [hK.out]; rfl) (by rfl) _ (Or.inl (by rfl)) (.int .i64 (j : Int)) (by rfl) ?_
                refine fl_op2 59 (by rfl) (by decide) (wanted_if hops 15 false (by rfl) 50 (by rfl) false (by rfl)) (by rw [hK.out]; rfl) (by rfl) (.tmp 57) (.tmp 58) (.slice (some ⟨g, 0, none⟩) 60 c) (.int .i64 (j : Int)) (by rfl) (by rfl) (.pointer (some ⟨g, j * 2, none⟩)) (fun ρ h1 h2 kk w1 (hg : Grow _ w1) hb hf => by go_simp; intro hlt; omega) ?_
                refine fl_op1 60 (by rfl) (by decide) (wanted_if hops 15 false (by rfl) 50 (by rfl) false (by rfl)) (by rw [hK.out]; rfl) (by rfl) (.tmp 59) (.pointer (some ⟨g, j * 2, none⟩)) (by rfl) (.pointer (some ⟨g, j * 2 + 1, none⟩)) (fun ρ h1 kk w1 (hg : Grow _ w1) hb hf => by go_simp) ?_
                refine fl_op1 61 (by rfl) (by decide) (wanted_if hops 15 false (by rfl) 50 (by rfl) false (by rfl)) (by rw [hK.out]; rfl) (by rfl) (.tmp 60) (.pointer (some ⟨g, j * 2 + 1, none⟩)) (by rfl) (.int .i64 (qn : Int)) (fun ρ h1 kk w1 (hg : Grow _ w1) hb hf => by have c1 := (hc w1 (hg.block g hgl)).2; go_simp) ?_
                refine fl_op2 62 (by rfl) (by decide) (wanted_if hops 15 false (by rfl) 50 (by rfl) false (by rfl)) (by rw [hK.out]; rfl) (by rfl) (.tmp 56) (.tmp 61) (.slice (some ad) n0 c0) (.int .i64 (qn : Int)) (by rfl) (by rfl) (.pointer (some (ad.add qn))) (fun ρ h1 h2 kk w1 (hg : Grow _ w1) hb hf => by go_simp; try (intro hlt; omega)) ?_
                refine fl_op1 63 (by rfl) (by decide) (wanted_if hops 15 false (by rfl) 50 (by rfl) false (by rfl)) (by rw [hK.out]; rfl) (by rfl) (.tmp 62) (.pointer (some (ad.add qn))) (by rfl) (.int .i64 p) (fun ρ h1 kk w1 (hg : Grow _ w1) hb hf => by have c1 := (hg.cell (p := ad.add qn) hadB).trans f0; go_simp) ?_
                refine fl_op2 64 (by rfl) (by decide) (wanted_if hops 15 false (by rfl) 50 (by rfl) false (by rfl)) (by rw [hK.out]; rfl) (by rfl) (.tmp 55) (.tmp 63) (.int .i64 p) (.int .i64 p) (by rfl) (by rfl) (.bool false) (fun ρ h1 h2 kk w1 (hg : Grow _ w1) hb hf => by go_simp) ?_
                refine fl_pick 65 (by rfl) (by decide) (wanted_none (by rfl)) (by rw [hK.out]; rfl) (by rfl) _ _ _ (by rfl) false (by rfl) (.bool false) (by rfl) ?_
                refine fl_mv 66 (by rfl) (by decide) (wanted_none (by rfl)) (by rw [hK.out]; rfl) (by rfl) _ (Or.inl (by rfl)) (.bool false) (by rfl) ?_
                refine fl_mv 67 (by rfl) (by decide) (wanted_if hops 31 false (by rfl) 66 (by rfl) false (by rfl)) (by rw [hK.out]; rfl) (by rfl) _ (Or.inl (by rfl)) (.int .i64 (j : Int)) (by rfl) ?_
                refine fl_op2 68 (by rfl) (by decide) (wanted_if hops 31 false (by rfl) 66 (by rfl) false (by rfl)) (by rw [hK.out]; rfl) (by rfl) (.tmp 67) (.const (.int .i64 0)) (.int .i64 (j : Int)) (.int .i64 0) (by rfl) (by rfl) (.bool true) (fun ρ h1 h2 kk w1 (hg : Grow _ w1) hb hf => by go_simp; omega) ?_
                refine fl_mv 69 (by rfl) (by decide) (wanted_if hops 31 false (by rfl) 66 (by rfl) false (by rfl)) (by rw [hK.out]; rfl) (by rfl) _ (Or.inl (by rfl)) (.bool true) (by rfl) ?_
                refine fl_mv 70 (by rfl) (by decide) (wanted_if hops 34 true (by rfl) 69 (by rfl) true (by rfl)) (by rw [hK.out]; rfl) (by rfl) _ (Or.inl (by rfl)) (.slice (some ⟨g, 0, none⟩) 60 c) (by rfl) ?_
                refine fl_mv 71 (by rfl) (by decide) (wanted_if hops 34 true (by rfl) 69 (by rfl) true (by rfl)) (by rw [hK.out]; rfl) (by rfl) _ (Or.inl (by rfl)) (.int .i64 (j : Int)) (by rfl) ?_
                refine fl_op2 72 (by rfl) (by decide) (wanted_if hops 34 true (by rfl) 69 (by rfl) true (by rfl)) (by rw [hK.out]; rfl) (by rfl) (.tmp 70) (.tmp 71) (.slice (some ⟨g, 0, none⟩) 60 c) (.int .i64 (j : Int)) (by rfl) (by rfl) (.pointer (some ⟨g, j * 2, none⟩)) (fun ρ h1 h2 kk w1 (hg : Grow _ w1) hb hf => by go_simp; intro hlt; omega) ?_
                refine fl_op1 73 (by rfl) (by decide) (wanted_if hops 34 true (by rfl) 69 (by rfl) true (by rfl)) (by rw [hK.out]; rfl) (by rfl) (.tmp 72) (.pointer (some ⟨g, j * 2, none⟩)) (by rfl) (.pointer (some ⟨g, j * 2, none⟩)) (fun ρ h1 kk w1 (hg : Grow _ w1) hb hf => by go_simp) ?_
                refine fl_op1 74 (by rfl) (by decide) (wanted_if hops 34 true (by rfl) 69 (by rfl) true (by rfl)) (by rw [hK.out]; rfl) (by rfl) (.tmp 73) (.pointer (some ⟨g, j * 2, none⟩)) (by rfl) (.int .i64 p) (fun ρ h1 kk w1 (hg : Grow _ w1) hb hf => by have c1 := (hc w1 (hg.block g hgl)).1; go_simp) ?_
                refine fl_mv 75 (by rfl) (by decide) (wanted_if hops 34 true (by rfl) 69 (by rfl) true (by rfl)) (by rw [hK.out]; rfl) (by rfl) _ (Or.inl (by rfl)) (.slice (some ⟨g, 0, none⟩) 60 c) (by rfl) ?_
                refine fl_mv 76 (by rfl) (by decide) (wanted_if hops 34 true (by rfl) 69 (by rfl) true (by rfl)) (by rw [hK.out]; rfl) (by rfl) _ (Or.inl (by rfl)) (.int .i64 (j : Int)) (by rfl) ?_
                refine fl_op2 77 (by rfl) (by decide) (wanted_if hops 34 true (by rfl) 69 (by rfl) true (by rfl)) (by rw [hK.out]; rfl) (by rfl) (.tmp 76) (.const (.int .i64 1)) (.int .i64 (j : Int)) (.int .i64 1) (by rfl) (by rfl) (.int .i64 ((j : Int) - 1)) (fun ρ h1 h2 kk w1 (hg : Grow _ w1) hb hf => by go_simp) ?_
                refine fl_op2 78 (by rfl) (by decide) (wanted_if hops 34 true (by rfl) 69 (by rfl) true (by rfl)) (by rw [hK.out]; rfl) (by rfl) (.tmp 75) (.tmp 77) (.slice (some ⟨g, 0, none⟩) 60 c) (.int .i64 ((j : Int) - 1)) (by rfl) (by rfl) (.pointer (some ⟨g, (j - 1) * 2, none⟩)) (fun ρ h1 h2 kk w1 (hg : Grow _ w1) hb hf => by go_simp; try (intro hlt; omega)) ?_
                refine fl_op1 79 (by rfl) (by decide) (wanted_if hops 34 true (by rfl) 69 (by rfl) true (by rfl)) (by rw [hK.out]; rfl) (by rfl) (.tmp 78) (.pointer (some ⟨g, (j - 1) * 2, none⟩)) (by rfl) (.pointer (some ⟨g, (j - 1) * 2, none⟩)) (fun ρ h1 kk w1 (hg : Grow _ w1) hb hf => by go_simp) ?_
                refine fl_op1 80 (by rfl) (by decide) (wanted_if hops 34 true (by rfl) 69 (by rfl) true (by rfl)) (by rw [hK.out]; rfl) (by rfl) (.tmp 79) (.pointer (some ⟨g, (j - 1) * 2, none⟩)) (by rfl) (.int .i64 p') (fun ρ h1 kk w1 (hg : Grow _ w1) hb hf => by have c1 := (hc' w1 (hg.block g hgl)).1; go_simp) ?_
                refine fl_op2 81 (by rfl) (by decide) (wanted_if hops 34 true (by rfl) 69 (by rfl) true (by rfl)) (by rw [hK.out]; rfl) (by rfl) (.tmp 74) (.tmp 80) (.int .i64 p) (.int .i64 p') (by rfl) (by rfl) (.bool false) (fun ρ h1 h2 kk w1 (hg : Grow _ w1) hb hf => by go_simp) ?_
                refine fl_mv 82 (by rfl) (by decide) (wanted_if hops 34 true (by rfl) 69 (by rfl) true (by rfl)) (by rw [hK.out]; rfl) (by rfl) _ (Or.inl (by rfl)) (.bool false) (by rfl) ?_
                refine fl_mv 83 (by rfl) (by decide) (wanted_if hops 47 false (by rfl) 82 (by rfl) false (by rfl)) (by rw [hK.out]; rfl) (by rfl) _ (Or.inl (by rfl)) (.slice (some ⟨g, 0, none⟩) 60 c) (by rfl) ?_
                refine fl_mv 84 (by rfl) (by decide) (wanted_if hops 47 false (by rfl) 82 (by rfl) false (by rfl)) (by rw [hK.out]; rfl) (by rfl) _ (Or.inl (by rfl)) (.int .i64 (j : Int)) (by rfl) ?_
                refine fl_op2 85 (by rfl) (by decide) (wanted_if hops 47 false (by rfl) 82 (by rfl) false (by rfl)) (by rw [hK.out]; rfl) (by rfl) (.tmp 83) (.tmp 84) (.slice (some ⟨g, 0, none⟩) 60 c) (.int .i64 (j : Int)) (by rfl) (by rfl) (.pointer (some ⟨g, j * 2, none⟩)) (fun ρ h1 h2 kk w1 (hg : Grow _ w1) hb hf => by go_simp; intro hlt; omega) ?_
                refine fl_op1 86 (by rfl) (by decide) (wanted_if hops 47 false (by rfl) 82 (by rfl) false (by rfl)) (by rw [hK.out]; rfl) (by rfl) (.tmp 85) (.pointer (some ⟨g, j * 2, none⟩)) (by rfl) (.pointer (some ⟨g, j * 2, none⟩)) (fun ρ h1 kk w1 (hg : Grow _ w1) hb hf => by go_simp) ?_
                refine fl_op1 87 (by rfl) (by decide) (wanted_if hops 47 false (by rfl) 82 (by rfl) false (by rfl)) (by rw [hK.out]; rfl) (by rfl) (.tmp 86) (.pointer (some ⟨g, j * 2, none⟩)) (by rfl) (.int .i64 p) (fun ρ h1 kk w1 (hg : Grow _ w1) hb hf => by have c1 := (hc w1 (hg.block g hgl)).1; go_simp) ?_
                refine fl_mv 88 (by rfl) (by decide) (wanted_if hops 47 false (by rfl) 82 (by rfl) false (by rfl)) (by rw [hK.out]; rfl) (by rfl) _ (Or.inl (by rfl)) (.slice (some ⟨g, 0, none⟩) 60 c) (by rfl) ?_
                refine fl_mv 89 (by rfl) (by decide) (wanted_if hops 47 false (by rfl) 82 (by rfl) false (by rfl)) (by rw [hK.out]; rfl) (by rfl) _ (Or.inl (by rfl)) (.int .i64 (j : Int)) (by rfl) ?_
                refine fl_op2 90 (by rfl) (by decide) (wanted_if hops 47 false (by rfl) 82 (by rfl) false (by rfl)) (by rw [hK.out]; rfl) (by rfl) (.tmp 89) (.const (.int .i64 1)) (.int .i64 (j : Int)) (.int .i64 1) (by rfl) (by rfl) (.int .i64 ((j : Int) - 1)) (fun ρ h1 h2 kk w1 (hg : Grow _ w1) hb hf => by go_simp) ?_
                refine fl_op2 91 (by rfl) (by decide) (wanted_if hops 47 false (by rfl) 82 (by rfl) false (by rfl)) (by rw [hK.out]; rfl) (by rfl) (.tmp 88) (.tmp 90) (.slice (some ⟨g, 0, none⟩) 60 c) (.int .i64 ((j : Int) - 1)) (by rfl) (by rfl) (.pointer (some ⟨g, (j - 1) * 2, none⟩)) (fun ρ h1 h2 kk w1 (hg : Grow _ w1) hb hf => by go_simp; try (intro hlt; omega)) ?_
                refine fl_op1 92 (by rfl) (by decide) (wanted_if hops 47 false (by rfl) 82 (by rfl) false (by rfl)) (by rw [hK.out]; rfl) (by rfl) (.tmp 91) (.pointer (some ⟨g, (j - 1) * 2, none⟩)) (by rfl) (.pointer (some ⟨g, (j - 1) * 2, none⟩)) (fun ρ h1 kk w1 (hg : Grow _ w1) hb hf => by go_simp) ?_
                refine fl_op1 93 (by rfl) (by decide) (wanted_if hops 47 false (by rfl) 82 (by rfl) false (by rfl)) (by rw [hK.out]; rfl) (by rfl) (.tmp 92) (.pointer (some ⟨g, (j - 1) * 2, none⟩)) (by rfl) (.int .i64 p') (fun ρ h1 kk w1 (hg : Grow _ w1) hb hf => by have c1 := (hc' w1 (hg.block g hgl)).1; go_simp) ?_
                refine fl_op2 94 (by rfl) (by decide) (wanted_if hops 47 false (by rfl) 82 (by rfl) false (by rfl)) (by rw [hK.out]; rfl) (by rfl) (.tmp 87) (.tmp 93) (.int .i64 p) (.int .i64 p') (by rfl) (by rfl) (.bool true) (fun ρ h1 h2 kk w1 (hg : Grow _ w1) hb hf => by go_simp) ?_
                refine fl_mv 95 (by rfl) (by decide) (wanted_if hops 47 false (by rfl) 82 (by rfl) false (by rfl)) (by rw [hK.out]; rfl) (by rfl) _ (Or.inl (by rfl)) (.bool true) (by rfl) ?_
                refine fl_mv 96 (by rfl) (by decide) (wanted_if hops 60 true (by rfl) 95 (by rfl) true (by rfl)) (by rw [hK.out]; rfl) (by rfl) _ (Or.inl (by rfl)) (.slice (some ⟨g, 0, none⟩) 60 c) (by rfl) ?_
                refine fl_mv 97 (by rfl) (by decide) (wanted_if hops 60 true (by rfl) 95 (by rfl) true (by rfl)) (by rw [hK.out]; rfl) (by rfl) _ (Or.inl (by rfl)) (.int .i64 (j : Int)) (by rfl) ?_
                refine fl_op2 98 (by rfl) (by decide) (wanted_if hops 60 true (by rfl) 95 (by rfl) true (by rfl)) (by rw [hK.out]; rfl) (by rfl) (.tmp 96) (.tmp 97) (.slice (some ⟨g, 0, none⟩) 60 c) (.int .i64 (j : Int)) (by rfl) (by rfl) (.pointer (some ⟨g, j * 2, none⟩)) (fun ρ h1 h2 kk w1 (hg : Grow _ w1) hb hf => by go_simp; intro hlt; omega) ?_
                refine fl_op1 99 (by rfl) (by decide) (wanted_if hops 60 true (by rfl) 95 (by rfl) true (by rfl)) (by rw [hK.out]; rfl) (by rfl) (.tmp 98) (.pointer (some ⟨g, j * 2, none⟩)) (by rfl) (.pointer (some ⟨g, j * 2 + 1, none⟩)) (fun ρ h1 kk w1 (hg : Grow _ w1) hb hf => by go_simp) ?_
                refine fl_op1 100 (by rfl) (by decide) (wanted_if hops 60 true (by rfl) 95 (by rfl) true (by rfl)) (by rw [hK.out]; rfl) (by rfl) (.tmp 99) (.pointer (some ⟨g, j * 2 + 1, none⟩)) (by rfl) (.int .i64 (qn : Int)) (fun ρ h1 kk w1 (hg : Grow _ w1) hb hf => by have c1 := (hc w1 (hg.block g hgl)).2; go_simp) ?_
                refine fl_mv 101 (by rfl) (by decide) (wanted_if hops 60 true (by rfl) 95 (by rfl) true (by rfl)) (by rw [hK.out]; rfl) (by rfl) _ (Or.inl (by rfl)) (.slice (some ⟨g, 0, none⟩) 60 c) (by rfl) ?_
                refine fl_mv 102 (by rfl) (by decide) (wanted_if hops 60 true (by rfl) 95 (by rfl) true (by rfl)) (by rw [hK.out]; rfl) (by rfl) _ (Or.inl (by rfl)) (.int .i64 (j : Int)) (by rfl) ?_
                refine fl_op2 103 (by rfl) (by decide) (wanted_if hops 60 true (by rfl) 95 (by rfl) true (by rfl)) (by rw [hK.out]; rfl) (by rfl) (.tmp 102) (.const (.int .i64 1)) (.int .i64 (j : Int)) (.int .i64 1) (by rfl) (by rfl) (.int .i64 ((j : Int) - 1)) (fun ρ h1 h2 kk w1 (hg : Grow _ w1) hb hf => by go_simp) ?_
                refine fl_op2 104 (by rfl) (by decide) (wanted_if hops 60 true (by rfl) 95 (by rfl) true (by rfl)) (by rw [hK.out]; rfl) (by rfl) (.tmp 101) (.tmp 103) (.slice (some ⟨g, 0, none⟩) 60 c) (.int .i64 ((j : Int) - 1)) (by rfl) (by rfl) (.pointer (some ⟨g, (j - 1) * 2, none⟩)) (fun ρ h1 h2 kk w1 (hg : Grow _ w1) hb hf => by go_simp; try (intro hlt; omega)) ?_
                refine fl_op1 105 (by rfl) (by decide) (wanted_if hops 60 true (by rfl) 95 (by rfl) true (by rfl)) (by rw [hK.out]; rfl) (by rfl) (.tmp 104) (.pointer (some ⟨g, (j - 1) * 2, none⟩)) (by rfl) (.pointer (some ⟨g, (j - 1) * 2 + 1, none⟩)) (fun ρ h1 kk w1 (hg : Grow _ w1) hb hf => by go_simp) ?_
                refine fl_op1 106 (by rfl) (by decide) (wanted_if hops 60 true (by rfl) 95 (by rfl) true (by rfl)) (by rw [hK.out]; rfl) (by rfl) (.tmp 105) (.pointer (some ⟨g, (j - 1) * 2 + 1, none⟩)) (by rfl) (.int .i64 q') (fun ρ h1 kk w1 (hg : Grow _ w1) hb hf => by have c1 := (hc' w1 (hg.block g hgl)).2; go_simp) ?_
                refine fl_op2 107 (by rfl) (by decide) (wanted_if hops 60 true (by rfl) 95 (by rfl) true (by rfl)) (by rw [hK.out]; rfl) (by rfl) (.tmp 100) (.tmp 106) (.int .i64 (qn : Int)) (.int .i64 q') (by rfl) (by rfl) (.bool false) (fun ρ h1 h2 kk w1 (hg : Grow _ w1) hb hf => by go_simp) ?_
                refine fl_pick 108 (by rfl) (by decide) (wanted_if hops 47 false (by rfl) 82 (by rfl) false (by rfl)) (by rw [hK.out]; rfl) (by rfl) _ _ _ (by rfl) true (by rfl) (.bool false) (by rfl) ?_
                refine fl_pick 109 (by rfl) (by decide) (wanted_if hops 34 true (by rfl) 69 (by rfl) true (by rfl)) (by rw [hK.out]; rfl) (by rfl) _ _ _ (by rfl) false (by rfl) (.bool false) (by rfl) ?_
                refine fl_pick 110 (by rfl) (by decide) (wanted_if hops 31 false (by rfl) 66 (by rfl) false (by rfl)) (by rw [hK.out]; rfl) (by rfl) _ _ _ (by rfl) true (by rfl) (.bool false) (by rfl) ?_
                refine fl_pick 111 (by rfl) (by decide) (wanted_none (by rfl)) (by rw [hK.out]; rfl) (by rfl) _ _ _ (by rfl) false (by rfl) (.bool false) (by rfl) ?_
                refine fl_end (fun _ _ w1 (hg : Grow _ w1) _ hfacts => hT _ _ ?_)
                clear hops hA' hK hT
                simp only [putsL, Act.put, List.setIfInBounds_toArray, List.set_cons_zero, List.set_cons_succ, List.drop_succ_cons, List.drop_zero]
                clear hfacts
                have hPg := hPj.grow hg
                have hlk := pm_look0 hPg (qn : Int) hwq
                rw [hnew] at hlk
                obtain ⟨w3, hrun, hP3, hj3⟩ := hPg.put intMap (qn : Int) 1 hwq (by decide) (by unfold maxLen; omega)
                rw [hnew, Option.isSome_none, if_neg (by simp)] at hP3
                have hP3 := PMap.imp hP3 (f' := seenF S (j + 1)) fun y _ => hnext y
                have e1 := (hc w1 (hg.block g hgl)).2
                go_wp2_with fail
                go_roundw
                case rel => exact ⟨j + 1, by omega, by go_num, hP3, (hjr.trans (Just.of_grow hg)).trans hj3⟩
                case measure => simp [intOf]; omega
              · have hd2 : (p == p') = false := beq_eq_false_iff_ne.2 hpe
                go_wp2_with fail
                refine wp_region_flow 77 139 [] rfl rfl (by kernel_rfl) (by kernel_rfl) (by kernel_rfl) ?_ ?_
                · intro x hx φ he
                  cases hx
                intro ops' A' K' T hops hA' hK hT
                refine fl_mv 35 (by rfl) (by decide) (wanted_none (by rfl)) (by rw [hK.out]; rfl) (by rfl) _ (Or.inl (by rfl)) (.slice (some ⟨g, 0, none⟩) 60 c) (by rfl) ?_
                refine fl_mv 36 (by rfl) (by decide) (wanted_none (by rfl)) (by rw [hK.out]; rfl) (by rfl) _ (Or.inl (by rfl)) (.int .i64 (j : Int)) (by rfl) ?_
                refine fl_op2 37 (by rfl) (by decide) (wanted_none (by rfl)) (by rw [hK.out]; rfl) (by rfl) (.tmp 35) (.tmp 36) (.slice (some ⟨g, 0, none⟩) 60 c) (.int .i64 (j : Int)) (by rfl) (by rfl) (.pointer (some ⟨g, j * 2, none⟩)) (fun ρ h1 h2 kk w1 (hg : Grow _ w1) hb hf => by go_simp; intro hlt; omega) ?_
                refine fl_op1 38 (by rfl) (by decide) (wanted_none (by rfl)) (by rw [hK.out]; rfl) (by rfl) (.tmp 37) (.pointer (some ⟨g, j * 2, none⟩)) (by rfl) (.pointer (some ⟨g, j * 2 + 1, none⟩)) (fun ρ h1 kk w1 (hg : Grow _ w1) hb hf => by go_simp) ?_
                refine fl_op1 39 (by rfl) (by decide) (wanted_none (by rfl)) (by rw [hK.out]; rfl) (by rfl) (.tmp 38) (.pointer (some ⟨g, j * 2 + 1, none⟩)) (by rfl) (.int .i64 (qn : Int)) (fun ρ h1 kk w1 (hg : Grow _ w1) hb hf => by have c1 := (hc w1 (hg.block g hgl)).2; go_simp) ?_
                refine fl_op2 40 (by rfl) (by decide) (wanted_none (by rfl)) (by rw [hK.out]; rfl) (by rfl) (.tmp 39) (.const (.int .i64 0)) (.int .i64 (qn : Int)) (.int .i64 0) (by rfl) (by rfl) (.bool false) (fun ρ h1 h2 kk w1 (hg : Grow _ w1) hb hf => by go_simp) ?_
                refine fl_mv 41 (by rfl) (by decide) (wanted_none (by rfl)) (by rw [hK.out]; rfl) (by rfl) _ (Or.inl (by rfl)) (.bool false) (by rfl) ?_
                refine fl_mv 42 (by rfl) (by decide) (wanted_if hops 6 false (by rfl) 41 (by rfl) false (by rfl)) (by rw [hK.out]; rfl) (by rfl) _ (Or.inl (by rfl)) (.slice (some ⟨g, 0, none⟩) 60 c) (by rfl) ?_
                refine fl_mv 43 (by rfl) (by decide) (wanted_if hops 6 false (by rfl) 41 (by rfl) false (by rfl)) (by rw [hK.out]; rfl) (by rfl) _ (Or.inl (by rfl)) (.int .i64 (j : Int)) (by rfl) ?_
                refine fl_op2 44 (by rfl) (by decide) (wanted_if hops 6 false (by rfl) 41 (by rfl) false (by rfl)) (by rw [hK.out]; rfl) (by rfl) (.tmp 42) (.tmp 43) (.slice (some ⟨g, 0, none⟩) 60 c) (.int .i64 (j : Int)) (by rfl) (by rfl) (.pointer (some ⟨g, j * 2, none⟩)) (fun ρ h1 h2 kk w1 (hg : Grow _ w1) hb hf => by go_simp; intro hlt; omega) ?_
                refine fl_op1 45 (by rfl) (by decide) (wanted_if hops 6 false (by rfl) 41 (by rfl) false (by rfl)) (by rw [hK.out]; rfl) (by rfl) (.tmp 44) (.pointer (some ⟨g, j * 2, none⟩)) (by rfl) (.pointer (some ⟨g, j * 2 + 1, none⟩)) (fun ρ h1 kk w1 (hg : Grow _ w1) hb hf => by go_simp) ?_
                refine fl_op1 46 (by rfl) (by decide) (wanted_if hops 6 false (by rfl) 41 (by rfl) false (by rfl)) (by rw [hK.out]; rfl) (by rfl) (.tmp 45) (.pointer (some ⟨g, j * 2 + 1, none⟩)) (by rfl) (.int .i64 (qn : Int)) (fun ρ h1 kk w1 (hg : Grow _ w1) hb hf => by have c1 := (hc w1 (hg.block g hgl)).2; go_simp) ?_
                refine fl_mv 47 (by rfl) (by decide) (wanted_if hops 6 false (by rfl) 41 (by rfl) false (by rfl)) (by rw [hK.out]; rfl) (by rfl) _ (Or.inl (by rfl)) (.int .i64 60) (by rfl) ?_
                refine fl_op2 48 (by rfl) (by decide) (wanted_if hops 6 false (by rfl) 41 (by rfl) false (by rfl)) (by rw [hK.out]; rfl) (by rfl) (.tmp 46) (.tmp 47) (.int .i64 (qn : Int)) (.int .i64 60) (by rfl) (by rfl) (.bool false) (fun ρ h1 h2 kk w1 (hg : Grow _ w1) hb hf => by go_simp) ?_
                refine fl_pick 49 (by rfl) (by decide) (wanted_none (by rfl)) (by rw [hK.out]; rfl) (by rfl) _ _ _ (by rfl) false (by rfl) (.bool false) (by rfl) ?_
                refine fl_mv 50 (by rfl) (by decide) (wanted_none (by rfl)) (by rw [hK.out]; rfl) (by rfl) _ (Or.inl (by rfl)) (.bool false) (by rfl) ?_
                refine fl_mv 51 (by rfl) (by decide) (wanted_if hops 15 false (by rfl) 50 (by rfl) false (by rfl)) (by rw [hK.out]; rfl) (by rfl) _ (Or.inl (by rfl)) (.slice (some ⟨g, 0, none⟩) 60 c) (by rfl) ?_
                refine fl_mv 52 (by rfl) (by decide) (wanted_if hops 15 false (by rfl) 50 (by rfl) false (by rfl)) (by rw [hK.out]; rfl) (by rfl) _ (Or.inl (by rfl)) (.int .i64 (j : Int)) (by rfl) ?_
                refine fl_op2 53 (by rfl) (by decide) (wanted_if hops 15 false (by rfl) 50 (by rfl) false (by rfl)) (by rw [hK.out]; rfl) (by rfl) (.tmp 51) (.tmp 52) (.slice (some ⟨g, 0, none⟩) 60 c) (.int .i64 (j : Int)) (by rfl) (by rfl) (.pointer (some ⟨g, j * 2, none⟩)) (fun ρ h1 h2 kk w1 (hg : Grow _ w1) hb hf => by go_simp; intro hlt; omega) ?_
                refine fl_op1 54 (by rfl) (by decide) (wanted_if hops 15 false (by rfl) 50 (by rfl) false (by rfl)) (by rw [hK.out]; rfl) (by rfl) (.tmp 53) (.pointer (some ⟨g, j * 2, none⟩)) (by rfl) (.pointer (some ⟨g, j * 2, none⟩)) (fun ρ h1 kk w1 (hg : Grow _ w1) hb hf => by go_simp) ?_
                refine fl_op1 55 (by rfl) (by decide) (wanted_if hops 15 false (by rfl) 50 (by rfl) false (by rfl)) (by rw [hK.out]; rfl) (by rfl) (.tmp 54) (.pointer (some ⟨g, j * 2, none⟩)) (by rfl) (.int .i64 p) (fun ρ h1 kk w1 (hg : Grow _ w1) hb hf => by have c1 := (hc w1 (hg.block g hgl)).1; go_simp) ?_
                refine fl_mv 56 (by rfl) (by decide) (wanted_if hops 15 false (by rfl) 50 (by rfl) false (by rfl)) (by rw [hK.out]; rfl) (by rfl) _ (Or.inl (by rfl)) (.slice (some ad) n0 c0) (by rfl) ?_
                refine fl_mv 57 (by rfl) (by decide) (wanted_if hops 15 false (by rfl) 50 (by rfl) false (by rfl)) (by rw [hK.out]; rfl) (by rfl) _ (Or.inl (by rfl)) (.slice (some ⟨g, 0, none⟩) 60 c) (by rfl) ?_
                refine fl_mv 58 (by rfl) (by decide) (wanted_if hops 15 false (by rfl) 50 (by rfl) false (by rfl)) (by rw [hK.out]; rfl) (by rfl) _ (Or.inl (by rfl)) (.int .i64 (j : Int)) (by rfl) ?_
                refine fl_op2 59 (by rfl) (by decide) (wanted_if hops 15 false (by rfl) 50 (by rfl) false (by rfl)) (by rw [hK.out]; rfl) (by rfl) (.tmp 57) (.tmp 58) (.slice (some ⟨g, 0, none⟩) 60 c) (.int .i64 (j : Int)) (by rfl) (by rfl) (.pointer (some ⟨g, j * 2, none⟩)) (fun ρ h1 h2 kk w1 (hg : Grow _ w1) hb hf => by go_simp; intro hlt; omega) ?_
                refine fl_op1 60 (by rfl) (by decide) (wanted_if hops 15 false (by rfl) 50 (by rfl) false (by rfl)) (by rw [hK.out]; rfl) (by rfl) (.tmp 59) (.pointer (some ⟨g, j * 2, none⟩)) (by rfl) (.pointer (some ⟨g, j * 2 + 1, none⟩)) (fun ρ h1 kk w1 (hg : Grow _ w1) hb hf => by go_simp) ?_
                refine fl_op1 61 (by rfl) (by decide) (wanted_if hops 15 false (by rfl) 50 (by rfl) false (by rfl)) (by rw [hK.out]; rfl) (by rfl) (.tmp 60) (.pointer (some ⟨g, j * 2 + 1, none⟩)) (by rfl) (.int .i64 (qn : Int)) (fun ρ h1 kk w1 (hg : Grow _ w1) hb hf => by have c1 := (hc w1 (hg.block g hgl)).2; go_simp) ?_
                refine fl_op2 62 (by rfl) (by decide) (wanted_if hops 15 false (by rfl) 50 (by rfl) false (by rfl)) (by rw [hK.out]; rfl) (by rfl) (.tmp 56) (.tmp 61) (.slice (some ad) n0 c0) (.int .i64 (qn : Int)) (by rfl) (by rfl) (.pointer (some (ad.add qn))) (fun ρ h1 h2 kk w1 (hg : Grow _ w1) hb hf => by go_simp; try (intro hlt; omega)) ?_
                refine fl_op1 63 (by rfl) (by decide) (wanted_if hops 15 false (by rfl) 50 (by rfl) false (by rfl)) (by rw [hK.out]; rfl) (by rfl) (.tmp 62) (.pointer (some (ad.add qn))) (by rfl) (.int .i64 p) (fun ρ h1 kk w1 (hg : Grow _ w1) hb hf => by have c1 := (hg.cell (p := ad.add qn) hadB).trans f0; go_simp) ?_
                refine fl_op2 64 (by rfl) (by decide) (wanted_if hops 15 false (by rfl) 50 (by rfl) false (by rfl)) (by rw [hK.out]; rfl) (by rfl) (.tmp 55) (.tmp 63) (.int .i64 p) (.int .i64 p) (by rfl) (by rfl) (.bool false) (fun ρ h1 h2 kk w1 (hg : Grow _ w1) hb hf => by go_simp) ?_
                refine fl_pick 65 (by rfl) (by decide) (wanted_none (by rfl)) (by rw [hK.out]; rfl) (by rfl) _ _ _ (by rfl) false (by rfl) (.bool false) (by rfl) ?_
                refine fl_mv 66 (by rfl) (by decide) (wanted_none (by rfl)) (by rw [hK.out]; rfl) (by rfl) _ (Or.inl (by rfl)) (.bool false) (by rfl) ?_
                refine fl_mv 67 (by rfl) (by decide) (wanted_if hops 31 false (by rfl) 66 (by rfl) false (by rfl)) (by rw [hK.out]; rfl) (by rfl) _ (Or.inl (by rfl)) (.int .i64 (j : Int)) (by rfl) ?_
                refine fl_op2 68 (by rfl) (by decide) (wanted_if hops 31 false (by rfl) 66 (by rfl) false (by rfl)) (by rw [hK.out]; rfl) (by rfl) (.tmp 67) (.const (.int .i64 0)) (.int .i64 (j : Int)) (.int .i64 0) (by rfl) (by rfl) (.bool true) (fun ρ h1 h2 kk w1 (hg : Grow _ w1) hb hf => by go_simp; omega) ?_
                refine fl_mv 69 (by rfl) (by decide) (wanted_if hops 31 false (by rfl) 66 (by rfl) false (by rfl)) (by rw [hK.out]; rfl) (by rfl) _ (Or.inl (by rfl)) (.bool true) (by rfl) ?_
                refine fl_mv 70 (by rfl) (by decide) (wanted_if hops 34 true (by rfl) 69 (by rfl) true (by rfl)) (by rw [hK.out]; rfl) (by rfl) _ (Or.inl (by rfl)) (.slice (some ⟨g, 0, none⟩) 60 c) (by rfl) ?_
                refine fl_mv 71 (by rfl) (by decide) (wanted_if hops 34 true (by rfl) 69 (by rfl) true (by rfl)) (by rw [hK.out]; rfl) (by rfl) _ (Or.inl (by rfl)) (.int .i64 (j : Int)) (by rfl) ?_
                refine fl_op2 72 (by rfl) (by decide) (wanted_if hops 34 true (by rfl) 69 (by rfl) true (by rfl)) (by rw [hK.out]; rfl) (by rfl) (.tmp 70) (.tmp 71) (.slice (some ⟨g, 0, none⟩) 60 c) (.int .i64 (j : Int)) (by rfl) (by rfl) (.pointer (some ⟨g, j * 2, none⟩)) (fun ρ h1 h2 kk w1 (hg : Grow _ w1) hb hf => by go_simp; intro hlt; omega) ?_
                refine fl_op1 73 (by rfl) (by decide) (wanted_if hops 34 true (by rfl) 69 (by rfl) true (by rfl)) (by rw [hK.out]; rfl) (by rfl) (.tmp 72) (.pointer (some ⟨g, j * 2, none⟩)) (by rfl) (.pointer (some ⟨g, j * 2, none⟩)) (fun ρ h1 kk w1 (hg : Grow _ w1) hb hf => by go_simp) ?_
                refine fl_op1 74 (by rfl) (by decide) (wanted_if hops 34 true (by rfl) 69 (by rfl) true (by rfl)) (by rw [hK.out]; rfl) (by rfl) (.tmp 73) (.pointer (some ⟨g, j * 2, none⟩)) (by rfl) (.int .i64 p) (fun ρ h1 kk w1 (hg : Grow _ w1) hb hf => by have c1 := (hc w1 (hg.block g hgl)).1; go_simp) ?_
                refine fl_mv 75 (by rfl) (by decide) (wanted_if hops 34 true (by rfl) 69 (by rfl) true (by rfl)) (by rw [hK.out]; rfl) (by rfl) _ (Or.inl (by rfl)) (.slice (some ⟨g, 0, none⟩) 60 c) (by rfl) ?_
                refine fl_mv 76 (by rfl) (by decide) (wanted_if hops 34 true (by rfl) 69 (by rfl) true (by rfl)) (by rw [hK.out]; rfl) (by rfl) _ (Or.inl (by rfl)) (.int .i64 (j : Int)) (by rfl) ?_
                refine fl_op2 77 (by rfl) (by decide) (wanted_if hops 34 true (by rfl) 69 (by rfl) true (by rfl)) (by rw [hK.out]; rfl) (by rfl) (.tmp 76) (.const (.int .i64 1)) (.int .i64 (j : Int)) (.int .i64 1) (by rfl) (by rfl) (.int .i64 ((j : Int) - 1)) (fun ρ h1 h2 kk w1 (hg : Grow _ w1) hb hf => by go_simp) ?_
                refine fl_op2 78 (by rfl) (by decide) (wanted_if hops 34 true (by rfl) 69 (by rfl) true (by rfl)) (by rw [hK.out]; rfl) (by rfl) (.tmp 75) (.tmp 77) (.slice (some ⟨g, 0, none⟩) 60 c) (.int .i64 ((j : Int) - 1)) (by rfl) (by rfl) (.pointer (some ⟨g, (j - 1) * 2, none⟩)) (fun ρ h1 h2 kk w1 (hg : Grow _ w1) hb hf => by go_simp; try (intro hlt; omega)) ?_
                refine fl_op1 79 (by rfl) (by decide) (wanted_if hops 34 true (by rfl) 69 (by rfl) true (by rfl)) (by rw [hK.out]; rfl) (by rfl) (.tmp 78) (.pointer (some ⟨g, (j - 1) * 2, none⟩)) (by rfl) (.pointer (some ⟨g, (j - 1) * 2, none⟩)) (fun ρ h1 kk w1 (hg : Grow _ w1) hb hf => by go_simp) ?_
                refine fl_op1 80 (by rfl) (by decide) (wanted_if hops 34 true (by rfl) 69 (by rfl) true (by rfl)) (by rw [hK.out]; rfl) (by rfl) (.tmp 79) (.pointer (some ⟨g, (j - 1) * 2, none⟩)) (by rfl) (.int .i64 p') (fun ρ h1 kk w1 (hg : Grow _ w1) hb hf => by have c1 := (hc' w1 (hg.block g hgl)).1; go_simp) ?_
                refine fl_op2 81 (by rfl) (by decide) (wanted_if hops 34 true (by rfl) 69 (by rfl) true (by rfl)) (by rw [hK.out]; rfl) (by rfl) (.tmp 74) (.tmp 80) (.int .i64 p) (.int .i64 p') (by rfl) (by rfl) (.bool false) (fun ρ h1 h2 kk w1 (hg : Grow _ w1) hb hf => by go_simp) ?_
                refine fl_mv 82 (by rfl) (by decide) (wanted_if hops 34 true (by rfl) 69 (by rfl) true (by rfl)) (by rw [hK.out]; rfl) (by rfl) _ (Or.inl (by rfl)) (.bool false) (by rfl) ?_
                refine fl_mv 83 (by rfl) (by decide) (wanted_if hops 47 false (by rfl) 82 (by rfl) false (by rfl)) (by rw [hK.out]; rfl) (by rfl) _ (Or.inl (by rfl)) (.slice (some ⟨g, 0, none⟩) 60 c) (by rfl) ?_
                refine fl_mv 84 (by rfl) (by decide) (wanted_if hops 47 false (by rfl) 82 (by rfl) false (by rfl)) (by rw [hK.out]; rfl) (by rfl) _ (Or.inl (by rfl)) (.int .i64 (j : Int)) (by rfl) ?_
                refine fl_op2 85 (by rfl) (by decide) (wanted_if hops 47 false (by rfl) 82 (by rfl) false (by rfl)) (by rw [hK.out]; rfl) (by rfl) (.tmp 83) (.tmp 84) (.slice (some ⟨g, 0, none⟩) 60 c) (.int .i64 (j : Int)) (by rfl) (by rfl) (.pointer (some ⟨g, j * 2, none⟩)) (fun ρ h1 h2 kk w1 (hg : Grow _ w1) hb hf => by go_simp; intro hlt; omega) ?_
                refine fl_op1 86 (by rfl) (by decide) (wanted_if hops 47 false (by rfl) 82 (by rfl) false (by rfl)) (by rw [hK.out]; rfl) (by rfl) (.tmp 85) (.pointer (some ⟨g, j * 2, none⟩)) (by rfl) (.pointer (some ⟨g, j * 2, none⟩)) (fun ρ h1 kk w1 (hg : Grow _ w1) hb hf => by go_simp) ?_
                refine fl_op1 87 (by rfl) (by decide) (wanted_if hops 47 false (by rfl) 82 (by rfl) false (by rfl)) (by rw [hK.out]; rfl) (by rfl) (.tmp 86) (.pointer (some ⟨g, j * 2, none⟩)) (by rfl) (.int .i64 p) (fun ρ h1 kk w1 (hg : Grow _ w1) hb hf => by have c1 := (hc w1 (hg.block g hgl)).1; go_simp) ?_
                refine fl_mv 88 (by rfl) (by decide) (wanted_if hops 47 false (by rfl) 82 (by rfl) false (by rfl)) (by rw [hK.out]; rfl) (by rfl) _ (Or.inl (by rfl)) (.slice (some ⟨g, 0, none⟩) 60 c) (by rfl) ?_
                refine fl_mv 89 (by rfl) (by decide) (wanted_if hops 47 false (by rfl) 82 (by rfl) false (by rfl)) (by rw [hK.out]; rfl) (by rfl) _ (Or.inl (by rfl)) (.int .i64 (j : Int)) (by rfl) ?_
                refine fl_op2 90 (by rfl) (by decide) (wanted_if hops 47 false (by rfl) 82 (by rfl) false (by rfl)) (by rw [hK.out]; rfl) (by rfl) (.tmp 89) (.const (.int .i64 1)) (.int .i64 (j : Int)) (.int .i64 1) (by rfl) (by rfl) (.int .i64 ((j : Int) - 1)) (fun ρ h1 h2 kk w1 (hg : Grow _ w1) hb hf => by go_simp) ?_
                refine fl_op2 91 (by rfl) (by decide) (wanted_if hops 47 false (by rfl) 82 (by rfl) false (by rfl)) (by rw [hK.out]; rfl) (by rfl) (.tmp 88) (.tmp 90) (.slice (some ⟨g, 0, none⟩) 60 c) (.int .i64 ((j : Int) - 1)) (by rfl) (by rfl) (.pointer (some ⟨g, (j - 1) * 2, none⟩)) (fun ρ h1 h2 kk w1 (hg : Grow _ w1) hb hf => by go_simp; try (intro hlt; omega)) ?_
                refine fl_op1 92 (by rfl) (by decide) (wanted_if hops 47 false (by rfl) 82 (by rfl) false (by rfl)) (by rw [hK.out]; rfl) (by rfl) (.tmp 91) (.pointer (some ⟨g, (j - 1) * 2, none⟩)) (by rfl) (.pointer (some ⟨g, (j - 1) * 2, none⟩)) (fun ρ h1 kk w1 (hg : Grow _ w1) hb hf => by go_simp) ?_
                refine fl_op1 93 (by rfl) (by decide) (wanted_if hops 47 false (by rfl) 82 (by rfl) false (by rfl)) (by rw [hK.out]; rfl) (by rfl) (.tmp 92) (.pointer (some ⟨g, (j - 1) * 2, none⟩)) (by rfl) (.int .i64 p') (fun ρ h1 kk w1 (hg : Grow _ w1) hb hf => by have c1 := (hc' w1 (hg.block g hgl)).1; go_simp) ?_
                refine fl_op2 94 (by rfl) (by decide) (wanted_if hops 47 false (by rfl) 82 (by rfl) false (by rfl)) (by rw [hK.out]; rfl) (by rfl) (.tmp 87) (.tmp 93) (.int .i64 p) (.int .i64 p') (by rfl) (by rfl) (.bool false) (fun ρ h1 h2 kk w1 (hg : Grow _ w1) hb hf => by go_simp) ?_
                refine fl_mv 95 (by rfl) (by decide) (wanted_if hops 47 false (by rfl) 82 (by rfl) false (by rfl)) (by rw [hK.out]; rfl) (by rfl) _ (Or.inl (by rfl)) (.bool false) (by rfl) ?_
                refine fl_skip 96 (by rfl) (by decide) (wanted_if hops 60 true (by rfl) 95 (by rfl) false (by rfl)) (by rfl) ?_
                refine fl_skip 97 (by rfl) (by decide) (wanted_if hops 60 true (by rfl) 95 (by rfl) false (by rfl)) (by rfl) ?_
                refine fl_skip 98 (by rfl) (by decide) (wanted_if hops 60 true (by rfl) 95 (by rfl) false (by rfl)) (by rfl) ?_
                refine fl_skip 99 (by rfl) (by decide) (wanted_if hops 60 true (by rfl) 95 (by rfl) false (by rfl)) (by rfl) ?_
                refine fl_skip 100 (by rfl) (by decide) (wanted_if hops 60 true (by rfl) 95 (by rfl) false (by rfl)) (by rfl) ?_
                refine fl_skip 101 (by rfl) (by decide) (wanted_if hops 60 true (by rfl) 95 (by rfl) false (by rfl)) (by rfl) ?_
                refine fl_skip 102 (by rfl) (by decide) (wanted_if hops 60 true (by rfl) 95 (by rfl) false (by rfl)) (by rfl) ?_
                refine fl_skip 103 (by rfl) (by decide) (wanted_if hops 60 true (by rfl) 95 (by rfl) false (by rfl)) (by rfl) ?_
                refine fl_skip 104 (by rfl) (by decide) (wanted_if hops 60 true (by rfl) 95 (by rfl) false (by rfl)) (by rfl) ?_
                refine fl_skip 105 (by rfl) (by decide) (wanted_if hops 60 true (by rfl) 95 (by rfl) false (by rfl)) (by rfl) ?_
                refine fl_skip 106 (by rfl) (by decide) (wanted_if hops 60 true (by rfl) 95 (by rfl) false (by rfl)) (by rfl) ?_
                refine fl_skip 107 (by rfl) (by decide) (wanted_if hops 60 true (by rfl) 95 (by rfl) false (by rfl)) (by rfl) ?_
                refine fl_pick 108 (by rfl) (by decide) (wanted_if hops 47 false (by rfl) 82 (by rfl) false (by rfl)) (by rw [hK.out]; rfl) (by rfl) _ _ _ (by rfl) false (by rfl) (.bool false) (by rfl) ?_
                refine fl_pick 109 (by rfl) (by decide) (wanted_if hops 34 true (by rfl) 69 (by rfl) true (by rfl)) (by rw [hK.out]; rfl) (by rfl) _ _ _ (by rfl) false (by rfl) (.bool false) (by rfl) ?_
                refine fl_pick 110 (by rfl) (by decide) (wanted_if hops 31 false (by rfl) 66 (by rfl) false (by rfl)) (by rw [hK.out]; rfl) (by rfl) _ _ _ (by rfl) true (by rfl) (.bool false) (by rfl) ?_
                refine fl_pick 111 (by rfl) (by decide) (wanted_none (by rfl)) (by rw [hK.out]; rfl) (by rfl) _ _ _ (by rfl) false (by rfl) (.bool false) (by rfl) ?_
                refine fl_end (fun _ _ w1 (hg : Grow _ w1) _ hfacts => hT _ _ ?_)
                clear hops hA' hK hT
                simp only [putsL, Act.put, List.setIfInBounds_toArray, List.set_cons_zero, List.set_cons_succ, List.drop_succ_cons, List.drop_zero]
                clear hfacts
                have hPg := hPj.grow hg
                have hlk := pm_look0 hPg (qn : Int) hwq
                rw [hnew] at hlk
                obtain ⟨w3, hrun, hP3, hj3⟩ := hPg.put intMap (qn : Int) 1 hwq (by decide) (by unfold maxLen; omega)
                rw [hnew, Option.isSome_none, if_neg (by simp)] at hP3
                have hP3 := PMap.imp hP3 (f' := seenF S (j + 1)) fun y _ => hnext y
                have e1 := (hc w1 (hg.block g hgl)).2
                go_wp2_with fail
                go_roundw
                case rel => exact ⟨j + 1, by omega, by go_num, hP3, (hjr.trans (Just.of_grow hg)).trans hj3⟩
                case measure => simp [intOf]; omega
          · obtain rfl : 60 = j := by omega
            have hj' : decide ((60 : Int) < (60 : Int)) = false := decide_eq_false (by omega)
            have hln := fun ty => hPj.len intMap ty
            have hs := hs.past (TimersAt.framed _ _) hjr fun b h1 h2 => h2.2 h1
            clear hOr hPj hO2 hP0
            go_wp2_with fail
            refine (tlen_solo hs).mono ?_
            rintro e w9 ⟨rfl, rfl⟩
            go_wp2_with (go_at_call 8; refine (known_any _).mono ?_; rintro e w7 ⟨rfl, hg7⟩)
            go_ret
            exact ⟨rfl, Below.trans hbr (hg7.mono hbr.size)⟩
end Go.Proofs.Ytjjafpgpnmdjlaa
