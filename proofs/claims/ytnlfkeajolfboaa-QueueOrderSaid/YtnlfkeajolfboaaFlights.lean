/- QueueFlights: its walk. -/
import Derived.Test.YtnlfkeajolfboaaSeqs
import Derived.Test.YtnlfkeajolfboaaWithin
namespace Go.Proofs.Ytnlfkeajolfboaa
open Go.RowKit Go.Hop
theorem erase_nodup {s : Int} : ∀ {l : List Ab}, (l.map (·.1)).Nodup → ∀ a ∈ doneL l s, isSeq s a = false
  | [], _, a, h => by simp [doneL] at h
  | b :: l, hn, a, h => by
    rw [List.map_cons, List.nodup_cons] at hn
    unfold doneL at h
    rw [List.eraseP_cons] at h
    cases hb : isSeq s b with
    | true =>
      rw [hb, cond_true] at h
      cases ha : isSeq s a with
      | false => rfl
      | true =>
        have e1 : b.1 = s := by simpa [isSeq] using hb
        have e2 : a.1 = s := by simpa [isSeq] using ha
        exact absurd (List.mem_map.2 ⟨a, h, e2.trans e1.symm⟩) hn.1
    | false =>
      rw [hb, cond_false] at h
      rcases List.mem_cons.1 h with h | h
      · rw [h]; exact hb
      · exact erase_nodup hn.2 a h
theorem done_mem {l : List Ab} {j : Nat} (hj : j < l.length) (hn : (l.map (·.1)).Nodup) :
    doneB l l[j].1 = true ∧ (doneL l l[j].1).length = l.length - 1 ∧ ((doneL l l[j].1).map (·.1)).Nodup ∧ doneB (doneL l l[j].1) l[j].1 = false ∧ doneL (doneL l l[j].1) l[j].1 = doneL l l[j].1 := by
  have hm : l[j] ∈ l := List.getElem_mem hj
  have hp : isSeq l[j].1 l[j] = true := by simp [isSeq]
  have hf := erase_nodup (s := l[j].1) hn
  refine ⟨by unfold doneB; exact List.any_eq_true.2 ⟨_, hm, hp⟩, List.length_eraseP_of_mem hm hp, (List.eraseP_sublist.map _).nodup hn, ?_, ?_⟩
  · unfold doneB; rw [List.any_eq_false]; intro a ha; rw [hf a ha]; decide
  · unfold doneL at hf ⊢; exact List.eraseP_of_forall_not (fun a ha => by rw [hf a ha]; decide)
theorem mk_nodup (n : Nat) : ((mk n).map (·.1)).Nodup := by
  unfold mk
  rw [List.map_map]
  exact List.pairwise_map.2 (List.nodup_range.imp (fun {a b} h e => h (by simp only [Function.comp] at e; omega)))
theorem seq_of {q : List Bat} {l : List Ab} (h : q.map Bat.abs = l) {k : Nat} (hk : k < q.length) : ∃ hl : k < l.length, q[k].seq = l[k].1 := by
  subst h
  exact ⟨by simpa using hk, by simp [Bat.abs]⟩
set_option maxRecDepth 100000 in
set_option maxHeartbeats 4000000 in
theorem flights_any (w : World) (z : Int) (hz : -9223372036854775808 ≤ z ∧ z ≤ 9223372036854775807) (A : Option Addr) (n c : Nat) (l : List Int) (hr : Reads w w.heap.size 1 A n (l.map (Value.int .i64))) (hw : ∀ x ∈ l, -9223372036854775808 ≤ x ∧ x ≤ 9223372036854775807) :
    Calls Try.prog 7 #[.int .i64 z, .slice A n c] w fun e w' => e = .returned (.bool true) ∧ Grow w w' := by
  go_enter Try.func7, Try.ntmps7
  go_wp2_with (first
    | (go_at_call 8; refine (New_any _).mono ?_; rintro e w1 ⟨rfl, hD1, hg1⟩))
  obtain ⟨g, HD⟩ : ∃ g : Nat, Hid (g = w.heap.size) := ⟨_, rfl⟩
  rw [← HD.out] at hD1 ⊢
  have hs1 := hg1.size
  have hs0 : Solo (fun b => w.heap.size ≤ b) (QueueAt g [] 0) w1 := Solo.make (V := New w w1) hD1 (fun b hb => by omega) (fun b hb => hb)
  clear hD1
  go_wp2_with (go_at_call 14; refine (within_nat _ z 1 16 hz (by omega) (by omega) (by omega)).mono ?_; rintro e w4 ⟨m, hm0, hm1, rfl, rfl⟩)
  have hm1 : 1 ≤ m := by omega
  have hm16 : m ≤ 16 := by omega
  clear hm0
  go_loopw [7] (fun i wr => ∃ k : Nat, k ≤ m ∧ i = .int .i64 ((k : Int) + 1) ∧ Solo (fun b => w.heap.size ≤ b) (QueueAt g (mk k) (k : Int)) wr ∧ Below w.heap.size w wr) (fun i _ => m + 1 - (intOf i).toNat)
  case atStart => exact ⟨0, by omega, rfl, hs0, hg1⟩
  case round =>
    obtain ⟨k, hkm, rfl, hs, hb⟩ := hrel
    by_cases hk : k < m
    · obtain ⟨x, wa, HX, HA, hda, hsa, hba, _⟩ := beside_delta hs hb ⟨#[97, 61, 49]⟩ 1
      rw [show ((1 : Nat) : Int) = 1 from rfl] at HA
      clear hs
      go_wp2_with fail
      rw [← HA.out, ← HX.out]
      refine (hsa.call (Add_ok _ _ g (mk k) _ ((k : Int) + 1) _ 1 1 [da] hda (by decide) (by decide) (by omega) (by omega) (by decide) (by decide) (by rw [mk_len]; omega))).mono ?_
      rintro e w3 ⟨rfl, hj3, hs3⟩
      have hb3 := hba.trans (hj3.below (fun _ h => h.1) hba.size)
      rw [← mk_succ] at hs3
      clear hj3 hsa hda hba
      go_wp2_with fail
      go_roundw
      case rel => exact ⟨k + 1, by omega, by go_num, Solo.wide hs3 fun b hb => hb.1, hb3⟩
      case measure => simp [intOf]; omega
    · obtain rfl : k = m := by omega
      have hkk : decide ((k : Int) + 1 ≤ (k : Int)) = false := decide_eq_false (by omega)
      go_wp2_with (go_at_call 11; refine (solo_look hs fun V h => Len_at wr g _ _ V h k (mk_len k)).mono ?_; rintro e w6 ⟨rfl, rfl⟩)
      have hs' : ∃ (l : List Ab) (last : Int), l.length = k ∧ (l.map (·.1)).Nodup ∧ Solo (fun b => w.heap.size ≤ b) (QueueAt g l last) wr := ⟨_, _, mk_len k, mk_nodup k, hs⟩
      obtain ⟨l0, last0, hl0, hn0, hs2⟩ := hs'
      clear hs
      go_loopw [8] (fun i wr => ∃ (j : Nat) (ll : List Ab) (last : Int), j ≤ k ∧ i = .int .i64 (j : Int) ∧ ll.length + j = k ∧ (ll.map (·.1)).Nodup ∧ Solo (fun b => w.heap.size ≤ b) (QueueAt g ll last) wr ∧ Below w.heap.size w wr) (fun i _ => k - (intOf i).toNat)
      case atStart => exact ⟨0, l0, last0, by omega, rfl, by omega, hn0, hs2, hb⟩
      case round =>
        obtain ⟨j, ll, last, hjk, rfl, hll, hnd, hs, hb⟩ := hrel
        by_cases hj : j < k
        · obtain ⟨M, HM⟩ : ∃ M : Nat, Hid (min ll.length 4 = M) := ⟨_, rfl⟩
          have hMl : 1 ≤ M ∧ M ≤ ll.length ∧ M ≤ 4 := by have := HM.out; omega
          go_wp2_with fail
          go_at_call 16
          refine (solo_look hs fun V h => Flight_at wr g _ _ V h M HM.out).mono ?_
          rintro e w7 ⟨A7, q7, rfl, hq7, ha7, hg7⟩
          have hb7 := below_trans hb hg7 hb.size
          have hs7 : Solo (fun b => w.heap.size ≤ b ∧ ¬ New wr w7 b) (QueueAt g ll last) w7 := Solo.beside hs (QueueAt.framed _ _ _) hg7 fun b hb h => ⟨hb, fun hn => by have := hn.1; have := hn.2; omega⟩
          have hMc : (k - j ≤ 4 ∧ M ≤ k - j ∧ k - j ≤ M) ∨ (4 < k - j ∧ M ≤ 4 ∧ 4 ≤ M) := by have := HM.out; omega
          clear hs hb
          rcases hMc with ⟨hm1, hm2⟩ | ⟨hm1, hm2⟩
          · by_cases hjn : j < n
            · skip
              have hmn : ((k : Int) - (j : Int)) ≤ 4 := by omega
              have hne : ((M : Int) != (k : Int) - (j : Int)) = false := by rw [bne_eq_false_iff_eq]; omega
              obtain ⟨ad, u, hA, hadB, hu, hcc⟩ := hr.at_ hjn
              subst hA
              rw [List.getElem?_map] at hu
              obtain ⟨z1, hz1, hu⟩ := Option.map_eq_some_iff.1 hu
              subst hu
              have hz1 := hw z1 (List.mem_of_getElem? hz1)
              have hcc := (hb7.cell (p := ad.add j) (by rw [block_add]; exact hadB)).trans hcc
              go_wp2_with (go_at_call 14; refine (within_nat _ z1 0 _ hz1 (by omega) (by omega) (by omega)).mono ?_; rintro e w8 ⟨jj, hj0, hj1, rfl, rfl⟩)
              have hjj : jj < M := by omega
              clear hj0 hj1 hcc
              clear hmn hne
              go_at_call 15
              refine (solo_look hs7 fun V h => All_at _ g _ _ V h ll.length rfl).mono ?_
              rintro e w9 ⟨A9, q9, rfl, hq9, ha9, hg9⟩
              have hb9 := below_trans hb7 hg9 hb7.size
              have hs9 := hs7.grow (QueueAt.framed _ _ _) hg9
              have hql7 := hq7.len
              have hql9 := hq9.len
              have hsq : ∀ y : Nat, y < M → ∃ sq : Int, (∃ hy : y < ll.length, sq = ll[y].1) ∧ (∃ hy : y < q7.length, q7[y].seq = sq) ∧ (∃ hy : y < q9.length, q9[y].seq = sq) := fun y hy => by
                obtain ⟨h1, h2⟩ := seq_of ha7 (show y < q7.length by omega)
                obtain ⟨h3, h4⟩ := seq_of ha9 (show y < q9.length by omega)
                exact ⟨ll[y].1, ⟨h3, rfl⟩, ⟨by omega, by rw [h2, List.getElem_take]⟩, ⟨by omega, h4⟩⟩
              obtain ⟨ad7, hA7⟩ : ∃ a, A7 = some a := by obtain ⟨a, e, _⟩ := hq7.row.2 (by omega); exact ⟨a, e⟩
              obtain ⟨ad9, hA9⟩ : ∃ a, A9 = some a := by obtain ⟨a, e, _⟩ := hq9.row.2 (by omega); exact ⟨a, e⟩
              subst hA7 hA9
              have hcells : ∀ y : Nat, y < M → ∃ sq : Int, (∃ hy : y < ll.length, sq = ll[y].1) ∧ (∀ wq, Just (fun b => w.heap.size ≤ b ∧ ¬ New wr w7 b) w7 wq → wq.cell? (ad7.add (y * 2)) = some (.int .i64 sq)) ∧ (∀ wq, Grow w9 wq → wq.cell? (ad9.add (y * 2)) = some (.int .i64 sq)) := fun y hy => by
                obtain ⟨sq, h1, ⟨h2, h3⟩, ⟨h4, h5⟩⟩ := hsq y hy
                refine ⟨sq, h1, fun wq hgq => ?_, fun wq hgq => ?_⟩
                · obtain ⟨a1, k1, e1, _, _, c1, _⟩ := (hq7.row.just hgq (fun b hb h => h.2 hb)).rec_ (by omega) bat_len (k := y) (by omega)
                  injection e1 with e1
                  subst e1
                  rw [← h3]; exact c1 _ rfl
                · obtain ⟨a2, k2, e2, _, _, c2, _⟩ := (hq9.grow hgq).row.rec_ (by omega) bat_len (k := y) (by omega)
                  injection e2 with e2
                  subst e2
                  rw [← h5]; exact c2 _ rfl
              clear hsq hq9 hq7 ha7 ha9 hql7 hql9
              have hjk : decide ((j : Int) < (k : Int)) = true := decide_eq_true (by omega)
              go_wp2_with fail
              go_loopw [63] (fun i wq => ∃ y : Nat, y ≤ M ∧ i = .int .i64 (y : Int) ∧ Grow w9 wq) (fun i _ => M - (intOf i).toNat)
              case atStart => exact ⟨0, by omega, rfl, Grow.refl _⟩
              case round =>
                obtain ⟨y, hyM, hi, hgq⟩ := hrel
                subst hi
                by_cases hy : y < M
                · obtain ⟨sq, _, e7, e9⟩ := hcells y hy
                  have hyl : y < ll.length := by omega
                  go_wp2_with fail
                  refine wp_region_flow 11 107 [] rfl rfl (by kernel_rfl) (by kernel_rfl) (by kernel_rfl) ?_ ?_
                  · intro x hx φ he
                    cases hx
                  intro ops' A' K' T hops hA' hK hT
                  refine fl_mv 66 (by rfl) (by decide) (wanted_none (by rfl)) (by rw [hK.out]; rfl) (by rfl) _ (Or.inl (by rfl)) (.slice (some ad7) M M) (by rfl) ?_
                  refine fl_mv 67 (by rfl) (by decide) (wanted_none (by rfl)) (by rw [hK.out]; rfl) (by rfl) _ (Or.inl (by rfl)) (.int .i64 (y : Int)) (by rfl) ?_
                  refine fl_op2 68 (by rfl) (by decide) (wanted_none (by rfl)) (by rw [hK.out]; rfl) (by rfl) (.tmp 66) (.tmp 67) (.slice (some ad7) M M) (.int .i64 (y : Int)) (by rfl) (by rfl) (.pointer (some (ad7.add (y * 2)))) (fun ρ h1 h2 kk w1 (hg : Grow _ w1) hb hf => by go_simp) ?_
                  refine fl_op1 69 (by rfl) (by decide) (wanted_none (by rfl)) (by rw [hK.out]; rfl) (by rfl) (.tmp 68) (.pointer (some (ad7.add (y * 2)))) (by rfl) (.pointer (some (ad7.add (y * 2)))) (fun ρ h1 kk w1 (hg : Grow _ w1) hb hf => by go_simp) ?_
                  refine fl_op1 70 (by rfl) (by decide) (wanted_none (by rfl)) (by rw [hK.out]; rfl) (by rfl) (.tmp 69) (.pointer (some (ad7.add (y * 2)))) (by rfl) (.int .i64 sq) (fun ρ h1 kk w1 (hg : Grow _ w1) hb hf => by have c := e7 _ (Just.of_grow ((hg9.trans hgq).trans hg)); go_simp) ?_
                  refine fl_mv 71 (by rfl) (by decide) (wanted_none (by rfl)) (by rw [hK.out]; rfl) (by rfl) _ (Or.inl (by rfl)) (.slice (some ad9) ll.length ll.length) (by rfl) ?_
                  refine fl_mv 72 (by rfl) (by decide) (wanted_none (by rfl)) (by rw [hK.out]; rfl) (by rfl) _ (Or.inl (by rfl)) (.int .i64 (y : Int)) (by rfl) ?_
                  refine fl_op2 73 (by rfl) (by decide) (wanted_none (by rfl)) (by rw [hK.out]; rfl) (by rfl) (.tmp 71) (.tmp 72) (.slice (some ad9) ll.length ll.length) (.int .i64 (y : Int)) (by rfl) (by rfl) (.pointer (some (ad9.add (y * 2)))) (fun ρ h1 h2 kk w1 (hg : Grow _ w1) hb hf => by go_simp) ?_
                  refine fl_op1 74 (by rfl) (by decide) (wanted_none (by rfl)) (by rw [hK.out]; rfl) (by rfl) (.tmp 73) (.pointer (some (ad9.add (y * 2)))) (by rfl) (.pointer (some (ad9.add (y * 2)))) (fun ρ h1 kk w1 (hg : Grow _ w1) hb hf => by go_simp) ?_
                  refine fl_op1 75 (by rfl) (by decide) (wanted_none (by rfl)) (by rw [hK.out]; rfl) (by rfl) (.tmp 74) (.pointer (some (ad9.add (y * 2)))) (by rfl) (.int .i64 sq) (fun ρ h1 kk w1 (hg : Grow _ w1) hb hf => by have c := e9 _ (hgq.trans hg); go_simp) ?_
                  refine fl_op2 76 (by rfl) (by decide) (wanted_none (by rfl)) (by rw [hK.out]; rfl) (by rfl) (.tmp 70) (.tmp 75) (.int .i64 sq) (.int .i64 sq) (by rfl) (by rfl) (.bool false) (fun ρ h1 h2 kk w1 (hg : Grow _ w1) hb hf => by go_simp) ?_
                  refine fl_end (fun _ _ w1 (hg : Grow _ w1) _ hfacts => hT _ _ ?_)
                  clear hops hA' hK hT
                  simp only [putsL, Act.put, List.setIfInBounds_toArray, List.set_cons_zero, List.set_cons_succ, List.drop_succ_cons, List.drop_zero]
                  go_wp2_with fail
                  go_roundw
                  case rel => exact ⟨y + 1, by omega, by go_num, hgq.trans hg⟩
                  case measure => simp [intOf]; omega
                · obtain rfl : y = M := by omega
                  obtain ⟨s, ⟨hjl, hsl⟩, e7, _⟩ := hcells jj hjj
                  have hsq := hs9.grow (QueueAt.framed _ _ _) hgq
                  obtain ⟨d1, d2, d3, d4, d5⟩ := done_mem hjl hnd
                  rw [← hsl] at d1 d2 d3 d4 d5
                  clear hsl hcells
                  have e70 := e7 _ (Just.of_grow (hg9.trans hgq))
                  have hbq := below_trans hb9 hgq hb9.size
                  have HDD := Lib.hid (And.intro d1 (And.intro d2 (And.intro d4 d5)))
                  clear d1 d2 d4 d5
                  go_wp2_with fail
                  refine (hsq.call (Done_at _ g _ _ s true _ ⟨HDD.out.1, rfl⟩)).mono ?_
                  rintro e wd ⟨rfl, hjd, hsd⟩
                  have e71 := e7 _ ((Just.of_grow (hg9.trans hgq)).trans hjd)
                  have hbd := hbq.trans (hjd.below (fun _ h => h.1) hbq.size)
                  go_wp2_with fail
                  go_at_call 10
                  refine (hsd.call (Done_at _ g _ _ s false _ ⟨HDD.out.2.2.1, HDD.out.2.2.2⟩)).mono ?_
                  rintro e we ⟨rfl, hje, hse⟩
                  have hbe := hbd.trans (hje.below (fun _ h => h.1) hbd.size)
                  go_wp2_with fail
                  go_roundw
                  case rel => exact ⟨j + 1, _, last, by omega, by go_num, by rw [HDD.out.2.1]; omega, d3, Solo.wide hse fun b hb => hb.1, hbe⟩
                  case measure => simp [intOf]; omega
            · skip
              have hmn : ((k : Int) - (j : Int)) ≤ 4 := by omega
              have hne : ((M : Int) != (k : Int) - (j : Int)) = false := by rw [bne_eq_false_iff_eq]; omega
              obtain ⟨jj, hjz, hjj⟩ : ∃ jj : Nat, Hid ((jj : Int) = 0) ∧ jj < M := ⟨0, rfl, by omega⟩
              go_wp2_with fail
              clear hmn hne
              go_at_call 15
              refine (solo_look hs7 fun V h => All_at _ g _ _ V h ll.length rfl).mono ?_
              rintro e w9 ⟨A9, q9, rfl, hq9, ha9, hg9⟩
              have hb9 := below_trans hb7 hg9 hb7.size
              have hs9 := hs7.grow (QueueAt.framed _ _ _) hg9
              have hql7 := hq7.len
              have hql9 := hq9.len
              have hsq : ∀ y : Nat, y < M → ∃ sq : Int, (∃ hy : y < ll.length, sq = ll[y].1) ∧ (∃ hy : y < q7.length, q7[y].seq = sq) ∧ (∃ hy : y < q9.length, q9[y].seq = sq) := fun y hy => by
                obtain ⟨h1, h2⟩ := seq_of ha7 (show y < q7.length by omega)
                obtain ⟨h3, h4⟩ := seq_of ha9 (show y < q9.length by omega)
                exact ⟨ll[y].1, ⟨h3, rfl⟩, ⟨by omega, by rw [h2, List.getElem_take]⟩, ⟨by omega, h4⟩⟩
              obtain ⟨ad7, hA7⟩ : ∃ a, A7 = some a := by obtain ⟨a, e, _⟩ := hq7.row.2 (by omega); exact ⟨a, e⟩
              obtain ⟨ad9, hA9⟩ : ∃ a, A9 = some a := by obtain ⟨a, e, _⟩ := hq9.row.2 (by omega); exact ⟨a, e⟩
              subst hA7 hA9
              have hcells : ∀ y : Nat, y < M → ∃ sq : Int, (∃ hy : y < ll.length, sq = ll[y].1) ∧ (∀ wq, Just (fun b => w.heap.size ≤ b ∧ ¬ New wr w7 b) w7 wq → wq.cell? (ad7.add (y * 2)) = some (.int .i64 sq)) ∧ (∀ wq, Grow w9 wq → wq.cell? (ad9.add (y * 2)) = some (.int .i64 sq)) := fun y hy => by
                obtain ⟨sq, h1, ⟨h2, h3⟩, ⟨h4, h5⟩⟩ := hsq y hy
                refine ⟨sq, h1, fun wq hgq => ?_, fun wq hgq => ?_⟩
                · obtain ⟨a1, k1, e1, _, _, c1, _⟩ := (hq7.row.just hgq (fun b hb h => h.2 hb)).rec_ (by omega) bat_len (k := y) (by omega)
                  injection e1 with e1
                  subst e1
                  rw [← h3]; exact c1 _ rfl
                · obtain ⟨a2, k2, e2, _, _, c2, _⟩ := (hq9.grow hgq).row.rec_ (by omega) bat_len (k := y) (by omega)
                  injection e2 with e2
                  subst e2
                  rw [← h5]; exact c2 _ rfl
              clear hsq hq9 hq7 ha7 ha9 hql7 hql9
              rw [← show ((jj : Int)) = 0 from hjz.out]
              have hjk : decide ((j : Int) < (k : Int)) = true := decide_eq_true (by omega)
              go_wp2_with fail
              go_loopw [63] (fun i wq => ∃ y : Nat, y ≤ M ∧ i = .int .i64 (y : Int) ∧ Grow w9 wq) (fun i _ => M - (intOf i).toNat)
              case atStart => exact ⟨0, by omega, rfl, Grow.refl _⟩
              case round =>
                obtain ⟨y, hyM, hi, hgq⟩ := hrel
                subst hi
                by_cases hy : y < M
                · obtain ⟨sq, _, e7, e9⟩ := hcells y hy
                  have hyl : y < ll.length := by omega
                  go_wp2_with fail
                  refine wp_region_flow 11 107 [] rfl rfl (by kernel_rfl) (by kernel_rfl) (by kernel_rfl) ?_ ?_
                  · intro x hx φ he
                    cases hx
                  intro ops' A' K' T hops hA' hK hT
                  refine fl_mv 66 (by rfl) (by decide) (wanted_none (by rfl)) (by rw [hK.out]; rfl) (by rfl) _ (Or.inl (by rfl)) (.slice (some ad7) M M) (by rfl) ?_
                  refine fl_mv 67 (by rfl) (by decide) (wanted_none (by rfl)) (by rw [hK.out]; rfl) (by rfl) _ (Or.inl (by rfl)) (.int .i64 (y : Int)) (by rfl) ?_
                  refine fl_op2 68 (by rfl) (by decide) (wanted_none (by rfl)) (by rw [hK.out]; rfl) (by rfl) (.tmp 66) (.tmp 67) (.slice (some ad7) M M) (.int .i64 (y : Int)) (by rfl) (by rfl) (.pointer (some (ad7.add (y * 2)))) (fun ρ h1 h2 kk w1 (hg : Grow _ w1) hb hf => by go_simp) ?_
                  refine fl_op1 69 (by rfl) (by decide) (wanted_none (by rfl)) (by rw [hK.out]; rfl) (by rfl) (.tmp 68) (.pointer (some (ad7.add (y * 2)))) (by rfl) (.pointer (some (ad7.add (y * 2)))) (fun ρ h1 kk w1 (hg : Grow _ w1) hb hf => by go_simp) ?_
                  refine fl_op1 70 (by rfl) (by decide) (wanted_none (by rfl)) (by rw [hK.out]; rfl) (by rfl) (.tmp 69) (.pointer (some (ad7.add (y * 2)))) (by rfl) (.int .i64 sq) (fun ρ h1 kk w1 (hg : Grow _ w1) hb hf => by have c := e7 _ (Just.of_grow ((hg9.trans hgq).trans hg)); go_simp) ?_
                  refine fl_mv 71 (by rfl) (by decide) (wanted_none (by rfl)) (by rw [hK.out]; rfl) (by rfl) _ (Or.inl (by rfl)) (.slice (some ad9) ll.length ll.length) (by rfl) ?_
                  refine fl_mv 72 (by rfl) (by decide) (wanted_none (by rfl)) (by rw [hK.out]; rfl) (by rfl) _ (Or.inl (by rfl)) (.int .i64 (y : Int)) (by rfl) ?_
                  refine fl_op2 73 (by rfl) (by decide) (wanted_none (by rfl)) (by rw [hK.out]; rfl) (by rfl) (.tmp 71) (.tmp 72) (.slice (some ad9) ll.length ll.length) (.int .i64 (y : Int)) (by rfl) (by rfl) (.pointer (some (ad9.add (y * 2)))) (fun ρ h1 h2 kk w1 (hg : Grow _ w1) hb hf => by go_simp) ?_
                  refine fl_op1 74 (by rfl) (by decide) (wanted_none (by rfl)) (by rw [hK.out]; rfl) (by rfl) (.tmp 73) (.pointer (some (ad9.add (y * 2)))) (by rfl) (.pointer (some (ad9.add (y * 2)))) (fun ρ h1 kk w1 (hg : Grow _ w1) hb hf => by go_simp) ?_
                  refine fl_op1 75 (by rfl) (by decide) (wanted_none (by rfl)) (by rw [hK.out]; rfl) (by rfl) (.tmp 74) (.pointer (some (ad9.add (y * 2)))) (by rfl) (.int .i64 sq) (fun ρ h1 kk w1 (hg : Grow _ w1) hb hf => by have c := e9 _ (hgq.trans hg); go_simp) ?_
                  refine fl_op2 76 (by rfl) (by decide) (wanted_none (by rfl)) (by rw [hK.out]; rfl) (by rfl) (.tmp 70) (.tmp 75) (.int .i64 sq) (.int .i64 sq) (by rfl) (by rfl) (.bool false) (fun ρ h1 h2 kk w1 (hg : Grow _ w1) hb hf => by go_simp) ?_
                  refine fl_end (fun _ _ w1 (hg : Grow _ w1) _ hfacts => hT _ _ ?_)
                  clear hops hA' hK hT
                  simp only [putsL, Act.put, List.setIfInBounds_toArray, List.set_cons_zero, List.set_cons_succ, List.drop_succ_cons, List.drop_zero]
                  go_wp2_with fail
                  go_roundw
                  case rel => exact ⟨y + 1, by omega, by go_num, hgq.trans hg⟩
                  case measure => simp [intOf]; omega
                · obtain rfl : y = M := by omega
                  obtain ⟨s, ⟨hjl, hsl⟩, e7, _⟩ := hcells jj hjj
                  have hsq := hs9.grow (QueueAt.framed _ _ _) hgq
                  obtain ⟨d1, d2, d3, d4, d5⟩ := done_mem hjl hnd
                  rw [← hsl] at d1 d2 d3 d4 d5
                  clear hsl hcells
                  have e70 := e7 _ (Just.of_grow (hg9.trans hgq))
                  have hbq := below_trans hb9 hgq hb9.size
                  have HDD := Lib.hid (And.intro d1 (And.intro d2 (And.intro d4 d5)))
                  clear d1 d2 d4 d5
                  go_wp2_with fail
                  refine (hsq.call (Done_at _ g _ _ s true _ ⟨HDD.out.1, rfl⟩)).mono ?_
                  rintro e wd ⟨rfl, hjd, hsd⟩
                  have e71 := e7 _ ((Just.of_grow (hg9.trans hgq)).trans hjd)
                  have hbd := hbq.trans (hjd.below (fun _ h => h.1) hbq.size)
                  go_wp2_with fail
                  go_at_call 10
                  refine (hsd.call (Done_at _ g _ _ s false _ ⟨HDD.out.2.2.1, HDD.out.2.2.2⟩)).mono ?_
                  rintro e we ⟨rfl, hje, hse⟩
                  have hbe := hbd.trans (hje.below (fun _ h => h.1) hbd.size)
                  go_wp2_with fail
                  go_roundw
                  case rel => exact ⟨j + 1, _, last, by omega, by go_num, by rw [HDD.out.2.1]; omega, d3, Solo.wide hse fun b hb => hb.1, hbe⟩
                  case measure => simp [intOf]; omega
          · by_cases hjn : j < n
            · skip
              have hmn : ¬ ((k : Int) - (j : Int)) ≤ 4 := by omega
              have hne : ((M : Int) != 4) = false := by rw [bne_eq_false_iff_eq]; omega
              obtain ⟨ad, u, hA, hadB, hu, hcc⟩ := hr.at_ hjn
              subst hA
              rw [List.getElem?_map] at hu
              obtain ⟨z1, hz1, hu⟩ := Option.map_eq_some_iff.1 hu
              subst hu
              have hz1 := hw z1 (List.mem_of_getElem? hz1)
              have hcc := (hb7.cell (p := ad.add j) (by rw [block_add]; exact hadB)).trans hcc
              go_wp2_with (go_at_call 14; refine (within_nat _ z1 0 _ hz1 (by omega) (by omega) (by omega)).mono ?_; rintro e w8 ⟨jj, hj0, hj1, rfl, rfl⟩)
              have hjj : jj < M := by omega
              clear hj0 hj1 hcc
              clear hmn hne
              go_at_call 15
              refine (solo_look hs7 fun V h => All_at _ g _ _ V h ll.length rfl).mono ?_
              rintro e w9 ⟨A9, q9, rfl, hq9, ha9, hg9⟩
              have hb9 := below_trans hb7 hg9 hb7.size
              have hs9 := hs7.grow (QueueAt.framed _ _ _) hg9
              have hql7 := hq7.len
              have hql9 := hq9.len
              have hsq : ∀ y : Nat, y < M → ∃ sq : Int, (∃ hy : y < ll.length, sq = ll[y].1) ∧ (∃ hy : y < q7.length, q7[y].seq = sq) ∧ (∃ hy : y < q9.length, q9[y].seq = sq) := fun y hy => by
                obtain ⟨h1, h2⟩ := seq_of ha7 (show y < q7.length by omega)
                obtain ⟨h3, h4⟩ := seq_of ha9 (show y < q9.length by omega)
                exact ⟨ll[y].1, ⟨h3, rfl⟩, ⟨by omega, by rw [h2, List.getElem_take]⟩, ⟨by omega, h4⟩⟩
              obtain ⟨ad7, hA7⟩ : ∃ a, A7 = some a := by obtain ⟨a, e, _⟩ := hq7.row.2 (by omega); exact ⟨a, e⟩
              obtain ⟨ad9, hA9⟩ : ∃ a, A9 = some a := by obtain ⟨a, e, _⟩ := hq9.row.2 (by omega); exact ⟨a, e⟩
              subst hA7 hA9
              have hcells : ∀ y : Nat, y < M → ∃ sq : Int, (∃ hy : y < ll.length, sq = ll[y].1) ∧ (∀ wq, Just (fun b => w.heap.size ≤ b ∧ ¬ New wr w7 b) w7 wq → wq.cell? (ad7.add (y * 2)) = some (.int .i64 sq)) ∧ (∀ wq, Grow w9 wq → wq.cell? (ad9.add (y * 2)) = some (.int .i64 sq)) := fun y hy => by
                obtain ⟨sq, h1, ⟨h2, h3⟩, ⟨h4, h5⟩⟩ := hsq y hy
                refine ⟨sq, h1, fun wq hgq => ?_, fun wq hgq => ?_⟩
                · obtain ⟨a1, k1, e1, _, _, c1, _⟩ := (hq7.row.just hgq (fun b hb h => h.2 hb)).rec_ (by omega) bat_len (k := y) (by omega)
                  injection e1 with e1
                  subst e1
                  rw [← h3]; exact c1 _ rfl
                · obtain ⟨a2, k2, e2, _, _, c2, _⟩ := (hq9.grow hgq).row.rec_ (by omega) bat_len (k := y) (by omega)
                  injection e2 with e2
                  subst e2
                  rw [← h5]; exact c2 _ rfl
              clear hsq hq9 hq7 ha7 ha9 hql7 hql9
              have hjk : decide ((j : Int) < (k : Int)) = true := decide_eq_true (by omega)
              go_wp2_with fail
              go_loopw [63] (fun i wq => ∃ y : Nat, y ≤ M ∧ i = .int .i64 (y : Int) ∧ Grow w9 wq) (fun i _ => M - (intOf i).toNat)
              case atStart => exact ⟨0, by omega, rfl, Grow.refl _⟩
              case round =>
                obtain ⟨y, hyM, hi, hgq⟩ := hrel
                subst hi
                by_cases hy : y < M
                · obtain ⟨sq, _, e7, e9⟩ := hcells y hy
                  have hyl : y < ll.length := by omega
                  go_wp2_with fail
                  refine wp_region_flow 11 107 [] rfl rfl (by kernel_rfl) (by kernel_rfl) (by kernel_rfl) ?_ ?_
                  · intro x hx φ he
                    cases hx
                  intro ops' A' K' T hops hA' hK hT
                  refine fl_mv 66 (by rfl) (by decide) (wanted_none (by rfl)) (by rw [hK.out]; rfl) (by rfl) _ (Or.inl (by rfl)) (.slice (some ad7) M M) (by rfl) ?_
                  refine fl_mv 67 (by rfl) (by decide) (wanted_none (by rfl)) (by rw [hK.out]; rfl) (by rfl) _ (Or.inl (by rfl)) (.int .i64 (y : Int)) (by rfl) ?_
                  refine fl_op2 68 (by rfl) (by decide) (wanted_none (by rfl)) (by rw [hK.out]; rfl) (by rfl) (.tmp 66) (.tmp 67) (.slice (some ad7) M M) (.int .i64 (y : Int)) (by rfl) (by rfl) (.pointer (some (ad7.add (y * 2)))) (fun ρ h1 h2 kk w1 (hg : Grow _ w1) hb hf => by go_simp) ?_
                  refine fl_op1 69 (by rfl) (by decide) (wanted_none (by rfl)) (by rw [hK.out]; rfl) (by rfl) (.tmp 68) (.pointer (some (ad7.add (y * 2)))) (by rfl) (.pointer (some (ad7.add (y * 2)))) (fun ρ h1 kk w1 (hg : Grow _ w1) hb hf => by go_simp) ?_
                  refine fl_op1 70 (by rfl) (by decide) (wanted_none (by rfl)) (by rw [hK.out]; rfl) (by rfl) (.tmp 69) (.pointer (some (ad7.add (y * 2)))) (by rfl) (.int .i64 sq) (fun ρ h1 kk w1 (hg : Grow _ w1) hb hf => by have c := e7 _ (Just.of_grow ((hg9.trans hgq).trans hg)); go_simp) ?_
                  refine fl_mv 71 (by rfl) (by decide) (wanted_none (by rfl)) (by rw [hK.out]; rfl) (by rfl) _ (Or.inl (by rfl)) (.slice (some ad9) ll.length ll.length) (by rfl) ?_
                  refine fl_mv 72 (by rfl) (by decide) (wanted_none (by rfl)) (by rw [hK.out]; rfl) (by rfl) _ (Or.inl (by rfl)) (.int .i64 (y : Int)) (by rfl) ?_
                  refine fl_op2 73 (by rfl) (by decide) (wanted_none (by rfl)) (by rw [hK.out]; rfl) (by rfl) (.tmp 71) (.tmp 72) (.slice (some ad9) ll.length ll.length) (.int .i64 (y : Int)) (by rfl) (by rfl) (.pointer (some (ad9.add (y * 2)))) (fun ρ h1 h2 kk w1 (hg : Grow _ w1) hb hf => by go_simp) ?_
                  refine fl_op1 74 (by rfl) (by decide) (wanted_none (by rfl)) (by rw [hK.out]; rfl) (by rfl) (.tmp 73) (.pointer (some (ad9.add (y * 2)))) (by rfl) (.pointer (some (ad9.add (y * 2)))) (fun ρ h1 kk w1 (hg : Grow _ w1) hb hf => by go_simp) ?_
                  refine fl_op1 75 (by rfl) (by decide) (wanted_none (by rfl)) (by rw [hK.out]; rfl) (by rfl) (.tmp 74) (.pointer (some (ad9.add (y * 2)))) (by rfl) (.int .i64 sq) (fun ρ h1 kk w1 (hg : Grow _ w1) hb hf => by have c := e9 _ (hgq.trans hg); go_simp) ?_
                  refine fl_op2 76 (by rfl) (by decide) (wanted_none (by rfl)) (by rw [hK.out]; rfl) (by rfl) (.tmp 70) (.tmp 75) (.int .i64 sq) (.int .i64 sq) (by rfl) (by rfl) (.bool false) (fun ρ h1 h2 kk w1 (hg : Grow _ w1) hb hf => by go_simp) ?_
                  refine fl_end (fun _ _ w1 (hg : Grow _ w1) _ hfacts => hT _ _ ?_)
                  clear hops hA' hK hT
                  simp only [putsL, Act.put, List.setIfInBounds_toArray, List.set_cons_zero, List.set_cons_succ, List.drop_succ_cons, List.drop_zero]
                  go_wp2_with fail
                  go_roundw
                  case rel => exact ⟨y + 1, by omega, by go_num, hgq.trans hg⟩
                  case measure => simp [intOf]; omega
                · obtain rfl : y = M := by omega
                  obtain ⟨s, ⟨hjl, hsl⟩, e7, _⟩ := hcells jj hjj
                  have hsq := hs9.grow (QueueAt.framed _ _ _) hgq
                  obtain ⟨d1, d2, d3, d4, d5⟩ := done_mem hjl hnd
                  rw [← hsl] at d1 d2 d3 d4 d5
                  clear hsl hcells
                  have e70 := e7 _ (Just.of_grow (hg9.trans hgq))
                  have hbq := below_trans hb9 hgq hb9.size
                  have HDD := Lib.hid (And.intro d1 (And.intro d2 (And.intro d4 d5)))
                  clear d1 d2 d4 d5
                  go_wp2_with fail
                  refine (hsq.call (Done_at _ g _ _ s true _ ⟨HDD.out.1, rfl⟩)).mono ?_
                  rintro e wd ⟨rfl, hjd, hsd⟩
                  have e71 := e7 _ ((Just.of_grow (hg9.trans hgq)).trans hjd)
                  have hbd := hbq.trans (hjd.below (fun _ h => h.1) hbq.size)
                  go_wp2_with fail
                  go_at_call 10
                  refine (hsd.call (Done_at _ g _ _ s false _ ⟨HDD.out.2.2.1, HDD.out.2.2.2⟩)).mono ?_
                  rintro e we ⟨rfl, hje, hse⟩
                  have hbe := hbd.trans (hje.below (fun _ h => h.1) hbd.size)
                  go_wp2_with fail
                  go_roundw
                  case rel => exact ⟨j + 1, _, last, by omega, by go_num, by rw [HDD.out.2.1]; omega, d3, Solo.wide hse fun b hb => hb.1, hbe⟩
                  case measure => simp [intOf]; omega
            · skip
              have hmn : ¬ ((k : Int) - (j : Int)) ≤ 4 := by omega
              have hne : ((M : Int) != 4) = false := by rw [bne_eq_false_iff_eq]; omega
              obtain ⟨jj, hjz, hjj⟩ : ∃ jj : Nat, Hid ((jj : Int) = 0) ∧ jj < M := ⟨0, rfl, by omega⟩
              go_wp2_with fail
              clear hmn hne
              go_at_call 15
              refine (solo_look hs7 fun V h => All_at _ g _ _ V h ll.length rfl).mono ?_
              rintro e w9 ⟨A9, q9, rfl, hq9, ha9, hg9⟩
              have hb9 := below_trans hb7 hg9 hb7.size
              have hs9 := hs7.grow (QueueAt.framed _ _ _) hg9
              have hql7 := hq7.len
              have hql9 := hq9.len
              have hsq : ∀ y : Nat, y < M → ∃ sq : Int, (∃ hy : y < ll.length, sq = ll[y].1) ∧ (∃ hy : y < q7.length, q7[y].seq = sq) ∧ (∃ hy : y < q9.length, q9[y].seq = sq) := fun y hy => by
                obtain ⟨h1, h2⟩ := seq_of ha7 (show y < q7.length by omega)
                obtain ⟨h3, h4⟩ := seq_of ha9 (show y < q9.length by omega)
                exact ⟨ll[y].1, ⟨h3, rfl⟩, ⟨by omega, by rw [h2, List.getElem_take]⟩, ⟨by omega, h4⟩⟩
              obtain ⟨ad7, hA7⟩ : ∃ a, A7 = some a := by obtain ⟨a, e, _⟩ := hq7.row.2 (by omega); exact ⟨a, e⟩
              obtain ⟨ad9, hA9⟩ : ∃ a, A9 = some a := by obtain ⟨a, e, _⟩ := hq9.row.2 (by omega); exact ⟨a, e⟩
              subst hA7 hA9
              have hcells : ∀ y : Nat, y < M → ∃ sq : Int, (∃ hy : y < ll.length, sq = ll[y].1) ∧ (∀ wq, Just (fun b => w.heap.size ≤ b ∧ ¬ New wr w7 b) w7 wq → wq.cell? (ad7.add (y * 2)) = some (.int .i64 sq)) ∧ (∀ wq, Grow w9 wq → wq.cell? (ad9.add (y * 2)) = some (.int .i64 sq)) := fun y hy => by
                obtain ⟨sq, h1, ⟨h2, h3⟩, ⟨h4, h5⟩⟩ := hsq y hy
                refine ⟨sq, h1, fun wq hgq => ?_, fun wq hgq => ?_⟩
                · obtain ⟨a1, k1, e1, _, _, c1, _⟩ := (hq7.row.just hgq (fun b hb h => h.2 hb)).rec_ (by omega) bat_len (k := y) (by omega)
                  injection e1 with e1
                  subst e1
                  rw [← h3]; exact c1 _ rfl
                · obtain ⟨a2, k2, e2, _, _, c2, _⟩ := (hq9.grow hgq).row.rec_ (by omega) bat_len (k := y) (by omega)
                  injection e2 with e2
                  subst e2
                  rw [← h5]; exact c2 _ rfl
              clear hsq hq9 hq7 ha7 ha9 hql7 hql9
              rw [← show ((jj : Int)) = 0 from hjz.out]
              have hjk : decide ((j : Int) < (k : Int)) = true := decide_eq_true (by omega)
              go_wp2_with fail
              go_loopw [63] (fun i wq => ∃ y : Nat, y ≤ M ∧ i = .int .i64 (y : Int) ∧ Grow w9 wq) (fun i _ => M - (intOf i).toNat)
              case atStart => exact ⟨0, by omega, rfl, Grow.refl _⟩
              case round =>
                obtain ⟨y, hyM, hi, hgq⟩ := hrel
                subst hi
                by_cases hy : y < M
                · obtain ⟨sq, _, e7, e9⟩ := hcells y hy
                  have hyl : y < ll.length := by omega
                  go_wp2_with fail
                  refine wp_region_flow 11 107 [] rfl rfl (by kernel_rfl) (by kernel_rfl) (by kernel_rfl) ?_ ?_
                  · intro x hx φ he
                    cases hx
                  intro ops' A' K' T hops hA' hK hT
                  refine fl_mv 66 (by rfl) (by decide) (wanted_none (by rfl)) (by rw [hK.out]; rfl) (by rfl) _ (Or.inl (by rfl)) (.slice (some ad7) M M) (by rfl) ?_
                  refine fl_mv 67 (by rfl) (by decide) (wanted_none (by rfl)) (by rw [hK.out]; rfl) (by rfl) _ (Or.inl (by rfl)) (.int .i64 (y : Int)) (by rfl) ?_
                  refine fl_op2 68 (by rfl) (by decide) (wanted_none (by rfl)) (by rw [hK.out]; rfl) (by rfl) (.tmp 66) (.tmp 67) (.slice (some ad7) M M) (.int .i64 (y : Int)) (by rfl) (by rfl) (.pointer (some (ad7.add (y * 2)))) (fun ρ h1 h2 kk w1 (hg : Grow _ w1) hb hf => by go_simp) ?_
                  refine fl_op1 69 (by rfl) (by decide) (wanted_none (by rfl)) (by rw [hK.out]; rfl) (by rfl) (.tmp 68) (.pointer (some (ad7.add (y * 2)))) (by rfl) (.pointer (some (ad7.add (y * 2)))) (fun ρ h1 kk w1 (hg : Grow _ w1) hb hf => by go_simp) ?_
                  refine fl_op1 70 (by rfl) (by decide) (wanted_none (by rfl)) (by rw [hK.out]; rfl) (by rfl) (.tmp 69) (.pointer (some (ad7.add (y * 2)))) (by rfl) (.int .i64 sq) (fun ρ h1 kk w1 (hg : Grow _ w1) hb hf => by have c := e7 _ (Just.of_grow ((hg9.trans hgq).trans hg)); go_simp) ?_
                  refine fl_mv 71 (by rfl) (by decide) (wanted_none (by rfl)) (by rw [hK.out]; rfl) (by rfl) _ (Or.inl (by rfl)) (.slice (some ad9) ll.length ll.length) (by rfl) ?_
                  refine fl_mv 72 (by rfl) (by decide) (wanted_none (by rfl)) (by rw [hK.out]; rfl) (by rfl) _ (Or.inl (by rfl)) (.int .i64 (y : Int)) (by rfl) ?_
                  refine fl_op2 73 (by rfl) (by decide) (wanted_none (by rfl)) (by rw [hK.out]; rfl) (by rfl) (.tmp 71) (.tmp 72) (.slice (some ad9) ll.length ll.length) (.int .i64 (y : Int)) (by rfl) (by rfl) (.pointer (some (ad9.add (y * 2)))) (fun ρ h1 h2 kk w1 (hg : Grow _ w1) hb hf => by go_simp) ?_
                  refine fl_op1 74 (by rfl) (by decide) (wanted_none (by rfl)) (by rw [hK.out]; rfl) (by rfl) (.tmp 73) (.pointer (some (ad9.add (y * 2)))) (by rfl) (.pointer (some (ad9.add (y * 2)))) (fun ρ h1 kk w1 (hg : Grow _ w1) hb hf => by go_simp) ?_
                  refine fl_op1 75 (by rfl) (by decide) (wanted_none (by rfl)) (by rw [hK.out]; rfl) (by rfl) (.tmp 74) (.pointer (some (ad9.add (y * 2)))) (by rfl) (.int .i64 sq) (fun ρ h1 kk w1 (hg : Grow _ w1) hb hf => by have c := e9 _ (hgq.trans hg); go_simp) ?_
                  refine fl_op2 76 (by rfl) (by decide) (wanted_none (by rfl)) (by rw [hK.out]; rfl) (by rfl) (.tmp 70) (.tmp 75) (.int .i64 sq) (.int .i64 sq) (by rfl) (by rfl) (.bool false) (fun ρ h1 h2 kk w1 (hg : Grow _ w1) hb hf => by go_simp) ?_
                  refine fl_end (fun _ _ w1 (hg : Grow _ w1) _ hfacts => hT _ _ ?_)
                  clear hops hA' hK hT
                  simp only [putsL, Act.put, List.setIfInBounds_toArray, List.set_cons_zero, List.set_cons_succ, List.drop_succ_cons, List.drop_zero]
                  go_wp2_with fail
                  go_roundw
                  case rel => exact ⟨y + 1, by omega, by go_num, hgq.trans hg⟩
                  case measure => simp [intOf]; omega
                · obtain rfl : y = M := by omega
                  obtain ⟨s, ⟨hjl, hsl⟩, e7, _⟩ := hcells jj hjj
                  have hsq := hs9.grow (QueueAt.framed _ _ _) hgq
                  obtain ⟨d1, d2, d3, d4, d5⟩ := done_mem hjl hnd
                  rw [← hsl] at d1 d2 d3 d4 d5
                  clear hsl hcells
                  have e70 := e7 _ (Just.of_grow (hg9.trans hgq))
                  have hbq := below_trans hb9 hgq hb9.size
                  have HDD := Lib.hid (And.intro d1 (And.intro d2 (And.intro d4 d5)))
                  clear d1 d2 d4 d5
                  go_wp2_with fail
                  refine (hsq.call (Done_at _ g _ _ s true _ ⟨HDD.out.1, rfl⟩)).mono ?_
                  rintro e wd ⟨rfl, hjd, hsd⟩
                  have e71 := e7 _ ((Just.of_grow (hg9.trans hgq)).trans hjd)
                  have hbd := hbq.trans (hjd.below (fun _ h => h.1) hbq.size)
                  go_wp2_with fail
                  go_at_call 10
                  refine (hsd.call (Done_at _ g _ _ s false _ ⟨HDD.out.2.2.1, HDD.out.2.2.2⟩)).mono ?_
                  rintro e we ⟨rfl, hje, hse⟩
                  have hbe := hbd.trans (hje.below (fun _ h => h.1) hbd.size)
                  go_wp2_with fail
                  go_roundw
                  case rel => exact ⟨j + 1, _, last, by omega, by go_num, by rw [HDD.out.2.1]; omega, d3, Solo.wide hse fun b hb => hb.1, hbe⟩
                  case measure => simp [intOf]; omega
        · obtain rfl : j = k := by omega
          have hz0 : ll = [] := List.eq_nil_of_length_eq_zero (by omega)
          subst hz0
          go_wp2_with (first
            | (go_at_call 11; refine (solo_look hs fun V h => Len_at wr g _ _ V h 0 rfl).mono ?_; rintro e w6 ⟨rfl, rfl⟩)
            | (go_at_call 16; refine (solo_look hs fun V h => Flight_at wr g _ _ V h 0 rfl).mono ?_; rintro e w7 ⟨A7, q7, rfl, hq7, ha7, hg7⟩)
            | (go_at_call 12; refine (known_any _).mono ?_; rintro e w8 ⟨rfl, hg8⟩))
          go_ret
          exact ⟨rfl, below_trans hb (hg7.trans hg8) hb.size⟩
end Go.Proofs.Ytnlfkeajolfboaa
