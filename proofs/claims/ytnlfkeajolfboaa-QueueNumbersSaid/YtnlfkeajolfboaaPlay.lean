/- The same asks, of both: its walk. -/
import Derived.Test.YtnlfkeajolfboaaAsks
import Derived.Test.YtnlfkeajolfboaaKnown
namespace Go.Proofs.Ytnlfkeajolfboaa
open Go.RowKit Go.Hop
set_option maxRecDepth 100000 in
set_option maxHeartbeats 4000000 in
theorem play_any (w : World) (V D : Nat → Prop) (A : Option Addr) (n c : Nat) (q : List Ask) (hq : Asks w V D A n q) (hV : ∀ b, V b → b < w.heap.size) (hD : ∀ b, D b → b < w.heap.size) :
    Calls Try.prog 13 #[.slice A n c] w fun e w' => e = .returned (.bool true) ∧ Grow w w' := by
  have k10 : ∀ (vs : Array Value) (w : World), (callFunc 10 vs).run Try.prog w = .ok (.enter 10 vs) w := fun vs w => by go_simp
  have k21 : ∀ (vs : Array Value) (w : World), (callFunc 21 vs).run Try.prog w = .ok (.enter 21 vs) w := fun vs w => by go_simp
  have k9 : ∀ (vs : Array Value) (w : World), (callFunc 9 vs).run Try.prog w = .ok (.enter 9 vs) w := fun vs w => by go_simp
  have k22 : ∀ (vs : Array Value) (w : World), (callFunc 22 vs).run Try.prog w = .ok (.enter 22 vs) w := fun vs w => by go_simp
  have k11 : ∀ (vs : Array Value) (w : World), (callFunc 11 vs).run Try.prog w = .ok (.enter 11 vs) w := fun vs w => by go_simp
  have k15 : ∀ (vs : Array Value) (w : World), (callFunc 15 vs).run Try.prog w = .ok (.enter 15 vs) w := fun vs w => by go_simp
  have k16 : ∀ (vs : Array Value) (w : World), (callFunc 16 vs).run Try.prog w = .ok (.enter 16 vs) w := fun vs w => by go_simp
  have k24 : ∀ (vs : Array Value) (w : World), (callFunc 24 vs).run Try.prog w = .ok (.enter 24 vs) w := fun vs w => by go_simp
  have k23 : ∀ (vs : Array Value) (w : World), (callFunc 23 vs).run Try.prog w = .ok (.enter 23 vs) w := fun vs w => by go_simp
  go_enter Try.func13, Try.ntmps13
  go_wp2_with (first
    | (go_at_call 8; refine (New_any _).mono ?_; rintro e w1 ⟨rfl, hD1, hg1⟩))
  obtain ⟨d, HD⟩ : ∃ d : Nat, Hid (d = w.heap.size) := ⟨_, rfl⟩
  rw [← HD.out] at hD1 ⊢
  have hs1 := hg1.size
  have hg2 : Grow w1 (w1.alloc (.cells #[.slice none 0 0, .int .i64 0] 57)) := (Below.refl _ _).alloc (Nat.le_refl _) _
  have hduo : Duo (fun b => w.heap.size ≤ b) (QueueAt d [] 0) (RQAt w1.heap.size [] 0) (w1.alloc (.cells #[.slice none 0 0, .int .i64 0] 57)) := by
    refine Solo.with_ (w := w1) (U := New w1 (w1.alloc (.cells #[.slice none 0 0, .int .i64 0] 57))) (Solo.make (V := New w w1) hD1 (fun b hb => by omega) (fun b hb => hb)) (QueueAt.framed _ _ _) hg2 ⟨⟨Nat.le_refl _, by simp⟩, none, 0, [], fun _ => False, rfl, by simp, Blk.made w1 _ _, In.nil, Nat.le_refl _, Nat.zero_le _, by simp, fun _ h => h.elim⟩ (fun b hb => hb)
  have hbelow := below_trans hg1 hg2 hg1.size
  obtain ⟨r, HR⟩ : ∃ r : Nat, Hid (r = w1.heap.size) := ⟨_, rfl⟩
  have hrw : w.heap.size ≤ r := by rw [HR.out]; exact hs1
  go_wp2_with fail
  rw [← HR.out] at hduo ⊢
  clear hD1
  go_loopw [5] (fun i wr => ∃ (k : Nat) (lb : List Ab) (kk : Int), k ≤ n ∧ k ≤ 80 ∧ i = .int .i64 k ∧ Duo (fun b => w.heap.size ≤ b) (QueueAt d lb kk) (RQAt r lb kk) wr ∧ Below w.heap.size w wr) (fun i _ => 80 - (intOf i).toNat)
  case atStart => exact ⟨0, [], 0, by omega, by omega, rfl, hduo, hbelow⟩
  case round =>
    obtain ⟨k, lb, kk, hkn, hk80, rfl, hd, hbl⟩ := hrel
    by_cases hk : k < n
    · by_cases hk8 : k < 80
      · obtain ⟨ad, hqk, rfl, hVa, hba, e0, e12⟩ := hq.row.rec_ (by omega) ask_len hk
        have hin := hq.all _ (List.getElem_mem hqk)
        have e0 := e0 _ rfl
        have e1 := e12 0 _ rfl
        have e2 := e12 1 _ rfl
        have hkeep : ∀ p : Addr, p.block < w.heap.size → wr.cell? p = w.cell? p := fun p hp => hbl.cell hp
        have f0 := (hkeep (ad.add (k * 3)) (by rw [block_add]; exact hba)).trans e0
        have f1 := (hkeep ⟨(ad.add (k * 3)).block, (ad.add (k * 3)).off + 1, none⟩ (show (ad.add (k * 3)).block < _ by rw [block_add]; exact hba)).trans e1
        have f2 := (hkeep ⟨(ad.add (k * 3)).block, (ad.add (k * 3)).off + 2, none⟩ (show (ad.add (k * 3)).block < _ by rw [block_add]; exact hba)).trans e2
        clear e0 e1 e2 e12
        generalize q[k] = a at hin f0 f1 f2
        obtain ⟨kd, sq, Ab, mb, cb, ds⟩ := a
        obtain ⟨hds, hle, hmx, hkd, hsq⟩ := hin
        dsimp only at hds hle hmx hkd hsq f0 f1 f2
        unfold I64 at hkd hsq
        have hga : Grow wr (wr.alloc (.cells #[.int .i64 kd, .int .i64 sq, .slice Ab mb cb] 39)) := (Below.refl wr.heap.size wr).alloc (Nat.le_refl _) _
        have hBx0 := Blk.made wr 39 #[.int .i64 kd, .int .i64 sq, .slice Ab mb cb]
        obtain ⟨x, HX⟩ : ∃ x : Nat, Hid (x = wr.heap.size) := ⟨_, rfl⟩
        obtain ⟨wa, HA⟩ : ∃ wa : World, Hid (wa = wr.alloc (.cells #[.int .i64 kd, .int .i64 sq, .slice Ab mb cb] 39)) := ⟨_, rfl⟩
        have hda : Duo (Off w.heap.size x) (QueueAt d lb kk) (RQAt r lb kk) wa := HA.out ▸ hd.beside (QueueAt.framed _ _ _) (RQAt.framed _ _ _) hga fun b hb hs => ⟨hb, by have := HX.out; simp at hs; omega⟩
        have hBx : Blk wa x 39 #[.int .i64 kd, .int .i64 sq, .slice Ab mb cb] := by rw [HA.out, HX.out]; exact hBx0
        have hbla : Below w.heap.size w wa := HA.out ▸ below_trans hbl hga hbl.size
        have hDr : ∀ b, D b → b ≠ r := fun b hb => by have := hD b hb; omega
        have hdsa : ∀ w1, Just (Off w.heap.size x) wa w1 → DIn w1 D Ab mb ds := fun w1 hj => In.keep hds fun b hb hlt => (hj.block b (Nat.lt_of_lt_of_le (hD b hb) hbla.size) (fun h => by have := h.1; have := hD b hb; omega)).trans (hbla.block b (hD b hb))
        clear hBx0 hd hds hga hbl
        by_cases h3 : kd = 3
        · subst h3
          go_wp2_with fail
          rw [← HA.out, ← HX.out]
          refine wp_region_reg rfl ?_
          refine reg_flow (DuoSt (Off w.heap.size x) (QueueAt d lb kk) (QueueAt d (doneL lb sq) kk) (RQAt r lb kk) (RQAt r (doneL lb sq) kk) 3 7) (duoSt_ok (QueueAt.framed _ _ _) (QueueAt.framed _ _ _) (RQAt.framed _ _ _) (RQAt.framed _ _ _)) 0 9 80 [(3, .inl (.bool (doneB lb sq))), (7, .inl (.bool (doneB lb sq)))] rfl (by kernel_rfl) (by kernel_rfl) (by kernel_rfl) ?_ (Just.of_grow (Grow.refl _).drew) (hda.grow (QueueAt.framed _ _ _) (RQAt.framed _ _ _) (Grow.refl _).drew) ?_
          · intro x hx φ he
            simp only [List.mem_cons, List.not_mem_nil, or_false] at hx
            rcases hx with rfl | rfl <;> cases he
          intro ops' A' K' T hops hA' hK hT
          refine fl_mv 29 (by rfl) (by decide) (wanted_none (by rfl)) (by rw [hK.out]; rfl) (by rfl) _ (Or.inl (by rfl)) (.pointer (some ⟨d, 0, none⟩)) (by rfl) ?_
          refine fl_op1 30 (by rfl) (by decide) (wanted_none (by rfl)) (by rw [hK.out]; rfl) (by rfl) (.tmp 6) (.pointer (some ⟨x, 0, none⟩)) (by rfl) (.pointer (some ⟨x, 1, none⟩)) (fun ρ h1 kk w1 (hg : Just (Off w.heap.size x) _ w1) hb hf => by go_simp) ?_
          refine fl_op1 31 (by rfl) (by decide) (wanted_none (by rfl)) (by rw [hK.out]; rfl) (by rfl) (.tmp 30) (.pointer (some ⟨x, 1, none⟩)) (by rfl) (.int .i64 sq) (fun ρ h1 kk w1 (hg : Just (Off w.heap.size x) _ w1) hb hf => by have c := (hg.blk hBx (fun h => h.2 rfl)).cell 1; go_simp) ?_
          refine fl_call 32 (by rfl) (by decide) (wanted_none (by rfl)) (.bool (doneB lb sq)) (by rw [hK.out]; rfl) 10 _ _ (by rfl) [.pointer (some ⟨d, 0, none⟩), .int .i64 sq] (by rfl) k10 (fun kk w1 (hg : Just (Off w.heap.size x) _ w1) hb hf => calls_turn 0 (by rfl) (by obtain rfl := before_some 0 (by rfl) hb; have hI := hb.1; exact hI.left (RQAt.framed _ _ _) (Done_any w1 d lb kk sq))) ?_
          refine fl_mv 33 (by rfl) (by decide) (wanted_none (by rfl)) (by rw [hK.out]; rfl) (by rfl) _ (Or.inl (by rfl)) (.pointer (some ⟨r, 0, none⟩)) (by rfl) ?_
          refine fl_op1 34 (by rfl) (by decide) (wanted_none (by rfl)) (by rw [hK.out]; rfl) (by rfl) (.tmp 6) (.pointer (some ⟨x, 0, none⟩)) (by rfl) (.pointer (some ⟨x, 1, none⟩)) (fun ρ h1 kk w1 (hg : Just (Off w.heap.size x) _ w1) hb hf => by go_simp) ?_
          refine fl_op1 35 (by rfl) (by decide) (wanted_none (by rfl)) (by rw [hK.out]; rfl) (by rfl) (.tmp 34) (.pointer (some ⟨x, 1, none⟩)) (by rfl) (.int .i64 sq) (fun ρ h1 kk w1 (hg : Just (Off w.heap.size x) _ w1) hb hf => by have c := (hg.blk hBx (fun h => h.2 rfl)).cell 1; go_simp) ?_
          refine fl_call 36 (by rfl) (by decide) (wanted_none (by rfl)) (.bool (doneB lb sq)) (by rw [hK.out]; rfl) 21 _ _ (by rfl) [.pointer (some ⟨r, 0, none⟩), .int .i64 sq] (by rfl) k21 (fun kk w1 (hg : Just (Off w.heap.size x) _ w1) hb hf => calls_turn 1 (by rfl) (by obtain rfl := before_some 1 (by rfl) hb; have hI := hb.1; exact hI.right (QueueAt.framed _ _ _) (rDone_any w1 r lb kk sq))) ?_
          refine fl_op2 37 (by rfl) (by decide) (wanted_none (by rfl)) (by rw [hK.out]; rfl) (by rfl) (.tmp 32) (.tmp 36) (.bool (doneB lb sq)) (.bool (doneB lb sq)) (by rfl) (by rfl) (.bool false) (fun ρ h1 h2 kk w1 (hg : Just (Off w.heap.size x) _ w1) hb hf => by go_simp) ?_
          refine fl_end (fun _ _ w1 (hg : Just (Off w.heap.size x) _ w1) hend hfacts => hT _ _ ?_)
          clear hops hA' hK hT
          simp only [putsL, Act.put, List.setIfInBounds_toArray, List.set_cons_zero, List.set_cons_succ]
          refine reg_end ?_
          have hd6 : Duo (Off w.heap.size x) (QueueAt d (doneL lb sq) kk) (RQAt r (doneL lb sq) kk) w1 := hend
          have hb6 := hbla.trans (hg.below (B := w.heap.size) (fun b hb => hb.1) hbla.size)
          clear hend hfacts hda hbla hg HA
          generalize hl2 : (doneL lb sq) = l2 at hd6
          generalize kk = k2 at hd6
          clear hl2
          obtain ⟨_, V, U, hq6, hr6, _, hV6, hU6⟩ := id hd6
          obtain ⟨A2, c2, ps, HQ, HL, h3, hBr, hP, hnc, hcm2⟩ := hr6.bats
          have hl16 : l2.length ≤ 16 := hq6.le
          have hQ1 : ∀ w2, Grow w1 w2 → QueueAt d l2 k2 w2 V := fun w2 hg => QueueAt.framed _ _ _ w1 w2 V hq6 fun b hb => hg.block b (hV6 b hb).2
          have hR1 : ∀ w2, Grow w1 w2 → RQAt r l2 k2 w2 U := fun w2 hg => RQAt.framed _ _ _ w1 w2 U hr6 fun b hb => hg.block b (hU6 b hb).2
          have hP1 : ∀ w2, Grow w1 w2 → IsPBats l2 (.slice A2 ps.length c2) w2 := fun w2 hg => ⟨A2, ps.length, c2, ps, rfl, ⟨(hP.grow hg).row.mono fun _ _ => trivial, fun x hx => ((hP.grow hg).all x hx).mono fun _ _ => trivial⟩, HQ.out⟩
          clear hq6 hr6 hV6 hU6
          go_wp2_with fail
          refine wp_region_flow 26 80 [(1, .inl (.int .i64 (ps.length : Int))), (10, .inr (fun _ => IsBats l2)), (15, .inl (.bool true)), (20, .inr (fun _ => IsBats (l2.take 4))), (22, .inr (fun _ => IsPBats (l2.take 4))), (23, .inl (.bool true))] rfl rfl (by kernel_rfl) (by kernel_rfl) (by kernel_rfl) ?_ ?_
          · intro x hx φ he
            simp only [List.mem_cons, List.not_mem_nil, or_false] at hx
            rcases hx with rfl | rfl | rfl | rfl | rfl | rfl <;> cases he
            all_goals first | exact lasts_quiet (lasting_bytes _) | exact lasts_quiet (isBats_lasting _) | exact lasts_quiet (isPBats_lasting _)
          intro ops' A' K' T hops hA' hK hT
          refine fl_mv 52 (by rfl) (by decide) (wanted_none (by rfl)) (by rw [hK.out]; rfl) (by rfl) _ (Or.inl (by rfl)) (.pointer (some ⟨d, 0, none⟩)) (by rfl) ?_
          refine fl_call 53 (by rfl) (by decide) (wanted_none (by rfl)) (.int .i64 (ps.length : Int)) (by rw [hK.out]; rfl) 11 _ _ (by rfl) [.pointer (some ⟨d, 0, none⟩)] (by rfl) k11 (fun kk w1 (hg : Grow _ w1) hb hf => calls_behind (by rfl) (by exact grew_same (Len_at w1 d _ _ V (hQ1 w1 hg) ps.length HL.out))) ?_
          refine fl_mv 54 (by rfl) (by decide) (wanted_none (by rfl)) (by rw [hK.out]; rfl) (by rfl) _ (Or.inl (by rfl)) (.pointer (some ⟨r, 0, none⟩)) (by rfl) ?_
          refine fl_op1 55 (by rfl) (by decide) (wanted_none (by rfl)) (by rw [hK.out]; rfl) (by rfl) (.tmp 54) (.pointer (some ⟨r, 0, none⟩)) (by rfl) (.pointer (some ⟨r, 0, none⟩)) (fun ρ h1 kk w1 (hg : Grow _ w1) hb hf => by go_simp) ?_
          refine fl_op1 56 (by rfl) (by decide) (wanted_none (by rfl)) (by rw [hK.out]; rfl) (by rfl) (.tmp 55) (.pointer (some ⟨r, 0, none⟩)) (by rfl) (.pointer (some ⟨r, 0, none⟩)) (fun ρ h1 kk w1 (hg : Grow _ w1) hb hf => by go_simp) ?_
          refine fl_op1 57 (by rfl) (by decide) (wanted_none (by rfl)) (by rw [hK.out]; rfl) (by rfl) (.tmp 56) (.pointer (some ⟨r, 0, none⟩)) (by rfl) (.slice A2 ps.length c2) (fun ρ h1 kk w1 (hg : Grow _ w1) hb hf => by have c := (hBr.grow hg).cell 0; go_simp) ?_
          refine fl_op1 58 (by rfl) (by decide) (wanted_none (by rfl)) (by rw [hK.out]; rfl) (by rfl) (.tmp 57) (.slice A2 ps.length c2) (by rfl) (.int .i64 (ps.length : Int)) (fun ρ h1 kk w1 (hg : Grow _ w1) hb hf => by go_simp) ?_
          refine fl_op2 59 (by rfl) (by decide) (wanted_none (by rfl)) (by rw [hK.out]; rfl) (by rfl) (.tmp 53) (.tmp 58) (.int .i64 (ps.length : Int)) (.int .i64 (ps.length : Int)) (by rfl) (by rfl) (.bool false) (fun ρ h1 h2 kk w1 (hg : Grow _ w1) hb hf => by go_simp) ?_
          refine fl_mv 60 (by rfl) (by decide) (wanted_none (by rfl)) (by rw [hK.out]; rfl) (by rfl) _ (Or.inl (by rfl)) (.bool false) (by rfl) ?_
          refine fl_mv 61 (by rfl) (by decide) (wanted_if hops 8 false (by rfl) 60 (by rfl) false (by rfl)) (by rw [hK.out]; rfl) (by rfl) _ (Or.inl (by rfl)) (.pointer (some ⟨d, 0, none⟩)) (by rfl) ?_
          refine fl_callAny 62 (by rfl) (by decide) (wanted_if hops 8 false (by rfl) 60 (by rfl) false (by rfl)) (fun _ => IsBats l2) (by rw [hK.out]; rfl) 15 _ _ (by rfl) [.pointer (some ⟨d, 0, none⟩)] (by rfl) k15 (fun kk w1 (hg : Grow _ w1) hb hf => calls_behindAny (φ := fun _ => IsBats l2) (by rfl) (by exact All_is w1 d _ _ V (hQ1 w1 hg))) (fun v62 => ?_)
          refine fl_mv 63 (by rfl) (by decide) (wanted_if hops 8 false (by rfl) 60 (by rfl) false (by rfl)) (by rw [hK.out]; rfl) (by rfl) _ (Or.inl (by rfl)) (.pointer (some ⟨r, 0, none⟩)) (by rfl) ?_
          refine fl_op1 64 (by rfl) (by decide) (wanted_if hops 8 false (by rfl) 60 (by rfl) false (by rfl)) (by rw [hK.out]; rfl) (by rfl) (.tmp 63) (.pointer (some ⟨r, 0, none⟩)) (by rfl) (.pointer (some ⟨r, 0, none⟩)) (fun ρ h1 kk w1 (hg : Grow _ w1) hb hf => by go_simp) ?_
          refine fl_op1 65 (by rfl) (by decide) (wanted_if hops 8 false (by rfl) 60 (by rfl) false (by rfl)) (by rw [hK.out]; rfl) (by rfl) (.tmp 64) (.pointer (some ⟨r, 0, none⟩)) (by rfl) (.pointer (some ⟨r, 0, none⟩)) (fun ρ h1 kk w1 (hg : Grow _ w1) hb hf => by go_simp) ?_
          refine fl_op1 66 (by rfl) (by decide) (wanted_if hops 8 false (by rfl) 60 (by rfl) false (by rfl)) (by rw [hK.out]; rfl) (by rfl) (.tmp 65) (.pointer (some ⟨r, 0, none⟩)) (by rfl) (.slice A2 ps.length c2) (fun ρ h1 kk w1 (hg : Grow _ w1) hb hf => by have c := (hBr.grow hg).cell 0; go_simp) ?_
          refine fl_call 67 (by rfl) (by decide) (wanted_if hops 8 false (by rfl) 60 (by rfl) false (by rfl)) (.bool true) (by rw [hK.out]; rfl) 23 _ _ (by rfl) [v62, .slice A2 ps.length c2] (by rfl) k23 (fun kk w1 (hg : Grow _ w1) hb hf => calls_behind (by rfl) (by exact batches_is w1 l2 v62 (.slice A2 ps.length c2) (facts_take hf (by rw [hA'.out]; kernel_rfl)) (hP1 w1 hg) (by omega))) ?_
          refine fl_op1 68 (by rfl) (by decide) (wanted_if hops 8 false (by rfl) 60 (by rfl) false (by rfl)) (by rw [hK.out]; rfl) (by rfl) (.tmp 67) (.bool true) (by rfl) (.bool false) (fun ρ h1 kk w1 (hg : Grow _ w1) hb hf => by go_simp) ?_
          refine fl_pick 69 (by rfl) (by decide) (wanted_none (by rfl)) (by rw [hK.out]; rfl) (by rfl) _ _ _ (by rfl) false (by rfl) (.bool false) (by rfl) ?_
          refine fl_mv 70 (by rfl) (by decide) (wanted_none (by rfl)) (by rw [hK.out]; rfl) (by rfl) _ (Or.inl (by rfl)) (.bool false) (by rfl) ?_
          refine fl_mv 71 (by rfl) (by decide) (wanted_if hops 18 false (by rfl) 70 (by rfl) false (by rfl)) (by rw [hK.out]; rfl) (by rfl) _ (Or.inl (by rfl)) (.pointer (some ⟨d, 0, none⟩)) (by rfl) ?_
          refine fl_callAny 72 (by rfl) (by decide) (wanted_if hops 18 false (by rfl) 70 (by rfl) false (by rfl)) (fun _ => IsBats (l2.take 4)) (by rw [hK.out]; rfl) 16 _ _ (by rfl) [.pointer (some ⟨d, 0, none⟩)] (by rfl) k16 (fun kk w1 (hg : Grow _ w1) hb hf => calls_behindAny (φ := fun _ => IsBats (l2.take 4)) (by rfl) (by exact Flight_is w1 d _ _ V (hQ1 w1 hg))) (fun v72 => ?_)
          refine fl_mv 73 (by rfl) (by decide) (wanted_if hops 18 false (by rfl) 70 (by rfl) false (by rfl)) (by rw [hK.out]; rfl) (by rfl) _ (Or.inl (by rfl)) (.pointer (some ⟨r, 0, none⟩)) (by rfl) ?_
          refine fl_callAny 74 (by rfl) (by decide) (wanted_if hops 18 false (by rfl) 70 (by rfl) false (by rfl)) (fun _ => IsPBats (l2.take 4)) (by rw [hK.out]; rfl) 24 _ _ (by rfl) [.pointer (some ⟨r, 0, none⟩)] (by rfl) k24 (fun kk w1 (hg : Grow _ w1) hb hf => calls_behindAny (φ := fun _ => IsPBats (l2.take 4)) (by rfl) (by exact rFlight_is w1 r _ _ U (hR1 w1 hg))) (fun v74 => ?_)
          refine fl_call 75 (by rfl) (by decide) (wanted_if hops 18 false (by rfl) 70 (by rfl) false (by rfl)) (.bool true) (by rw [hK.out]; rfl) 23 _ _ (by rfl) [v72, v74] (by rfl) k23 (fun kk w1 (hg : Grow _ w1) hb hf => calls_behind (by rfl) (by exact batches_is w1 (l2.take 4) v72 v74 (facts_take (facts_pass hf) (by rw [hA'.out]; kernel_rfl)) (facts_take hf (by rw [hA'.out]; kernel_rfl)) (by rw [List.length_take]; omega))) ?_
          refine fl_op1 76 (by rfl) (by decide) (wanted_if hops 18 false (by rfl) 70 (by rfl) false (by rfl)) (by rw [hK.out]; rfl) (by rfl) (.tmp 75) (.bool true) (by rfl) (.bool false) (fun ρ h1 kk w1 (hg : Grow _ w1) hb hf => by go_simp) ?_
          refine fl_pick 77 (by rfl) (by decide) (wanted_none (by rfl)) (by rw [hK.out]; rfl) (by rfl) _ _ _ (by rfl) false (by rfl) (.bool false) (by rfl) ?_
          refine fl_end (fun _ _ w1 (hg : Grow _ w1) _ hfacts => hT _ _ ?_)
          clear hops hA' hK hT
          simp only [putsL, Act.put, List.setIfInBounds_toArray, List.set_cons_zero, List.set_cons_succ, List.drop_succ_cons, List.drop_zero]
          go_wp2_with fail
          go_roundw
          case rel => exact ⟨k + 1, l2, k2, by omega, by omega, by go_num, (hd6.grow (QueueAt.framed _ _ _) (RQAt.framed _ _ _) hg).wide (fun b hb => hb.1), below_trans hb6 hg hb6.size⟩
          case measure => simp [intOf]; omega
        · skip
          go_wp2_with fail
          rw [← HA.out, ← HX.out]
          refine wp_region_reg rfl ?_
          refine reg_flow (DuoSt (Off w.heap.size x) (QueueAt d lb kk) (QueueAt d (addL lb kk sq mb ds) (addK lb kk sq mb)) (RQAt r lb kk) (RQAt r (addL lb kk sq mb ds) (addK lb kk sq mb)) 6 12) (duoSt_ok (QueueAt.framed _ _ _) (QueueAt.framed _ _ _) (RQAt.framed _ _ _) (RQAt.framed _ _ _)) 0 14 80 [(6, .inl (.int .i64 (addE lb kk sq mb))), (12, .inl (.int .i64 (addE lb kk sq mb)))] rfl (by kernel_rfl) (by kernel_rfl) (by kernel_rfl) ?_ (Just.of_grow (Grow.refl _).drew) (hda.grow (QueueAt.framed _ _ _) (RQAt.framed _ _ _) (Grow.refl _).drew) ?_
          · intro x hx φ he
            simp only [List.mem_cons, List.not_mem_nil, or_false] at hx
            rcases hx with rfl | rfl <;> cases he
          intro ops' A' K' T hops hA' hK hT
          refine fl_mv 38 (by rfl) (by decide) (wanted_none (by rfl)) (by rw [hK.out]; rfl) (by rfl) _ (Or.inl (by rfl)) (.pointer (some ⟨d, 0, none⟩)) (by rfl) ?_
          refine fl_op1 39 (by rfl) (by decide) (wanted_none (by rfl)) (by rw [hK.out]; rfl) (by rfl) (.tmp 6) (.pointer (some ⟨x, 0, none⟩)) (by rfl) (.pointer (some ⟨x, 1, none⟩)) (fun ρ h1 kk w1 (hg : Just (Off w.heap.size x) _ w1) hb hf => by go_simp) ?_
          refine fl_op1 40 (by rfl) (by decide) (wanted_none (by rfl)) (by rw [hK.out]; rfl) (by rfl) (.tmp 39) (.pointer (some ⟨x, 1, none⟩)) (by rfl) (.int .i64 sq) (fun ρ h1 kk w1 (hg : Just (Off w.heap.size x) _ w1) hb hf => by have c := (hg.blk hBx (fun h => h.2 rfl)).cell 1; go_simp) ?_
          refine fl_op1 41 (by rfl) (by decide) (wanted_none (by rfl)) (by rw [hK.out]; rfl) (by rfl) (.tmp 6) (.pointer (some ⟨x, 0, none⟩)) (by rfl) (.pointer (some ⟨x, 2, none⟩)) (fun ρ h1 kk w1 (hg : Just (Off w.heap.size x) _ w1) hb hf => by go_simp) ?_
          refine fl_op1 42 (by rfl) (by decide) (wanted_none (by rfl)) (by rw [hK.out]; rfl) (by rfl) (.tmp 41) (.pointer (some ⟨x, 2, none⟩)) (by rfl) (.slice Ab mb cb) (fun ρ h1 kk w1 (hg : Just (Off w.heap.size x) _ w1) hb hf => by have c := (hg.blk hBx (fun h => h.2 rfl)).cell 2; go_simp) ?_
          refine fl_op2 43 (by rfl) (by decide) (wanted_none (by rfl)) (by rw [hK.out]; rfl) (by rfl) (.tmp 40) (.tmp 42) (.int .i64 sq) (.slice Ab mb cb) (by rfl) (by rfl) (.agg #[.int .i64 sq, .slice Ab mb cb]) (fun ρ h1 h2 kk w1 (hg : Just (Off w.heap.size x) _ w1) hb hf => by go_simp) ?_
          refine fl_call 44 (by rfl) (by decide) (wanted_none (by rfl)) (.int .i64 (addE lb kk sq mb)) (by rw [hK.out]; rfl) 9 _ _ (by rfl) [.pointer (some ⟨d, 0, none⟩), .agg #[.int .i64 sq, .slice Ab mb cb]] (by rfl) k9 (fun kk w1 (hg : Just (Off w.heap.size x) _ w1) hb hf => calls_turn 0 (by rfl) (by obtain rfl := before_some 0 (by rfl) hb; have hI := hb.1; exact hI.left (RQAt.framed _ _ _) (Add_any w1 D d lb kk sq Ab mb cb ds (hdsa w1 hg) hle hmx))) ?_
          refine fl_mv 45 (by rfl) (by decide) (wanted_none (by rfl)) (by rw [hK.out]; rfl) (by rfl) _ (Or.inl (by rfl)) (.pointer (some ⟨r, 0, none⟩)) (by rfl) ?_
          refine fl_op1 46 (by rfl) (by decide) (wanted_none (by rfl)) (by rw [hK.out]; rfl) (by rfl) (.tmp 6) (.pointer (some ⟨x, 0, none⟩)) (by rfl) (.pointer (some ⟨x, 1, none⟩)) (fun ρ h1 kk w1 (hg : Just (Off w.heap.size x) _ w1) hb hf => by go_simp) ?_
          refine fl_op1 47 (by rfl) (by decide) (wanted_none (by rfl)) (by rw [hK.out]; rfl) (by rfl) (.tmp 46) (.pointer (some ⟨x, 1, none⟩)) (by rfl) (.int .i64 sq) (fun ρ h1 kk w1 (hg : Just (Off w.heap.size x) _ w1) hb hf => by have c := (hg.blk hBx (fun h => h.2 rfl)).cell 1; go_simp) ?_
          refine fl_op1 48 (by rfl) (by decide) (wanted_none (by rfl)) (by rw [hK.out]; rfl) (by rfl) (.tmp 6) (.pointer (some ⟨x, 0, none⟩)) (by rfl) (.pointer (some ⟨x, 2, none⟩)) (fun ρ h1 kk w1 (hg : Just (Off w.heap.size x) _ w1) hb hf => by go_simp) ?_
          refine fl_op1 49 (by rfl) (by decide) (wanted_none (by rfl)) (by rw [hK.out]; rfl) (by rfl) (.tmp 48) (.pointer (some ⟨x, 2, none⟩)) (by rfl) (.slice Ab mb cb) (fun ρ h1 kk w1 (hg : Just (Off w.heap.size x) _ w1) hb hf => by have c := (hg.blk hBx (fun h => h.2 rfl)).cell 2; go_simp) ?_
          refine fl_call 50 (by rfl) (by decide) (wanted_none (by rfl)) (.int .i64 (addE lb kk sq mb)) (by rw [hK.out]; rfl) 22 _ _ (by rfl) [.pointer (some ⟨r, 0, none⟩), .int .i64 sq, .slice Ab mb cb] (by rfl) k22 (fun kk w1 (hg : Just (Off w.heap.size x) _ w1) hb hf => calls_turn 1 (by rfl) (by obtain rfl := before_some 1 (by rfl) hb; have hI := hb.1; exact hI.right (QueueAt.framed _ _ _) (rAdd_any w1 D r lb kk sq Ab mb cb ds (hdsa w1 hg) hDr))) ?_
          refine fl_op2 51 (by rfl) (by decide) (wanted_none (by rfl)) (by rw [hK.out]; rfl) (by rfl) (.tmp 44) (.tmp 50) (.int .i64 (addE lb kk sq mb)) (.int .i64 (addE lb kk sq mb)) (by rfl) (by rfl) (.bool false) (fun ρ h1 h2 kk w1 (hg : Just (Off w.heap.size x) _ w1) hb hf => by go_simp) ?_
          refine fl_end (fun _ _ w1 (hg : Just (Off w.heap.size x) _ w1) hend hfacts => hT _ _ ?_)
          clear hops hA' hK hT
          simp only [putsL, Act.put, List.setIfInBounds_toArray, List.set_cons_zero, List.set_cons_succ]
          refine reg_end ?_
          have hd6 : Duo (Off w.heap.size x) (QueueAt d (addL lb kk sq mb ds) (addK lb kk sq mb)) (RQAt r (addL lb kk sq mb ds) (addK lb kk sq mb)) w1 := hend
          have hb6 := hbla.trans (hg.below (B := w.heap.size) (fun b hb => hb.1) hbla.size)
          clear hend hfacts hda hbla hg HA
          generalize hl2 : (addL lb kk sq mb ds) = l2 at hd6
          generalize (addK lb kk sq mb) = k2 at hd6
          clear hl2
          obtain ⟨_, V, U, hq6, hr6, _, hV6, hU6⟩ := id hd6
          obtain ⟨A2, c2, ps, HQ, HL, h3, hBr, hP, hnc, hcm2⟩ := hr6.bats
          have hl16 : l2.length ≤ 16 := hq6.le
          have hQ1 : ∀ w2, Grow w1 w2 → QueueAt d l2 k2 w2 V := fun w2 hg => QueueAt.framed _ _ _ w1 w2 V hq6 fun b hb => hg.block b (hV6 b hb).2
          have hR1 : ∀ w2, Grow w1 w2 → RQAt r l2 k2 w2 U := fun w2 hg => RQAt.framed _ _ _ w1 w2 U hr6 fun b hb => hg.block b (hU6 b hb).2
          have hP1 : ∀ w2, Grow w1 w2 → IsPBats l2 (.slice A2 ps.length c2) w2 := fun w2 hg => ⟨A2, ps.length, c2, ps, rfl, ⟨(hP.grow hg).row.mono fun _ _ => trivial, fun x hx => ((hP.grow hg).all x hx).mono fun _ _ => trivial⟩, HQ.out⟩
          clear hq6 hr6 hV6 hU6
          go_wp2_with fail
          refine wp_region_flow 26 80 [(1, .inl (.int .i64 (ps.length : Int))), (10, .inr (fun _ => IsBats l2)), (15, .inl (.bool true)), (20, .inr (fun _ => IsBats (l2.take 4))), (22, .inr (fun _ => IsPBats (l2.take 4))), (23, .inl (.bool true))] rfl rfl (by kernel_rfl) (by kernel_rfl) (by kernel_rfl) ?_ ?_
          · intro x hx φ he
            simp only [List.mem_cons, List.not_mem_nil, or_false] at hx
            rcases hx with rfl | rfl | rfl | rfl | rfl | rfl <;> cases he
            all_goals first | exact lasts_quiet (lasting_bytes _) | exact lasts_quiet (isBats_lasting _) | exact lasts_quiet (isPBats_lasting _)
          intro ops' A' K' T hops hA' hK hT
          refine fl_mv 52 (by rfl) (by decide) (wanted_none (by rfl)) (by rw [hK.out]; rfl) (by rfl) _ (Or.inl (by rfl)) (.pointer (some ⟨d, 0, none⟩)) (by rfl) ?_
          refine fl_call 53 (by rfl) (by decide) (wanted_none (by rfl)) (.int .i64 (ps.length : Int)) (by rw [hK.out]; rfl) 11 _ _ (by rfl) [.pointer (some ⟨d, 0, none⟩)] (by rfl) k11 (fun kk w1 (hg : Grow _ w1) hb hf => calls_behind (by rfl) (by exact grew_same (Len_at w1 d _ _ V (hQ1 w1 hg) ps.length HL.out))) ?_
          refine fl_mv 54 (by rfl) (by decide) (wanted_none (by rfl)) (by rw [hK.out]; rfl) (by rfl) _ (Or.inl (by rfl)) (.pointer (some ⟨r, 0, none⟩)) (by rfl) ?_
          refine fl_op1 55 (by rfl) (by decide) (wanted_none (by rfl)) (by rw [hK.out]; rfl) (by rfl) (.tmp 54) (.pointer (some ⟨r, 0, none⟩)) (by rfl) (.pointer (some ⟨r, 0, none⟩)) (fun ρ h1 kk w1 (hg : Grow _ w1) hb hf => by go_simp) ?_
          refine fl_op1 56 (by rfl) (by decide) (wanted_none (by rfl)) (by rw [hK.out]; rfl) (by rfl) (.tmp 55) (.pointer (some ⟨r, 0, none⟩)) (by rfl) (.pointer (some ⟨r, 0, none⟩)) (fun ρ h1 kk w1 (hg : Grow _ w1) hb hf => by go_simp) ?_
          refine fl_op1 57 (by rfl) (by decide) (wanted_none (by rfl)) (by rw [hK.out]; rfl) (by rfl) (.tmp 56) (.pointer (some ⟨r, 0, none⟩)) (by rfl) (.slice A2 ps.length c2) (fun ρ h1 kk w1 (hg : Grow _ w1) hb hf => by have c := (hBr.grow hg).cell 0; go_simp) ?_
          refine fl_op1 58 (by rfl) (by decide) (wanted_none (by rfl)) (by rw [hK.out]; rfl) (by rfl) (.tmp 57) (.slice A2 ps.length c2) (by rfl) (.int .i64 (ps.length : Int)) (fun ρ h1 kk w1 (hg : Grow _ w1) hb hf => by go_simp) ?_
          refine fl_op2 59 (by rfl) (by decide) (wanted_none (by rfl)) (by rw [hK.out]; rfl) (by rfl) (.tmp 53) (.tmp 58) (.int .i64 (ps.length : Int)) (.int .i64 (ps.length : Int)) (by rfl) (by rfl) (.bool false) (fun ρ h1 h2 kk w1 (hg : Grow _ w1) hb hf => by go_simp) ?_
          refine fl_mv 60 (by rfl) (by decide) (wanted_none (by rfl)) (by rw [hK.out]; rfl) (by rfl) _ (Or.inl (by rfl)) (.bool false) (by rfl) ?_
          refine fl_mv 61 (by rfl) (by decide) (wanted_if hops 8 false (by rfl) 60 (by rfl) false (by rfl)) (by rw [hK.out]; rfl) (by rfl) _ (Or.inl (by rfl)) (.pointer (some ⟨d, 0, none⟩)) (by rfl) ?_
          refine fl_callAny 62 (by rfl) (by decide) (wanted_if hops 8 false (by rfl) 60 (by rfl) false (by rfl)) (fun _ => IsBats l2) (by rw [hK.out]; rfl) 15 _ _ (by rfl) [.pointer (some ⟨d, 0, none⟩)] (by rfl) k15 (fun kk w1 (hg : Grow _ w1) hb hf => calls_behindAny (φ := fun _ => IsBats l2) (by rfl) (by exact All_is w1 d _ _ V (hQ1 w1 hg))) (fun v62 => ?_)
          refine fl_mv 63 (by rfl) (by decide) (wanted_if hops 8 false (by rfl) 60 (by rfl) false (by rfl)) (by rw [hK.out]; rfl) (by rfl) _ (Or.inl (by rfl)) (.pointer (some ⟨r, 0, none⟩)) (by rfl) ?_
          refine fl_op1 64 (by rfl) (by decide) (wanted_if hops 8 false (by rfl) 60 (by rfl) false (by rfl)) (by rw [hK.out]; rfl) (by rfl) (.tmp 63) (.pointer (some ⟨r, 0, none⟩)) (by rfl) (.pointer (some ⟨r, 0, none⟩)) (fun ρ h1 kk w1 (hg : Grow _ w1) hb hf => by go_simp) ?_
          refine fl_op1 65 (by rfl) (by decide) (wanted_if hops 8 false (by rfl) 60 (by rfl) false (by rfl)) (by rw [hK.out]; rfl) (by rfl) (.tmp 64) (.pointer (some ⟨r, 0, none⟩)) (by rfl) (.pointer (some ⟨r, 0, none⟩)) (fun ρ h1 kk w1 (hg : Grow _ w1) hb hf => by go_simp) ?_
          refine fl_op1 66 (by rfl) (by decide) (wanted_if hops 8 false (by rfl) 60 (by rfl) false (by rfl)) (by rw [hK.out]; rfl) (by rfl) (.tmp 65) (.pointer (some ⟨r, 0, none⟩)) (by rfl) (.slice A2 ps.length c2) (fun ρ h1 kk w1 (hg : Grow _ w1) hb hf => by have c := (hBr.grow hg).cell 0; go_simp) ?_
          refine fl_call 67 (by rfl) (by decide) (wanted_if hops 8 false (by rfl) 60 (by rfl) false (by rfl)) (.bool true) (by rw [hK.out]; rfl) 23 _ _ (by rfl) [v62, .slice A2 ps.length c2] (by rfl) k23 (fun kk w1 (hg : Grow _ w1) hb hf => calls_behind (by rfl) (by exact batches_is w1 l2 v62 (.slice A2 ps.length c2) (facts_take hf (by rw [hA'.out]; kernel_rfl)) (hP1 w1 hg) (by omega))) ?_
          refine fl_op1 68 (by rfl) (by decide) (wanted_if hops 8 false (by rfl) 60 (by rfl) false (by rfl)) (by rw [hK.out]; rfl) (by rfl) (.tmp 67) (.bool true) (by rfl) (.bool false) (fun ρ h1 kk w1 (hg : Grow _ w1) hb hf => by go_simp) ?_
          refine fl_pick 69 (by rfl) (by decide) (wanted_none (by rfl)) (by rw [hK.out]; rfl) (by rfl) _ _ _ (by rfl) false (by rfl) (.bool false) (by rfl) ?_
          refine fl_mv 70 (by rfl) (by decide) (wanted_none (by rfl)) (by rw [hK.out]; rfl) (by rfl) _ (Or.inl (by rfl)) (.bool false) (by rfl) ?_
          refine fl_mv 71 (by rfl) (by decide) (wanted_if hops 18 false (by rfl) 70 (by rfl) false (by rfl)) (by rw [hK.out]; rfl) (by rfl) _ (Or.inl (by rfl)) (.pointer (some ⟨d, 0, none⟩)) (by rfl) ?_
          refine fl_callAny 72 (by rfl) (by decide) (wanted_if hops 18 false (by rfl) 70 (by rfl) false (by rfl)) (fun _ => IsBats (l2.take 4)) (by rw [hK.out]; rfl) 16 _ _ (by rfl) [.pointer (some ⟨d, 0, none⟩)] (by rfl) k16 (fun kk w1 (hg : Grow _ w1) hb hf => calls_behindAny (φ := fun _ => IsBats (l2.take 4)) (by rfl) (by exact Flight_is w1 d _ _ V (hQ1 w1 hg))) (fun v72 => ?_)
          refine fl_mv 73 (by rfl) (by decide) (wanted_if hops 18 false (by rfl) 70 (by rfl) false (by rfl)) (by rw [hK.out]; rfl) (by rfl) _ (Or.inl (by rfl)) (.pointer (some ⟨r, 0, none⟩)) (by rfl) ?_
          refine fl_callAny 74 (by rfl) (by decide) (wanted_if hops 18 false (by rfl) 70 (by rfl) false (by rfl)) (fun _ => IsPBats (l2.take 4)) (by rw [hK.out]; rfl) 24 _ _ (by rfl) [.pointer (some ⟨r, 0, none⟩)] (by rfl) k24 (fun kk w1 (hg : Grow _ w1) hb hf => calls_behindAny (φ := fun _ => IsPBats (l2.take 4)) (by rfl) (by exact rFlight_is w1 r _ _ U (hR1 w1 hg))) (fun v74 => ?_)
          refine fl_call 75 (by rfl) (by decide) (wanted_if hops 18 false (by rfl) 70 (by rfl) false (by rfl)) (.bool true) (by rw [hK.out]; rfl) 23 _ _ (by rfl) [v72, v74] (by rfl) k23 (fun kk w1 (hg : Grow _ w1) hb hf => calls_behind (by rfl) (by exact batches_is w1 (l2.take 4) v72 v74 (facts_take (facts_pass hf) (by rw [hA'.out]; kernel_rfl)) (facts_take hf (by rw [hA'.out]; kernel_rfl)) (by rw [List.length_take]; omega))) ?_
          refine fl_op1 76 (by rfl) (by decide) (wanted_if hops 18 false (by rfl) 70 (by rfl) false (by rfl)) (by rw [hK.out]; rfl) (by rfl) (.tmp 75) (.bool true) (by rfl) (.bool false) (fun ρ h1 kk w1 (hg : Grow _ w1) hb hf => by go_simp) ?_
          refine fl_pick 77 (by rfl) (by decide) (wanted_none (by rfl)) (by rw [hK.out]; rfl) (by rfl) _ _ _ (by rfl) false (by rfl) (.bool false) (by rfl) ?_
          refine fl_end (fun _ _ w1 (hg : Grow _ w1) _ hfacts => hT _ _ ?_)
          clear hops hA' hK hT
          simp only [putsL, Act.put, List.setIfInBounds_toArray, List.set_cons_zero, List.set_cons_succ, List.drop_succ_cons, List.drop_zero]
          go_wp2_with fail
          go_roundw
          case rel => exact ⟨k + 1, l2, k2, by omega, by omega, by go_num, (hd6.grow (QueueAt.framed _ _ _) (RQAt.framed _ _ _) hg).wide (fun b hb => hb.1), below_trans hb6 hg hb6.size⟩
          case measure => simp [intOf]; omega
      · obtain rfl : k = 80 := by omega
        go_wp2_with fail
        go_ret
        exact ⟨rfl, hbl⟩
    · skip
      go_wp2_with fail
      go_ret
      exact ⟨rfl, hbl⟩
end Go.Proofs.Ytnlfkeajolfboaa
