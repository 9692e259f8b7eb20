/- The same asks, of both: its walk. -/
import Derived.Test.YtedpcdliadfhgaaAsks
import Derived.Test.YtedpcdliadfhgaaCrash
namespace Go.Proofs.Ytedpcdliadfhgaa
open Go.RowKit Go.Hop
set_option maxRecDepth 100000 in
set_option maxHeartbeats 4000000 in
theorem play_any (w : World) (A : Option Addr) (n c : Nat) (l : List UInt8) (hb : Bytes w w.heap.size A n l) (hn : n ≤ 1048576) (A' : Option Addr) (n' c' : Nat) (q : List Ask) (hq : Asks w w.heap.size A' n' q) (hc' : n' ≤ c') (hcm : c' ≤ maxLen) :
    Calls Try.prog 7 #[.slice A n c, .slice A' n' c'] w fun e w' => e = .returned (.bool true) ∧ Grow w w' := by
  have hl := hb.len
  have k16 : ∀ (vs : Array Value) (w : World), (callFunc 16 vs).run Try.prog w = .ok (.enter 16 vs) w := fun vs w => by go_simp
  have k20 : ∀ (vs : Array Value) (w : World), (callFunc 20 vs).run Try.prog w = .ok (.enter 20 vs) w := fun vs w => by go_simp
  have k13 : ∀ (vs : Array Value) (w : World), (callFunc 13 vs).run Try.prog w = .ok (.enter 13 vs) w := fun vs w => by go_simp
  have k21 : ∀ (vs : Array Value) (w : World), (callFunc 21 vs).run Try.prog w = .ok (.enter 21 vs) w := fun vs w => by go_simp
  have k11 : ∀ (vs : Array Value) (w : World), (callFunc 11 vs).run Try.prog w = .ok (.enter 11 vs) w := fun vs w => by go_simp
  have k22 : ∀ (vs : Array Value) (w : World), (callFunc 22 vs).run Try.prog w = .ok (.enter 22 vs) w := fun vs w => by go_simp
  go_enter Try.func7, Try.ntmps7
  go_wp2_with (first
    | (go_at_call 18; refine (Of_yes _ A n c l hb hn).mono ?_; rintro e w1 ⟨d, rfl, hD1, hg1⟩)
    | (at_builtin; refine stay ?_))
  refine stay_out ?_
  have hs1 := hg1.size
  refine wpList_own (V := fun b => b = w1.heap.size) u8E _ rfl (.tmp 11) (.tmp 12) rfl (.slice (some ⟨w1.heap.size, 0, none⟩) 0 0) 0 [] rfl (made_own w1) w.heap.size A n c (u8s l) rfl (Reads.alloc (Reads.below hb hg1) (by omega) _) u8s_one (by omega) ?_
  intro v2 w2 hO2 hj2
  simp only [Nat.zero_add, List.nil_append] at hO2
  obtain ⟨hO2, hg2⟩ := own_new hO2 hj2
  clear hj2
  have hs2 := hg2.size
  obtain ⟨A2, c2, rfl, hR2, _, _⟩ := hO2.reads
  have hg3 : Grow w2 (w2.alloc (.cells #[.slice A2 n c2, .int .i64 (n : Int)] 42)) := (Below.refl w2.heap.size w2).alloc (Nat.le_refl _) _
  have hduo : Duo (fun b => w.heap.size ≤ b) (DiskAt 45 d l l.length) (DiskAt 42 w2.heap.size l l.length) (w2.alloc (.cells #[.slice A2 n c2, .int .i64 (n : Int)] 42)) := by
    refine Solo.with_ (w := w1) (U := New w1 _) (Solo.make (V := New w w1) (by rw [hl]; exact hD1) (fun b hb => by omega) (fun b hb => hb)) (DiskAt.framed _ _ _ _) (hg2.trans hg3) ⟨⟨hs2, by simp⟩, Nat.le_refl _, by omega, _, by rw [hl]; exact Blk.made w2 _ _, ?_⟩ (fun b hb => hb)
    rw [hl]
    refine (hO2.grow (fun b hb => hb.2) hg3).mono fun b hb => ⟨⟨hb.1, by have := hb.2; simp; omega⟩, by have := hb.2; omega⟩
  have hbelow := hg1.trans (hg2.trans hg3)
  have hlen : l.length = n := hl
  obtain ⟨r, HR⟩ : ∃ r : Nat, Hid (r = w2.heap.size) := ⟨_, rfl⟩
  go_wp2_with fail
  rw [← HR.out] at hduo ⊢
  clear hO2 hR2 hD1
  go_loopw [7] (fun i wr => ∃ (k : Nat) (lb : List UInt8) (kk : Nat), k ≤ n' ∧ k ≤ 60 ∧ i = .int .i64 k ∧ Duo (fun b => w.heap.size ≤ b) (DiskAt 45 d lb kk) (DiskAt 42 r lb kk) wr ∧ Below w.heap.size w wr) (fun i _ => 60 - (intOf i).toNat)
  case atStart => exact ⟨0, l, l.length, by omega, by omega, rfl, hduo, hbelow⟩
  case round =>
    obtain ⟨k, lb, kk, hkn, hk60, rfl, hd, hbl⟩ := hrel
    by_cases hk : k < n'
    · by_cases hk6 : k < 60
      · obtain ⟨ad, a, rfl, hadB, hin, e0, e1, e2⟩ := hq.at_ hk
        have hin' := hin.below hbl
        have hkeep : ∀ p : Addr, p.block < w.heap.size → wr.cell? p = w.cell? p := fun p hp => hbl.cell hp
        have f0 := (hkeep (ad.add (k * 3)) (by rw [block_add]; exact hadB)).trans e0
        have f1 := (hkeep ⟨(ad.add (k * 3)).block, (ad.add (k * 3)).off + 1, none⟩ (show (ad.add (k * 3)).block < _ by rw [block_add]; exact hadB)).trans e1
        have f2 := (hkeep ⟨(ad.add (k * 3)).block, (ad.add (k * 3)).off + 2, none⟩ (show (ad.add (k * 3)).block < _ by rw [block_add]; exact hadB)).trans e2
        clear e0 e1 e2
        obtain ⟨kd, Ab, mb, cb, bs, N⟩ := a
        obtain ⟨hbs, _, _, hkd, hN⟩ := hin'
        dsimp only at f0 f1 f2 hbs hkd hN
        unfold I64 at hkd hN
        have hga : Grow wr (wr.alloc (.cells #[.int .i64 kd, .slice Ab mb cb, .int .i64 N] 25)) := (Below.refl wr.heap.size wr).alloc (Nat.le_refl _) _
        have hBx0 := Blk.made wr 25 #[.int .i64 kd, .slice Ab mb cb, .int .i64 N]
        obtain ⟨x, HX⟩ : ∃ x : Nat, Hid (x = wr.heap.size) := ⟨_, rfl⟩
        obtain ⟨wa, HA⟩ : ∃ wa : World, Hid (wa = wr.alloc (.cells #[.int .i64 kd, .slice Ab mb cb, .int .i64 N] 25)) := ⟨_, rfl⟩
        have hda : Duo (Past w.heap.size x) (DiskAt 45 d lb kk) (DiskAt 42 r lb kk) wa := HA.out ▸ hd.beside (DiskAt.framed _ _ _ _) (DiskAt.framed _ _ _ _) hga fun b hb hs => ⟨hb, by have := HX.out; simp at hs; omega⟩
        have hBx : Blk wa x 25 #[.int .i64 kd, .slice Ab mb cb, .int .i64 N] := by rw [HA.out, HX.out]; exact hBx0
        have hbla : Below w.heap.size w wa := HA.out ▸ below_trans hbl hga hbl.size
        have hbsa : ∀ w1, Just (Past w.heap.size x) wa w1 → Bytes w1 w1.heap.size Ab mb bs := fun w1 hj => by
          have hb1 := hj.below (B := w.heap.size) (fun b hb => hb.1) hbla.size
          refine Reads.more (B := w.heap.size) ?_ (Nat.le_trans hbla.size hb1.size)
          exact (hin.bytes.below hbla).below hb1
        clear hBx0 hd hbs
        by_cases h2 : kd = 2
        · subst h2
          go_wp2_with fail
          rw [← HA.out, ← HX.out]
          go_at_call 12
          refine (hda.left (DiskAt.framed _ _ _ _) (Sync_any _ d lb kk)).mono ?_
          rintro e w5 ⟨rfl, hj5, hd5⟩
          go_wp2_with (go_at_call 19; refine (hd5.right (DiskAt.framed _ _ _ _) (rSync_any _ r lb kk)).mono ?_; rintro e w6 ⟨rfl, hj6, hd6⟩)
          have hj := hj5.trans hj6
          go_wp2_with (go_at_call 23; obtain ⟨_, V, U, h1, h2, _, h4, _⟩ := id hd6; refine (same_any _ d r lb lb.length V U h1 (fun b hb => (h4 b hb).2) h2).mono ?_; rintro e w7 ⟨rfl, hg7⟩)
          go_roundw
          case rel => exact ⟨k + 1, lb, lb.length, by omega, by omega, by go_num, (hd6.grow (DiskAt.framed _ _ _ _) (DiskAt.framed _ _ _ _) hg7).wide (fun b hb => hb.1), below_trans (hbla.trans (hj.below (B := w.heap.size) (fun b hb => hb.1) hbla.size)) hg7 (by have := hbla.size; have := hj.size; omega)⟩
          case measure => simp [intOf]; omega
        · by_cases h3 : kd = 3
          · subst h3
            go_wp2_with fail
            rw [← HA.out, ← HX.out]
            refine wp_region_reg rfl ?_
            refine reg_flow (DuoSt (Past w.heap.size x) (DiskAt 45 d lb kk) (DiskAt 45 d (cutL lb N) (cutK lb kk N)) (DiskAt 42 r lb kk) (DiskAt 42 r (cutL lb N) (cutK lb kk N)) 3 7) (duoSt_ok (DiskAt.framed _ _ _ _) (DiskAt.framed _ _ _ _) (DiskAt.framed _ _ _ _) (DiskAt.framed _ _ _ _)) 0 9 84 [(3, .inl (.bool (cutB lb N))), (7, .inl (.bool (cutB lb N)))] rfl (by kernel_rfl) (by kernel_rfl) (by kernel_rfl) ?_ (Just.of_grow (Grow.refl _).drew) hda ?_
            · intro x hx φ he
              simp only [List.mem_cons, List.not_mem_nil, or_false] at hx
              rcases hx with rfl | rfl <;> cases he
            intro ops' A' K' T hops hA' hK hT
            refine fl_mv 53 (by rfl) (by decide) (wanted_none (by rfl)) (by rw [hK.out]; rfl) (by rfl) _ (Or.inl (by rfl)) (.pointer (some ⟨d, 0, none⟩)) (by rfl) ?_
            refine fl_op1 54 (by rfl) (by decide) (wanted_none (by rfl)) (by rw [hK.out]; rfl) (by rfl) (.tmp 8) (.pointer (some ⟨x, 0, none⟩)) (by rfl) (.pointer (some ⟨x, 2, none⟩)) (fun ρ h1 kk w1 (hg : Just (Past w.heap.size x) _ w1) hb hf => by go_simp) ?_
            refine fl_op1 55 (by rfl) (by decide) (wanted_none (by rfl)) (by rw [hK.out]; rfl) (by rfl) (.tmp 54) (.pointer (some ⟨x, 2, none⟩)) (by rfl) (.int .i64 N) (fun ρ h1 kk w1 (hg : Just (Past w.heap.size x) _ w1) hb hf => by have c := (hg.blk hBx (fun h => h.2 rfl)).cell 2; go_simp) ?_
            refine fl_call 56 (by rfl) (by decide) (wanted_none (by rfl)) (.bool (cutB lb N)) (by rw [hK.out]; rfl) 16 _ _ (by rfl) [.pointer (some ⟨d, 0, none⟩), .int .i64 N] (by rfl) k16 (fun kk w1 (hg : Just (Past w.heap.size x) _ w1) hb hf => calls_turn 0 (by rfl) (by obtain rfl := before_some 0 (by rfl) hb; have hI := hb.1; exact hI.left (DiskAt.framed _ _ _ _) (Cut_any w1 d lb kk N hN))) ?_
            refine fl_mv 57 (by rfl) (by decide) (wanted_none (by rfl)) (by rw [hK.out]; rfl) (by rfl) _ (Or.inl (by rfl)) (.pointer (some ⟨r, 0, none⟩)) (by rfl) ?_
            refine fl_op1 58 (by rfl) (by decide) (wanted_none (by rfl)) (by rw [hK.out]; rfl) (by rfl) (.tmp 8) (.pointer (some ⟨x, 0, none⟩)) (by rfl) (.pointer (some ⟨x, 2, none⟩)) (fun ρ h1 kk w1 (hg : Just (Past w.heap.size x) _ w1) hb hf => by go_simp) ?_
            refine fl_op1 59 (by rfl) (by decide) (wanted_none (by rfl)) (by rw [hK.out]; rfl) (by rfl) (.tmp 58) (.pointer (some ⟨x, 2, none⟩)) (by rfl) (.int .i64 N) (fun ρ h1 kk w1 (hg : Just (Past w.heap.size x) _ w1) hb hf => by have c := (hg.blk hBx (fun h => h.2 rfl)).cell 2; go_simp) ?_
            refine fl_call 60 (by rfl) (by decide) (wanted_none (by rfl)) (.bool (cutB lb N)) (by rw [hK.out]; rfl) 20 _ _ (by rfl) [.pointer (some ⟨r, 0, none⟩), .int .i64 N] (by rfl) k20 (fun kk w1 (hg : Just (Past w.heap.size x) _ w1) hb hf => calls_turn 1 (by rfl) (by obtain rfl := before_some 1 (by rfl) hb; have hI := hb.1; exact hI.right (DiskAt.framed _ _ _ _) (rCut_any w1 r lb kk N hN))) ?_
            refine fl_op2 61 (by rfl) (by decide) (wanted_none (by rfl)) (by rw [hK.out]; rfl) (by rfl) (.tmp 56) (.tmp 60) (.bool (cutB lb N)) (.bool (cutB lb N)) (by rfl) (by rfl) (.bool false) (fun ρ h1 h2 kk w1 (hg : Just (Past w.heap.size x) _ w1) hb hf => by go_simp) ?_
            refine fl_end (fun _ _ w1 (hg : Just (Past w.heap.size x) _ w1) hend hfacts => hT _ _ ?_)
            clear hops hA' hK hT
            simp only [putsL, Act.put, List.setIfInBounds_toArray, List.set_cons_zero, List.set_cons_succ]

            refine reg_end ?_
            have hd6 : Duo (Past w.heap.size x) (DiskAt 45 d (cutL lb N) (cutK lb kk N)) (DiskAt 42 r (cutL lb N) (cutK lb kk N)) w1 := hend
            clear hend hfacts
            go_wp2_with (go_at_call 23; obtain ⟨_, V, U, h1, h2, _, h4, _⟩ := id hd6; refine (same_any _ d r (cutL lb N) (cutK lb kk N) V U h1 (fun b hb => (h4 b hb).2) h2).mono ?_; rintro e w7 ⟨rfl, hg7⟩)
            go_roundw
            case rel => exact ⟨k + 1, (cutL lb N), (cutK lb kk N), by omega, by omega, by go_num, (hd6.grow (DiskAt.framed _ _ _ _) (DiskAt.framed _ _ _ _) hg7).wide (fun b hb => hb.1), below_trans (hbla.trans (hg.below (B := w.heap.size) (fun b hb => hb.1) hbla.size)) hg7 (by have := hbla.size; have := hg.size; omega)⟩
            case measure => simp [intOf]; omega
          · by_cases h4 : kd = 4
            · subst h4
              go_wp2_with fail
              rw [← HA.out, ← HX.out]
              refine wp_region_reg rfl ?_
              refine reg_flow (DuoSt (Past w.heap.size x) (DiskAt 45 d lb kk) (DiskAt 45 d (lb.take (kk + keepN lb kk N)) (kk + keepN lb kk N)) (DiskAt 42 r lb kk) (DiskAt 42 r (lb.take (kk + keepN lb kk N)) (kk + keepN lb kk N)) 3 7) (duoSt_ok (DiskAt.framed _ _ _ _) (DiskAt.framed _ _ _ _) (DiskAt.framed _ _ _ _) (DiskAt.framed _ _ _ _)) 0 9 84 [(3, .inl (.int .i64 ((lb.length : Int) - (kk : Int) - (keepN lb kk N : Int)))), (7, .inl (.int .i64 ((lb.length : Int) - (kk : Int) - (keepN lb kk N : Int))))] rfl (by kernel_rfl) (by kernel_rfl) (by kernel_rfl) ?_ (Just.of_grow (Grow.refl _).drew) hda ?_
              · intro x hx φ he
                simp only [List.mem_cons, List.not_mem_nil, or_false] at hx
                rcases hx with rfl | rfl <;> cases he
              intro ops' A' K' T hops hA' hK hT
              refine fl_mv 64 (by rfl) (by decide) (wanted_none (by rfl)) (by rw [hK.out]; rfl) (by rfl) _ (Or.inl (by rfl)) (.pointer (some ⟨d, 0, none⟩)) (by rfl) ?_
              refine fl_op1 65 (by rfl) (by decide) (wanted_none (by rfl)) (by rw [hK.out]; rfl) (by rfl) (.tmp 8) (.pointer (some ⟨x, 0, none⟩)) (by rfl) (.pointer (some ⟨x, 2, none⟩)) (fun ρ h1 kk w1 (hg : Just (Past w.heap.size x) _ w1) hb hf => by go_simp) ?_
              refine fl_op1 66 (by rfl) (by decide) (wanted_none (by rfl)) (by rw [hK.out]; rfl) (by rfl) (.tmp 65) (.pointer (some ⟨x, 2, none⟩)) (by rfl) (.int .i64 N) (fun ρ h1 kk w1 (hg : Just (Past w.heap.size x) _ w1) hb hf => by have c := (hg.blk hBx (fun h => h.2 rfl)).cell 2; go_simp) ?_
              refine fl_call 67 (by rfl) (by decide) (wanted_none (by rfl)) (.int .i64 ((lb.length : Int) - (kk : Int) - (keepN lb kk N : Int))) (by rw [hK.out]; rfl) 13 _ _ (by rfl) [.pointer (some ⟨d, 0, none⟩), .int .i64 N] (by rfl) k13 (fun kk w1 (hg : Just (Past w.heap.size x) _ w1) hb hf => calls_turn 0 (by rfl) (by obtain rfl := before_some 0 (by rfl) hb; have hI := hb.1; exact hI.left (DiskAt.framed _ _ _ _) (Crash_any w1 d lb kk N hN))) ?_
              refine fl_mv 68 (by rfl) (by decide) (wanted_none (by rfl)) (by rw [hK.out]; rfl) (by rfl) _ (Or.inl (by rfl)) (.pointer (some ⟨r, 0, none⟩)) (by rfl) ?_
              refine fl_op1 69 (by rfl) (by decide) (wanted_none (by rfl)) (by rw [hK.out]; rfl) (by rfl) (.tmp 8) (.pointer (some ⟨x, 0, none⟩)) (by rfl) (.pointer (some ⟨x, 2, none⟩)) (fun ρ h1 kk w1 (hg : Just (Past w.heap.size x) _ w1) hb hf => by go_simp) ?_
              refine fl_op1 70 (by rfl) (by decide) (wanted_none (by rfl)) (by rw [hK.out]; rfl) (by rfl) (.tmp 69) (.pointer (some ⟨x, 2, none⟩)) (by rfl) (.int .i64 N) (fun ρ h1 kk w1 (hg : Just (Past w.heap.size x) _ w1) hb hf => by have c := (hg.blk hBx (fun h => h.2 rfl)).cell 2; go_simp) ?_
              refine fl_call 71 (by rfl) (by decide) (wanted_none (by rfl)) (.int .i64 ((lb.length : Int) - (kk : Int) - (keepN lb kk N : Int))) (by rw [hK.out]; rfl) 21 _ _ (by rfl) [.pointer (some ⟨r, 0, none⟩), .int .i64 N] (by rfl) k21 (fun kk w1 (hg : Just (Past w.heap.size x) _ w1) hb hf => calls_turn 1 (by rfl) (by obtain rfl := before_some 1 (by rfl) hb; have hI := hb.1; exact hI.right (DiskAt.framed _ _ _ _) (rCrash_any w1 r lb kk N hN))) ?_
              refine fl_op2 72 (by rfl) (by decide) (wanted_none (by rfl)) (by rw [hK.out]; rfl) (by rfl) (.tmp 67) (.tmp 71) (.int .i64 ((lb.length : Int) - (kk : Int) - (keepN lb kk N : Int))) (.int .i64 ((lb.length : Int) - (kk : Int) - (keepN lb kk N : Int))) (by rfl) (by rfl) (.bool false) (fun ρ h1 h2 kk w1 (hg : Just (Past w.heap.size x) _ w1) hb hf => by go_simp) ?_
              refine fl_end (fun _ _ w1 (hg : Just (Past w.heap.size x) _ w1) hend hfacts => hT _ _ ?_)
              clear hops hA' hK hT
              simp only [putsL, Act.put, List.setIfInBounds_toArray, List.set_cons_zero, List.set_cons_succ]

              refine reg_end ?_
              have hd6 : Duo (Past w.heap.size x) (DiskAt 45 d (lb.take (kk + keepN lb kk N)) (kk + keepN lb kk N)) (DiskAt 42 r (lb.take (kk + keepN lb kk N)) (kk + keepN lb kk N)) w1 := hend
              clear hend hfacts
              go_wp2_with (go_at_call 23; obtain ⟨_, V, U, h1, h2, _, h4, _⟩ := id hd6; refine (same_any _ d r (lb.take (kk + keepN lb kk N)) (kk + keepN lb kk N) V U h1 (fun b hb => (h4 b hb).2) h2).mono ?_; rintro e w7 ⟨rfl, hg7⟩)
              go_roundw
              case rel => exact ⟨k + 1, (lb.take (kk + keepN lb kk N)), (kk + keepN lb kk N), by omega, by omega, by go_num, (hd6.grow (DiskAt.framed _ _ _ _) (DiskAt.framed _ _ _ _) hg7).wide (fun b hb => hb.1), below_trans (hbla.trans (hg.below (B := w.heap.size) (fun b hb => hb.1) hbla.size)) hg7 (by have := hbla.size; have := hg.size; omega)⟩
              case measure => simp [intOf]; omega
            · skip
              go_wp2_with fail
              rw [← HA.out, ← HX.out]
              refine wp_region_reg rfl ?_
              refine reg_flow (DuoSt (Past w.heap.size x) (DiskAt 45 d lb kk) (DiskAt 45 d (appL lb bs) kk) (DiskAt 42 r lb kk) (DiskAt 42 r (appL lb bs) kk) 3 7) (duoSt_ok (DiskAt.framed _ _ _ _) (DiskAt.framed _ _ _ _) (DiskAt.framed _ _ _ _) (DiskAt.framed _ _ _ _)) 0 9 84 [(3, .inl (.int .i64 (appE lb bs))), (7, .inl (.int .i64 (appE lb bs)))] rfl (by kernel_rfl) (by kernel_rfl) (by kernel_rfl) ?_ (Just.of_grow (Grow.refl _).drew) hda ?_
              · intro x hx φ he
                simp only [List.mem_cons, List.not_mem_nil, or_false] at hx
                rcases hx with rfl | rfl <;> cases he
              intro ops' A' K' T hops hA' hK hT
              refine fl_mv 36 (by rfl) (by decide) (wanted_none (by rfl)) (by rw [hK.out]; rfl) (by rfl) _ (Or.inl (by rfl)) (.pointer (some ⟨d, 0, none⟩)) (by rfl) ?_
              refine fl_op1 37 (by rfl) (by decide) (wanted_none (by rfl)) (by rw [hK.out]; rfl) (by rfl) (.tmp 8) (.pointer (some ⟨x, 0, none⟩)) (by rfl) (.pointer (some ⟨x, 1, none⟩)) (fun ρ h1 kk w1 (hg : Just (Past w.heap.size x) _ w1) hb hf => by go_simp) ?_
              refine fl_op1 38 (by rfl) (by decide) (wanted_none (by rfl)) (by rw [hK.out]; rfl) (by rfl) (.tmp 37) (.pointer (some ⟨x, 1, none⟩)) (by rfl) (.slice Ab mb cb) (fun ρ h1 kk w1 (hg : Just (Past w.heap.size x) _ w1) hb hf => by have c := (hg.blk hBx (fun h => h.2 rfl)).cell 1; go_simp) ?_
              refine fl_call 39 (by rfl) (by decide) (wanted_none (by rfl)) (.int .i64 (appE lb bs)) (by rw [hK.out]; rfl) 11 _ _ (by rfl) [.pointer (some ⟨d, 0, none⟩), .slice Ab mb cb] (by rfl) k11 (fun kk w1 (hg : Just (Past w.heap.size x) _ w1) hb hf => calls_turn 0 (by rfl) (by obtain rfl := before_some 0 (by rfl) hb; have hI := hb.1; exact hI.left (DiskAt.framed _ _ _ _) (Append_any w1 d lb kk Ab mb cb bs (hbsa w1 hg)))) ?_
              refine fl_mv 40 (by rfl) (by decide) (wanted_none (by rfl)) (by rw [hK.out]; rfl) (by rfl) _ (Or.inl (by rfl)) (.pointer (some ⟨r, 0, none⟩)) (by rfl) ?_
              refine fl_op1 41 (by rfl) (by decide) (wanted_none (by rfl)) (by rw [hK.out]; rfl) (by rfl) (.tmp 8) (.pointer (some ⟨x, 0, none⟩)) (by rfl) (.pointer (some ⟨x, 1, none⟩)) (fun ρ h1 kk w1 (hg : Just (Past w.heap.size x) _ w1) hb hf => by go_simp) ?_
              refine fl_op1 42 (by rfl) (by decide) (wanted_none (by rfl)) (by rw [hK.out]; rfl) (by rfl) (.tmp 41) (.pointer (some ⟨x, 1, none⟩)) (by rfl) (.slice Ab mb cb) (fun ρ h1 kk w1 (hg : Just (Past w.heap.size x) _ w1) hb hf => by have c := (hg.blk hBx (fun h => h.2 rfl)).cell 1; go_simp) ?_
              refine fl_call 43 (by rfl) (by decide) (wanted_none (by rfl)) (.int .i64 (appE lb bs)) (by rw [hK.out]; rfl) 22 _ _ (by rfl) [.pointer (some ⟨r, 0, none⟩), .slice Ab mb cb] (by rfl) k22 (fun kk w1 (hg : Just (Past w.heap.size x) _ w1) hb hf => calls_turn 1 (by rfl) (by obtain rfl := before_some 1 (by rfl) hb; have hI := hb.1; exact hI.right (DiskAt.framed _ _ _ _) (rAppend_any w1 r lb kk Ab mb cb bs (hbsa w1 hg)))) ?_
              refine fl_op2 44 (by rfl) (by decide) (wanted_none (by rfl)) (by rw [hK.out]; rfl) (by rfl) (.tmp 39) (.tmp 43) (.int .i64 (appE lb bs)) (.int .i64 (appE lb bs)) (by rfl) (by rfl) (.bool false) (fun ρ h1 h2 kk w1 (hg : Just (Past w.heap.size x) _ w1) hb hf => by go_simp) ?_
              refine fl_end (fun _ _ w1 (hg : Just (Past w.heap.size x) _ w1) hend hfacts => hT _ _ ?_)
              clear hops hA' hK hT
              simp only [putsL, Act.put, List.setIfInBounds_toArray, List.set_cons_zero, List.set_cons_succ]

              refine reg_end ?_
              have hd6 : Duo (Past w.heap.size x) (DiskAt 45 d (appL lb bs) kk) (DiskAt 42 r (appL lb bs) kk) w1 := hend
              clear hend hfacts
              go_wp2_with (go_at_call 23; obtain ⟨_, V, U, h1, h2, _, h4, _⟩ := id hd6; refine (same_any _ d r (appL lb bs) kk V U h1 (fun b hb => (h4 b hb).2) h2).mono ?_; rintro e w7 ⟨rfl, hg7⟩)
              go_roundw
              case rel => exact ⟨k + 1, (appL lb bs), kk, by omega, by omega, by go_num, (hd6.grow (DiskAt.framed _ _ _ _) (DiskAt.framed _ _ _ _) hg7).wide (fun b hb => hb.1), below_trans (hbla.trans (hg.below (B := w.heap.size) (fun b hb => hb.1) hbla.size)) hg7 (by have := hbla.size; have := hg.size; omega)⟩
              case measure => simp [intOf]; omega
      · obtain rfl : k = 60 := by omega
        go_wp2_with (first
          | (go_at_call 23; obtain ⟨_, V, U, h1, h2, _, h4, _⟩ := hd; refine (same_any _ d r lb kk V U h1 (fun b hb => (h4 b hb).2) h2).mono ?_; rintro e w7 ⟨rfl, hg7⟩))
        go_ret
        exact ⟨rfl, below_trans hbl hg7 hbl.size⟩
    · skip
      go_wp2_with (first
        | (go_at_call 23; obtain ⟨_, V, U, h1, h2, _, h4, _⟩ := hd; refine (same_any _ d r lb kk V U h1 (fun b hb => (h4 b hb).2) h2).mono ?_; rintro e w7 ⟨rfl, hg7⟩))
      go_ret
      exact ⟨rfl, below_trans hbl hg7 hbl.size⟩
end Go.Proofs.Ytedpcdliadfhgaa
