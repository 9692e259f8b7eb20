/- The same asks, of both: its walk. -/
import Derived.Test.YtdpcokekilklfaaAsks
namespace Go.Proofs.Ytdpcokekilklfaa
open Go.RowKit Go.Hop
set_option maxRecDepth 100000 in
set_option maxHeartbeats 40000000 in
theorem play_any (w : World) (A : Option Addr) (n c : Nat) (l : List UInt8) (hb : Bytes w w.heap.size A n l) (hn : n ≤ 100000) (A' : Option Addr) (n' c' : Nat) (q : List Ask) (hq : Asks w w.heap.size A' n' q) (hc' : n' ≤ c') (hcm : c' ≤ maxLen) :
    Calls Try.prog 19 #[.slice A n c, .slice A' n' c'] w fun e w' => e = .returned (.bool true) ∧ Grow w w' := by
  have hl := hb.len
  have k16 : ∀ (vs : Array Value) (w : World), (callFunc 16 vs).run Try.prog w = .ok (.enter 16 vs) w := fun vs w => by go_simp
  have k13 : ∀ (vs : Array Value) (w : World), (callFunc 13 vs).run Try.prog w = .ok (.enter 13 vs) w := fun vs w => by go_simp
  have k35 : ∀ (vs : Array Value) (w : World), (callFunc 35 vs).run Try.prog w = .ok (.enter 35 vs) w := fun vs w => by go_simp
  have k14 : ∀ (vs : Array Value) (w : World), (callFunc 14 vs).run Try.prog w = .ok (.enter 14 vs) w := fun vs w => by go_simp
  have k17 : ∀ (vs : Array Value) (w : World), (callFunc 17 vs).run Try.prog w = .ok (.enter 17 vs) w := fun vs w => by go_simp
  have k21 : ∀ (vs : Array Value) (w : World), (callFunc 21 vs).run Try.prog w = .ok (.enter 21 vs) w := fun vs w => by go_simp
  have k26 : ∀ (vs : Array Value) (w : World), (callFunc 26 vs).run Try.prog w = .ok (.enter 26 vs) w := fun vs w => by go_simp
  go_enter Try.func19, Try.ntmps19
  go_wp2_with (first
    | (go_at_call 30; refine (Of_yes _ A n c l hb (by omega)).mono ?_; rintro e w1 ⟨d, rfl, hD1, hg1⟩)
    | (at_builtin; refine stay ?_))
  refine stay_out ?_
  have hs1 := hg1.size
  refine wpList_own (V := fun b => b = w1.heap.size) u8E _ rfl (.tmp 18) (.tmp 19) rfl (.slice (some ⟨w1.heap.size, 0, none⟩) 0 0) 0 [] rfl (made_own w1) w.heap.size A n c (u8s l) rfl (Reads.alloc (Reads.below hb hg1) (by omega) _) u8s_one (by omega) ?_
  intro v2 w2 hO2 hj2
  simp only [Nat.zero_add, List.nil_append] at hO2
  obtain ⟨hO2, hg2⟩ := own_new hO2 hj2
  clear hj2
  have hs2 := hg2.size
  obtain ⟨A2, c2, rfl, hR2, hnc2, hcm2⟩ := hO2.reads
  have hg3 : Grow w2 (w2.alloc (.cells #[.slice A2 n c2, .int .i64 (n : Int)] 61)) := (Below.refl w2.heap.size w2).alloc (Nat.le_refl _) _
  have hduo : Duo (fun b => w.heap.size ≤ b) (DiskAt 44 d l l.length) (DiskAt 61 w2.heap.size l l.length) (w2.alloc (.cells #[.slice A2 n c2, .int .i64 (n : Int)] 61)) := by
    refine Solo.with_ (w := w1) (U := New w1 _) (Solo.make (V := New w w1) (by rw [hl]; exact hD1) (fun b hb => by omega) (fun b hb => hb)) (DiskAt.framed _ _ _ _) (hg2.trans hg3) ⟨⟨hs2, by simp⟩, Nat.le_refl _, by omega, _, by rw [hl]; exact Blk.made w2 _ _, ?_⟩ (fun b hb => hb)
    rw [hl]
    refine (hO2.grow (fun b hb => hb.2) hg3).mono fun b hb => ⟨⟨hb.1, by have := hb.2; simp; omega⟩, by have := hb.2; omega⟩
  have hbelow := hg1.trans (hg2.trans hg3)
  have hBr0 := Blk.made w2 61 #[.slice A2 n c2, .int .i64 (n : Int)]
  have hR3 : Bytes (w2.alloc (.cells #[.slice A2 n c2, .int .i64 (n : Int)] 61)) (w2.alloc (.cells #[.slice A2 n c2, .int .i64 (n : Int)] 61)).heap.size A2 n l := Reads.more (Reads.below hR2 hg3) hg3.size
  obtain ⟨r, HR⟩ : ∃ r : Nat, Hid (r = w2.heap.size) := ⟨_, rfl⟩
  obtain ⟨w3, HW⟩ : ∃ w3 : World, Hid (w3 = w2.alloc (.cells #[.slice A2 n c2, .int .i64 (n : Int)] 61)) := ⟨_, rfl⟩
  rw [← HW.out] at hR3 hduo hbelow hBr0
  rw [← HR.out] at hduo hBr0
  have c0 := hBr0.cell 0
  clear hO2 hR2 hD1 hg3
  have kR := rScan_any w3 A2 n c2 l hR3 hnc2 hcm2 (by omega)
  go_wp2_with fail
  rw [← HW.out, ← HR.out]
  refine kR.mono ?_
  rintro e w4 ⟨xs, j, u, hsc, rfl, _, hg4⟩
  have hduo := hduo.grow (DiskAt.framed _ _ _ _) (DiskAt.framed _ _ _ _) hg4
  have hbelow := below_trans hbelow hg4 hbelow.size
  have hBr := hBr0.grow hg4
  have hjl : j ≤ l.length := by rw [hsc.2.1, ← hsc.1, List.length_append]; omega
  have hsub : IntKind.i64.wrap ((l.length : Int) - (j : Int)) = (l.length : Int) - (j : Int) := by rw [IntKind.wrap_i64]; omega
  obtain ⟨V4, hD4a, hV4⟩ := hduo.get1
  have hD4 : ∀ w1, Grow w4 w1 → DiskAt 44 d l l.length w1 V4 := fun w1 hg => DiskAt.framed _ d l _ w4 w1 V4 hD4a fun b hb => hg.block b (hV4 b hb).2
  have hnl : (n : Int) = (l.length : Int) := by omega
  clear kR hBr0 c0 hR3
  go_wp2_with fail
  refine wp_region_flow 10 166 [(1, .inl (.int .i64 ((l.length : Int) - (j : Int))))] rfl rfl (by kernel_rfl) (by kernel_rfl) (by kernel_rfl) ?_ ?_
  · intro x hx φ he
    simp only [List.mem_cons, List.not_mem_nil, or_false] at hx
    rcases hx with rfl <;> cases he
  intro ops' A' K' T hops hA' hK hT
  refine fl_mv 35 (by rfl) (by decide) (wanted_none (by rfl)) (by rw [hK.out]; rfl) (by rfl) _ (Or.inl (by rfl)) (.pointer (some ⟨d, 0, none⟩)) (by rfl) ?_
  refine fl_call 36 (by rfl) (by decide) (wanted_none (by rfl)) (.int .i64 ((l.length : Int) - (j : Int))) (by rw [hK.out]; rfl) 16 _ _ (by rfl) [.pointer (some ⟨d, 0, none⟩)] (by rfl) k16 (fun kk w1 (hg : Grow _ w1) hb hf => calls_behind (by rfl) (by exact Torn_is w1 d _ _ V4 (hD4 w1 hg) (fun b hb => Nat.lt_of_lt_of_le (hV4 b hb).2 hg.size) hsc)) ?_
  refine fl_mv 37 (by rfl) (by decide) (wanted_none (by rfl)) (by rw [hK.out]; rfl) (by rfl) _ (Or.inl (by rfl)) (.pointer (some ⟨r, 0, none⟩)) (by rfl) ?_
  refine fl_op1 38 (by rfl) (by decide) (wanted_none (by rfl)) (by rw [hK.out]; rfl) (by rfl) (.tmp 37) (.pointer (some ⟨r, 0, none⟩)) (by rfl) (.pointer (some ⟨r, 0, none⟩)) (fun ρ h1 kk w1 (hg : Grow _ w1) hb hf => by go_simp) ?_
  refine fl_op1 39 (by rfl) (by decide) (wanted_none (by rfl)) (by rw [hK.out]; rfl) (by rfl) (.tmp 38) (.pointer (some ⟨r, 0, none⟩)) (by rfl) (.pointer (some ⟨r, 0, none⟩)) (fun ρ h1 kk w1 (hg : Grow _ w1) hb hf => by go_simp) ?_
  refine fl_op1 40 (by rfl) (by decide) (wanted_none (by rfl)) (by rw [hK.out]; rfl) (by rfl) (.tmp 39) (.pointer (some ⟨r, 0, none⟩)) (by rfl) (.slice A2 n c2) (fun ρ h1 kk w1 (hg : Grow _ w1) hb hf => by have c := (hBr.grow hg).cell 0; go_simp) ?_
  refine fl_op1 41 (by rfl) (by decide) (wanted_none (by rfl)) (by rw [hK.out]; rfl) (by rfl) (.tmp 40) (.slice A2 n c2) (by rfl) (.int .i64 (n : Int)) (fun ρ h1 kk w1 (hg : Grow _ w1) hb hf => by go_simp) ?_
  refine fl_mv 42 (by rfl) (by decide) (wanted_none (by rfl)) (by rw [hK.out]; rfl) (by rfl) _ (Or.inl (by rfl)) (.int .i64 (j : Int)) (by rfl) ?_
  refine fl_op2 43 (by rfl) (by decide) (wanted_none (by rfl)) (by rw [hK.out]; rfl) (by rfl) (.tmp 41) (.tmp 42) (.int .i64 (n : Int)) (.int .i64 (j : Int)) (by rfl) (by rfl) (.int .i64 ((l.length : Int) - (j : Int))) (fun ρ h1 h2 kk w1 (hg : Grow _ w1) hb hf => by go_simp) ?_
  refine fl_op2 44 (by rfl) (by decide) (wanted_none (by rfl)) (by rw [hK.out]; rfl) (by rfl) (.tmp 36) (.tmp 43) (.int .i64 ((l.length : Int) - (j : Int))) (.int .i64 ((l.length : Int) - (j : Int))) (by rfl) (by rfl) (.bool false) (fun ρ h1 h2 kk w1 (hg : Grow _ w1) hb hf => by go_simp) ?_
  refine fl_end (fun _ _ w1 (hg : Grow _ w1) _ hfacts => hT _ _ ?_)
  clear hops hA' hK hT
  simp only [putsL, Act.put, List.setIfInBounds_toArray, List.set_cons_zero, List.set_cons_succ, List.drop_succ_cons, List.drop_zero]
  clear hfacts hD4 hD4a hBr
  have hduo := hduo.grow (DiskAt.framed _ _ _ _) (DiskAt.framed _ _ _ _) hg
  have hbelow := below_trans hbelow hg hbelow.size
  have hc5 := open_both (fun _ _ h => h) (DiskAt.framed _ _ _ _) hduo
  go_wp2_with fail
  refine hc5.mono ?_
  rintro e w5 ⟨ys, j5, x, u5, hS, rfl, hj5, hd5⟩
  obtain ⟨rfl, rfl⟩ := hsc.one hS
  have hb5 := Below.trans hbelow (hj5.below (B := w.heap.size) (fun b hb => hb) hbelow.size)
  have hc6 := ropen_both (With.framed (LogAt.framed _ _ _ _ _) _ _) hd5
  clear hc5 hduo hS hj5 hg4 hg hV4
  go_wp2_with fail
  refine hc6.mono ?_
  rintro e w6 ⟨zs, j6, u6, hS, rfl, hj6, hd6⟩
  obtain ⟨rfl, rfl⟩ := hsc.one hS
  have hb6 := Below.trans hb5 (hj6.below (B := w.heap.size) (fun b hb => hb) hb5.size)
  obtain ⟨D1, D2, hx1, hx2⟩ := both_rows hd6
  obtain ⟨A6, c6, rfl, _, _, _⟩ := hx2.at_
  have hfl := frames_len xs
  have hxl : xs.length ≤ 1048576 := by rw [hsc.2.1] at hjl; omega
  have hc7 := records_any w6 xs D1 D2 u5 _ hx1 hx2 (by omega)
  have hd6 := with_drop2 (with_drop hd6)
  clear hc6 hd5 hS hj6 hx1 hx2
  go_wp2_with fail
  refine hc7.mono ?_
  rintro e w7 ⟨rfl, hg7⟩
  have hb7 := below_trans hb6 hg7 hb6.size
  have hd7 := hd6.grow (LogAt.framed _ _ _ _ _) (DiskAt.framed _ _ _ _) hg7
  clear hc7 hd6 hsc
  generalize l.take j = l7 at hd7
  go_wp2_with fail
  go_loopw [9, 12, 13] (fun x n i wr => ∃ (k : Nat) (xx nn : Nat) (lb : List UInt8) (kk : Nat), k ≤ n' ∧ k ≤ 50 ∧ x = .pointer (some ⟨xx, 0, none⟩) ∧ n = .int .i64 (nn : Int) ∧ i = .int .i64 (k : Int) ∧ nn ≤ 1048576 + k ∧ lb.length ≤ 1048576 ∧ Duo (fun b => w.heap.size ≤ b) (LogAt xx d (nn : Int) lb kk) (DiskAt 61 r lb kk) wr ∧ Below w.heap.size w wr) (fun _ _ i _ => 50 - (intOf i).toNat)
  case atStart =>
    obtain ⟨_, ⟨_, _, h9⟩, _⟩ := hd7.get1
    exact ⟨0, x, xs.length, l7, j, by omega, by omega, rfl, rfl, rfl, by omega, h9.2.2.1, hd7, hb7⟩
  case round =>
    clear hd7 hb7 hduo
    obtain ⟨k, x, n, lb, kk, hkn, hk50, rfl, rfl, rfl, hnk, hlb, hd, hbl⟩ := hrel
    by_cases hk : k < n'
    · by_cases hk5 : k < 50
      · obtain ⟨ad, a0, rfl, hadB, hin, e0, e1, e2⟩ := hq.at_ hk
        have hkeep : ∀ p : Addr, p.block < w.heap.size → wr.cell? p = w.cell? p := fun p hp => hbl.cell hp
        have f0 := (hkeep (ad.add (k * 3)) (by rw [block_add]; exact hadB)).trans e0
        have f1 := (hkeep ⟨(ad.add (k * 3)).block, (ad.add (k * 3)).off + 1, none⟩ (show (ad.add (k * 3)).block < _ by rw [block_add]; exact hadB)).trans e1
        have f2 := (hkeep ⟨(ad.add (k * 3)).block, (ad.add (k * 3)).off + 2, none⟩ (show (ad.add (k * 3)).block < _ by rw [block_add]; exact hadB)).trans e2
        clear e0 e1 e2 hkeep
        obtain ⟨kd, Ab, mb, cb, bs, N⟩ := a0
        obtain ⟨hbs, _, _, hkd, hN⟩ := id hin
        dsimp only at f0 f1 f2 hbs hkd hN
        unfold I64 at hkd hN
        have hga : Grow wr (wr.alloc (.cells #[.int .i64 kd, .slice Ab mb cb, .int .i64 N] 41)) := (Below.refl wr.heap.size wr).alloc (Nat.le_refl _) _
        have hBx0 := Blk.made wr 41 #[.int .i64 kd, .slice Ab mb cb, .int .i64 N]
        obtain ⟨a, HX⟩ : ∃ a : Nat, Hid (a = wr.heap.size) := ⟨_, rfl⟩
        obtain ⟨wa, HA⟩ : ∃ wa : World, Hid (wa = wr.alloc (.cells #[.int .i64 kd, .slice Ab mb cb, .int .i64 N] 41)) := ⟨_, rfl⟩
        have hda : Duo (Past w.heap.size a) (LogAt x d (n : Int) lb kk) (DiskAt 61 r lb kk) wa := HA.out ▸ hd.beside (LogAt.framed _ _ _ _ _) (DiskAt.framed _ _ _ _) hga fun b hb hs => ⟨hb, by have := HX.out; simp at hs; omega⟩
        have hBa : Blk wa a 41 #[.int .i64 kd, .slice Ab mb cb, .int .i64 N] := by rw [HA.out, HX.out]; exact hBx0
        have hbla : Below w.heap.size w wa := HA.out ▸ below_trans hbl hga hbl.size
        have hbsa : ∀ w1, Just (Past w.heap.size a) wa w1 → Bytes w1 w1.heap.size Ab mb bs := fun w1 hj => by
          have hb1 := hj.below (B := w.heap.size) (fun b hb => hb.1) hbla.size
          refine Reads.more (B := w.heap.size) ?_ (Nat.le_trans hbla.size hb1.size)
          exact (hin.bytes.below hbla).below hb1
        clear hBx0 hd hbs hga
        by_cases h3 : kd = 3
        · subst h3
          go_wp2_with fail
          rw [← HA.out, ← HX.out]
          go_at_call 11
          refine (hda.left (DiskAt.framed _ _ _ _) (lSync_any _ x d _ lb kk)).mono ?_
          rintro e w5 ⟨rfl, hj5, hd5⟩
          clear hda
          go_wp2_with (go_at_call 34; refine (hd5.right (LogAt.framed _ _ _ _ _) (rSync_any _ r lb kk)).mono ?_; rintro e w6 ⟨rfl, hj6, hd6⟩)
          have hj := hj5.trans hj6
          clear hd5
          obtain ⟨V9, hL9, hV9⟩ := hd6.get1
          obtain ⟨U9, hR9, hU9⟩ := hd6.get2
          obtain ⟨_, hk9, hl9, v9, hB9, hO9⟩ := id hR9
          obtain ⟨A9, c9, rfl, hRd9, _, _⟩ := hO9.reads
          have hLL : ∀ w1, Grow w6 w1 → LogAt x d (n : Int) lb lb.length w1 V9 := fun w1 hg => LogAt.framed _ _ _ _ _ _ _ V9 hL9 fun b hb => hg.block b (hV9 b hb).2
          have hsub : IntKind.i64.wrap ((lb.length : Int) - (lb.length : Int)) = (lb.length : Int) - (lb.length : Int) := by rw [IntKind.wrap_i64]; omega
          have hb9 := hbla.trans (hj.below (B := w.heap.size) (fun b hb => hb.1) hbla.size)
          go_wp2_with fail
          refine wp_region_flow 40 166 [(1, .inl (.int .i64 (n : Int))), (6, .inl (.int .i64 (lb.length : Int))), (16, .inr (fun _ => IsBytes lb)), (27, .inl (.int .i64 ((lb.length : Int) - (lb.length : Int))))] rfl rfl (by kernel_rfl) (by kernel_rfl) (by kernel_rfl) ?_ ?_
          · intro x hx φ he
            simp only [List.mem_cons, List.not_mem_nil, or_false] at hx
            rcases hx with rfl | rfl | rfl | rfl <;> cases he
            all_goals first | exact lasts_quiet (lasting_bytes _) | fail
          intro ops' A' K' T hops hA' hK hT
          refine fl_mv 124 (by rfl) (by decide) (wanted_none (by rfl)) (by rw [hK.out]; rfl) (by rfl) _ (Or.inl (by rfl)) (.pointer (some ⟨x, 0, none⟩)) (by rfl) ?_
          refine fl_call 125 (by rfl) (by decide) (wanted_none (by rfl)) (.int .i64 (n : Int)) (by rw [hK.out]; rfl) 14 _ _ (by rfl) [.pointer (some ⟨x, 0, none⟩)] (by rfl) k14 (fun kk w1 (hg : Grow _ w1) hb hf => calls_behind (by rfl) (by exact grew_same (lLen_any w1 x d _ _ _ V9 (hLL w1 hg)))) ?_
          refine fl_mv 126 (by rfl) (by decide) (wanted_none (by rfl)) (by rw [hK.out]; rfl) (by rfl) _ (Or.inl (by rfl)) (.int .i64 (n : Int)) (by rfl) ?_
          refine fl_op2 127 (by rfl) (by decide) (wanted_none (by rfl)) (by rw [hK.out]; rfl) (by rfl) (.tmp 125) (.tmp 126) (.int .i64 (n : Int)) (.int .i64 (n : Int)) (by rfl) (by rfl) (.bool false) (fun ρ h1 h2 kk w1 (hg : Grow _ w1) hb hf => by go_simp) ?_
          refine fl_mv 128 (by rfl) (by decide) (wanted_none (by rfl)) (by rw [hK.out]; rfl) (by rfl) _ (Or.inl (by rfl)) (.bool false) (by rfl) ?_
          refine fl_mv 129 (by rfl) (by decide) (wanted_if hops 4 false (by rfl) 128 (by rfl) false (by rfl)) (by rw [hK.out]; rfl) (by rfl) _ (Or.inl (by rfl)) (.pointer (some ⟨x, 0, none⟩)) (by rfl) ?_
          refine fl_call 130 (by rfl) (by decide) (wanted_if hops 4 false (by rfl) 128 (by rfl) false (by rfl)) (.int .i64 (lb.length : Int)) (by rw [hK.out]; rfl) 17 _ _ (by rfl) [.pointer (some ⟨x, 0, none⟩)] (by rfl) k17 (fun kk w1 (hg : Grow _ w1) hb hf => calls_behind (by rfl) (by exact grew_same (lBytes_any w1 x d _ _ _ V9 (hLL w1 hg)))) ?_
          refine fl_mv 131 (by rfl) (by decide) (wanted_if hops 4 false (by rfl) 128 (by rfl) false (by rfl)) (by rw [hK.out]; rfl) (by rfl) _ (Or.inl (by rfl)) (.pointer (some ⟨r, 0, none⟩)) (by rfl) ?_
          refine fl_op1 132 (by rfl) (by decide) (wanted_if hops 4 false (by rfl) 128 (by rfl) false (by rfl)) (by rw [hK.out]; rfl) (by rfl) (.tmp 131) (.pointer (some ⟨r, 0, none⟩)) (by rfl) (.pointer (some ⟨r, 0, none⟩)) (fun ρ h1 kk w1 (hg : Grow _ w1) hb hf => by go_simp) ?_
          refine fl_op1 133 (by rfl) (by decide) (wanted_if hops 4 false (by rfl) 128 (by rfl) false (by rfl)) (by rw [hK.out]; rfl) (by rfl) (.tmp 132) (.pointer (some ⟨r, 0, none⟩)) (by rfl) (.pointer (some ⟨r, 0, none⟩)) (fun ρ h1 kk w1 (hg : Grow _ w1) hb hf => by go_simp) ?_
          refine fl_op1 134 (by rfl) (by decide) (wanted_if hops 4 false (by rfl) 128 (by rfl) false (by rfl)) (by rw [hK.out]; rfl) (by rfl) (.tmp 133) (.pointer (some ⟨r, 0, none⟩)) (by rfl) (.slice A9 lb.length c9) (fun ρ h1 kk w1 (hg : Grow _ w1) hb hf => by have c := (hB9.grow hg).cell 0; go_simp) ?_
          refine fl_op1 135 (by rfl) (by decide) (wanted_if hops 4 false (by rfl) 128 (by rfl) false (by rfl)) (by rw [hK.out]; rfl) (by rfl) (.tmp 134) (.slice A9 lb.length c9) (by rfl) (.int .i64 (lb.length : Int)) (fun ρ h1 kk w1 (hg : Grow _ w1) hb hf => by go_simp) ?_
          refine fl_op2 136 (by rfl) (by decide) (wanted_if hops 4 false (by rfl) 128 (by rfl) false (by rfl)) (by rw [hK.out]; rfl) (by rfl) (.tmp 130) (.tmp 135) (.int .i64 (lb.length : Int)) (.int .i64 (lb.length : Int)) (by rfl) (by rfl) (.bool false) (fun ρ h1 h2 kk w1 (hg : Grow _ w1) hb hf => by go_simp) ?_
          refine fl_pick 137 (by rfl) (by decide) (wanted_none (by rfl)) (by rw [hK.out]; rfl) (by rfl) _ _ _ (by rfl) false (by rfl) (.bool false) (by rfl) ?_
          refine fl_mv 138 (by rfl) (by decide) (wanted_none (by rfl)) (by rw [hK.out]; rfl) (by rfl) _ (Or.inl (by rfl)) (.bool false) (by rfl) ?_
          refine fl_mv 139 (by rfl) (by decide) (wanted_if hops 14 false (by rfl) 138 (by rfl) false (by rfl)) (by rw [hK.out]; rfl) (by rfl) _ (Or.inl (by rfl)) (.pointer (some ⟨d, 0, none⟩)) (by rfl) ?_
          refine fl_callAny 140 (by rfl) (by decide) (wanted_if hops 14 false (by rfl) 138 (by rfl) false (by rfl)) (fun _ => IsBytes lb) (by rw [hK.out]; rfl) 21 _ _ (by rfl) [.pointer (some ⟨d, 0, none⟩)] (by rfl) k21 (fun kk w1 (hg : Grow _ w1) hb hf => calls_behindAny (φ := fun _ => IsBytes lb) (by rfl) (by exact All_is w1 d _ _ V9 (hLL w1 hg).disk)) (fun v140 => ?_)
          refine fl_op1 141 (by rfl) (by decide) (wanted_if hops 14 false (by rfl) 138 (by rfl) false (by rfl)) (by rw [hK.out]; rfl) (by rfl) (.tmp 140) (v140) (by rfl) (.string ⟨lb.toArray⟩) (fun ρ h1 kk w1 (hg : Grow _ w1) hb hf => by have cv := conv_is w1 (facts_take hf (by rw [hA'.out]; kernel_rfl)); go_simp) ?_
          refine fl_mv 142 (by rfl) (by decide) (wanted_if hops 14 false (by rfl) 138 (by rfl) false (by rfl)) (by rw [hK.out]; rfl) (by rfl) _ (Or.inl (by rfl)) (.pointer (some ⟨r, 0, none⟩)) (by rfl) ?_
          refine fl_op1 143 (by rfl) (by decide) (wanted_if hops 14 false (by rfl) 138 (by rfl) false (by rfl)) (by rw [hK.out]; rfl) (by rfl) (.tmp 142) (.pointer (some ⟨r, 0, none⟩)) (by rfl) (.pointer (some ⟨r, 0, none⟩)) (fun ρ h1 kk w1 (hg : Grow _ w1) hb hf => by go_simp) ?_
          refine fl_op1 144 (by rfl) (by decide) (wanted_if hops 14 false (by rfl) 138 (by rfl) false (by rfl)) (by rw [hK.out]; rfl) (by rfl) (.tmp 143) (.pointer (some ⟨r, 0, none⟩)) (by rfl) (.pointer (some ⟨r, 0, none⟩)) (fun ρ h1 kk w1 (hg : Grow _ w1) hb hf => by go_simp) ?_
          refine fl_op1 145 (by rfl) (by decide) (wanted_if hops 14 false (by rfl) 138 (by rfl) false (by rfl)) (by rw [hK.out]; rfl) (by rfl) (.tmp 144) (.pointer (some ⟨r, 0, none⟩)) (by rfl) (.slice A9 lb.length c9) (fun ρ h1 kk w1 (hg : Grow _ w1) hb hf => by have c := (hB9.grow hg).cell 0; go_simp) ?_
          refine fl_op1 146 (by rfl) (by decide) (wanted_if hops 14 false (by rfl) 138 (by rfl) false (by rfl)) (by rw [hK.out]; rfl) (by rfl) (.tmp 145) (.slice A9 lb.length c9) (by rfl) (.string ⟨lb.toArray⟩) (fun ρ h1 kk w1 (hg : Grow _ w1) hb hf => by have cv := conv_bytes w1 (c := c9) (hRd9.below hg); go_simp) ?_
          refine fl_op2 147 (by rfl) (by decide) (wanted_if hops 14 false (by rfl) 138 (by rfl) false (by rfl)) (by rw [hK.out]; rfl) (by rfl) (.tmp 141) (.tmp 146) (.string ⟨lb.toArray⟩) (.string ⟨lb.toArray⟩) (by rfl) (by rfl) (.bool false) (fun ρ h1 h2 kk w1 (hg : Grow _ w1) hb hf => by go_simp) ?_
          refine fl_pick 148 (by rfl) (by decide) (wanted_none (by rfl)) (by rw [hK.out]; rfl) (by rfl) _ _ _ (by rfl) false (by rfl) (.bool false) (by rfl) ?_
          refine fl_mv 149 (by rfl) (by decide) (wanted_none (by rfl)) (by rw [hK.out]; rfl) (by rfl) _ (Or.inl (by rfl)) (.bool false) (by rfl) ?_
          refine fl_mv 150 (by rfl) (by decide) (wanted_if hops 25 false (by rfl) 149 (by rfl) false (by rfl)) (by rw [hK.out]; rfl) (by rfl) _ (Or.inl (by rfl)) (.pointer (some ⟨d, 0, none⟩)) (by rfl) ?_
          refine fl_call 151 (by rfl) (by decide) (wanted_if hops 25 false (by rfl) 149 (by rfl) false (by rfl)) (.int .i64 ((lb.length : Int) - (lb.length : Int))) (by rw [hK.out]; rfl) 26 _ _ (by rfl) [.pointer (some ⟨d, 0, none⟩)] (by rfl) k26 (fun kk w1 (hg : Grow _ w1) hb hf => calls_behind (by rfl) (by exact Waits_any w1 d _ _ V9 (hLL w1 hg).disk)) ?_
          refine fl_mv 152 (by rfl) (by decide) (wanted_if hops 25 false (by rfl) 149 (by rfl) false (by rfl)) (by rw [hK.out]; rfl) (by rfl) _ (Or.inl (by rfl)) (.pointer (some ⟨r, 0, none⟩)) (by rfl) ?_
          refine fl_op1 153 (by rfl) (by decide) (wanted_if hops 25 false (by rfl) 149 (by rfl) false (by rfl)) (by rw [hK.out]; rfl) (by rfl) (.tmp 152) (.pointer (some ⟨r, 0, none⟩)) (by rfl) (.pointer (some ⟨r, 0, none⟩)) (fun ρ h1 kk w1 (hg : Grow _ w1) hb hf => by go_simp) ?_
          refine fl_op1 154 (by rfl) (by decide) (wanted_if hops 25 false (by rfl) 149 (by rfl) false (by rfl)) (by rw [hK.out]; rfl) (by rfl) (.tmp 153) (.pointer (some ⟨r, 0, none⟩)) (by rfl) (.pointer (some ⟨r, 0, none⟩)) (fun ρ h1 kk w1 (hg : Grow _ w1) hb hf => by go_simp) ?_
          refine fl_op1 155 (by rfl) (by decide) (wanted_if hops 25 false (by rfl) 149 (by rfl) false (by rfl)) (by rw [hK.out]; rfl) (by rfl) (.tmp 154) (.pointer (some ⟨r, 0, none⟩)) (by rfl) (.slice A9 lb.length c9) (fun ρ h1 kk w1 (hg : Grow _ w1) hb hf => by have c := (hB9.grow hg).cell 0; go_simp) ?_
          refine fl_op1 156 (by rfl) (by decide) (wanted_if hops 25 false (by rfl) 149 (by rfl) false (by rfl)) (by rw [hK.out]; rfl) (by rfl) (.tmp 155) (.slice A9 lb.length c9) (by rfl) (.int .i64 (lb.length : Int)) (fun ρ h1 kk w1 (hg : Grow _ w1) hb hf => by go_simp) ?_
          refine fl_mv 157 (by rfl) (by decide) (wanted_if hops 25 false (by rfl) 149 (by rfl) false (by rfl)) (by rw [hK.out]; rfl) (by rfl) _ (Or.inl (by rfl)) (.pointer (some ⟨r, 0, none⟩)) (by rfl) ?_
          refine fl_op1 158 (by rfl) (by decide) (wanted_if hops 25 false (by rfl) 149 (by rfl) false (by rfl)) (by rw [hK.out]; rfl) (by rfl) (.tmp 157) (.pointer (some ⟨r, 0, none⟩)) (by rfl) (.pointer (some ⟨r, 0, none⟩)) (fun ρ h1 kk w1 (hg : Grow _ w1) hb hf => by go_simp) ?_
          refine fl_op1 159 (by rfl) (by decide) (wanted_if hops 25 false (by rfl) 149 (by rfl) false (by rfl)) (by rw [hK.out]; rfl) (by rfl) (.tmp 158) (.pointer (some ⟨r, 0, none⟩)) (by rfl) (.pointer (some ⟨r, 1, none⟩)) (fun ρ h1 kk w1 (hg : Grow _ w1) hb hf => by go_simp) ?_
          refine fl_op1 160 (by rfl) (by decide) (wanted_if hops 25 false (by rfl) 149 (by rfl) false (by rfl)) (by rw [hK.out]; rfl) (by rfl) (.tmp 159) (.pointer (some ⟨r, 1, none⟩)) (by rfl) (.int .i64 (lb.length : Int)) (fun ρ h1 kk w1 (hg : Grow _ w1) hb hf => by have c := (hB9.grow hg).cell 1; go_simp) ?_
          refine fl_op2 161 (by rfl) (by decide) (wanted_if hops 25 false (by rfl) 149 (by rfl) false (by rfl)) (by rw [hK.out]; rfl) (by rfl) (.tmp 156) (.tmp 160) (.int .i64 (lb.length : Int)) (.int .i64 (lb.length : Int)) (by rfl) (by rfl) (.int .i64 ((lb.length : Int) - (lb.length : Int))) (fun ρ h1 h2 kk w1 (hg : Grow _ w1) hb hf => by go_simp; try rfl) ?_
          refine fl_op2 162 (by rfl) (by decide) (wanted_if hops 25 false (by rfl) 149 (by rfl) false (by rfl)) (by rw [hK.out]; rfl) (by rfl) (.tmp 151) (.tmp 161) (.int .i64 ((lb.length : Int) - (lb.length : Int))) (.int .i64 ((lb.length : Int) - (lb.length : Int))) (by rfl) (by rfl) (.bool false) (fun ρ h1 h2 kk w1 (hg : Grow _ w1) hb hf => by go_simp) ?_
          refine fl_pick 163 (by rfl) (by decide) (wanted_none (by rfl)) (by rw [hK.out]; rfl) (by rfl) _ _ _ (by rfl) false (by rfl) (.bool false) (by rfl) ?_
          refine fl_end (fun _ _ w1 (hg : Grow _ w1) _ hfacts => hT _ _ ?_)
          clear hops hA' hK hT
          simp only [putsL, Act.put, List.setIfInBounds_toArray, List.set_cons_zero, List.set_cons_succ, List.drop_succ_cons, List.drop_zero]
          clear hfacts
          have hdz := (hd6.grow (LogAt.framed _ _ _ _ _) (DiskAt.framed _ _ _ _) hg).wide (P' := fun b => w.heap.size ≤ b) (fun b hb => hb.1)
          have hbz := below_trans hb9 hg hb9.size
          clear hLL hL9 hR9 hB9 hO9 hRd9
          go_wp2_with fail
          go_roundw
          case rel => exact ⟨k + 1, x, n, lb, lb.length, by omega, by omega, rfl, by first | rfl | go_num, by go_num, by omega, by omega, hdz, hbz⟩
          case measure => simp [intOf]; omega
        · by_cases h4 : kd = 4
          · subst h4
            go_wp2_with fail
            rw [← HA.out, ← HX.out]
            refine wp_region_reg rfl ?_
            refine reg_flow (DuoSt (Past w.heap.size a) (LogAt x d n lb kk) (LogAt x d n (lb.take (kk + keepN lb kk N)) (kk + keepN lb kk N)) (DiskAt 61 r lb kk) (DiskAt 61 r (lb.take (kk + keepN lb kk N)) (kk + keepN lb kk N)) 3 7) (duoSt_ok (LogAt.framed _ _ _ _ _) (LogAt.framed _ _ _ _ _) (DiskAt.framed _ _ _ _) (DiskAt.framed _ _ _ _)) 0 9 166 [(3, .inl (.int .i64 ((lb.length : Int) - (kk : Int) - (keepN lb kk N : Int)))), (7, .inl (.int .i64 ((lb.length : Int) - (kk : Int) - (keepN lb kk N : Int))))] rfl (by kernel_rfl) (by kernel_rfl) (by kernel_rfl) ?_ (Just.of_grow (Grow.refl _).drew) hda ?_
            · intro x hx φ he
              simp only [List.mem_cons, List.not_mem_nil, or_false] at hx
              rcases hx with rfl | rfl <;> cases he
            intro ops' A' K' T hops hA' hK hT
            refine fl_mv 98 (by rfl) (by decide) (wanted_none (by rfl)) (by rw [hK.out]; rfl) (by rfl) _ (Or.inl (by rfl)) (.pointer (some ⟨d, 0, none⟩)) (by rfl) ?_
            refine fl_op1 99 (by rfl) (by decide) (wanted_none (by rfl)) (by rw [hK.out]; rfl) (by rfl) (.tmp 14) (.pointer (some ⟨a, 0, none⟩)) (by rfl) (.pointer (some ⟨a, 2, none⟩)) (fun ρ h1 kk w1 (hg : Just (Past w.heap.size a) _ w1) hb hf => by go_simp) ?_
            refine fl_op1 100 (by rfl) (by decide) (wanted_none (by rfl)) (by rw [hK.out]; rfl) (by rfl) (.tmp 99) (.pointer (some ⟨a, 2, none⟩)) (by rfl) (.int .i64 N) (fun ρ h1 kk w1 (hg : Just (Past w.heap.size a) _ w1) hb hf => by have c := (hg.blk hBa (fun h => h.2 rfl)).cell 2; go_simp) ?_
            refine fl_call 101 (by rfl) (by decide) (wanted_none (by rfl)) (.int .i64 ((lb.length : Int) - (kk : Int) - (keepN lb kk N : Int))) (by rw [hK.out]; rfl) 13 _ _ (by rfl) [.pointer (some ⟨d, 0, none⟩), .int .i64 N] (by rfl) k13 (fun kk w1 (hg : Just (Past w.heap.size a) _ w1) hb hf => calls_turn 0 (by rfl) (by obtain rfl := before_some 0 (by rfl) hb; have hI := hb.1; exact hI.left (DiskAt.framed _ _ _ _) (LogAt.turn (Crash_any w1 d lb kk N hN)))) ?_
            refine fl_mv 102 (by rfl) (by decide) (wanted_none (by rfl)) (by rw [hK.out]; rfl) (by rfl) _ (Or.inl (by rfl)) (.pointer (some ⟨r, 0, none⟩)) (by rfl) ?_
            refine fl_op1 103 (by rfl) (by decide) (wanted_none (by rfl)) (by rw [hK.out]; rfl) (by rfl) (.tmp 14) (.pointer (some ⟨a, 0, none⟩)) (by rfl) (.pointer (some ⟨a, 2, none⟩)) (fun ρ h1 kk w1 (hg : Just (Past w.heap.size a) _ w1) hb hf => by go_simp) ?_
            refine fl_op1 104 (by rfl) (by decide) (wanted_none (by rfl)) (by rw [hK.out]; rfl) (by rfl) (.tmp 103) (.pointer (some ⟨a, 2, none⟩)) (by rfl) (.int .i64 N) (fun ρ h1 kk w1 (hg : Just (Past w.heap.size a) _ w1) hb hf => by have c := (hg.blk hBa (fun h => h.2 rfl)).cell 2; go_simp) ?_
            refine fl_call 105 (by rfl) (by decide) (wanted_none (by rfl)) (.int .i64 ((lb.length : Int) - (kk : Int) - (keepN lb kk N : Int))) (by rw [hK.out]; rfl) 35 _ _ (by rfl) [.pointer (some ⟨r, 0, none⟩), .int .i64 N] (by rfl) k35 (fun kk w1 (hg : Just (Past w.heap.size a) _ w1) hb hf => calls_turn 1 (by rfl) (by obtain rfl := before_some 1 (by rfl) hb; have hI := hb.1; exact hI.right (LogAt.framed _ _ _ _ _) (rCrash_any w1 r lb kk N hN))) ?_
            refine fl_op2 106 (by rfl) (by decide) (wanted_none (by rfl)) (by rw [hK.out]; rfl) (by rfl) (.tmp 101) (.tmp 105) (.int .i64 ((lb.length : Int) - (kk : Int) - (keepN lb kk N : Int))) (.int .i64 ((lb.length : Int) - (kk : Int) - (keepN lb kk N : Int))) (by rfl) (by rfl) (.bool false) (fun ρ h1 h2 kk w1 (hg : Just (Past w.heap.size a) _ w1) hb hf => by go_simp) ?_
            refine fl_end (fun _ _ w1 (hg : Just (Past w.heap.size a) _ w1) hend hfacts => hT _ _ ?_)
            clear hops hA' hK hT
            simp only [putsL, Act.put, List.setIfInBounds_toArray, List.set_cons_zero, List.set_cons_succ]
            refine reg_end ?_
            have hd5 : Duo (Past w.heap.size a) (LogAt x d (n : Int) (lb.take (kk + keepN lb kk N)) (kk + keepN lb kk N)) (DiskAt 61 r (lb.take (kk + keepN lb kk N)) (kk + keepN lb kk N)) w1 := hend
            clear hend hfacts hda
            have hc6 := open_both (fun _ _ h => LogAt.disk h) (DiskAt.framed _ _ _ _) hd5
            go_wp2_with fail
            refine hc6.mono ?_
            rintro e w5 ⟨ys, j, y, u5, hsc, rfl, hj5, hd6⟩
            have hc7 := ropen_both (With.framed (LogAt.framed _ _ _ _ _) _ _) hd6
            clear hc6 hd5
            go_wp2_with fail
            refine hc7.mono ?_
            rintro e w6 ⟨zs, j6, u6, hS, rfl, hj6, hd7⟩
            obtain ⟨rfl, rfl⟩ := hsc.one hS
            obtain ⟨D1, D2, hx1, hx2⟩ := both_rows hd7
            obtain ⟨A6, c6, rfl, _, _, _⟩ := hx2.at_
            have hfl := frames_len ys
            have hjl : j ≤ (lb.take (kk + keepN lb kk N)).length := by rw [hsc.2.1, ← hsc.1, List.length_append]; omega
            have hcl : (lb.take (kk + keepN lb kk N)).length ≤ 1048576 := by rw [List.length_take]; omega
            have hyl : ys.length ≤ 1048576 := by rw [hsc.2.1] at hjl; omega
            have hc8 := records_any w6 ys D1 D2 u5 _ hx1 hx2 (by omega)
            have hd7 := with_drop2 (with_drop hd7)
            have htl : ((lb.take (kk + keepN lb kk N)).take j).length ≤ 1048576 := by rw [List.length_take]; omega
            have hj8 := (hg.trans hj5).trans hj6
            clear hc7 hd6 hS hj6 hj5 hx1 hx2 hfl hjl hcl hsc
            generalize (lb.take (kk + keepN lb kk N)).take j = l9 at hd7 htl
            go_wp2_with fail
            refine hc8.mono ?_
            rintro e w8 ⟨rfl, hg8⟩
            have hd8 := hd7.grow (LogAt.framed _ _ _ _ _) (DiskAt.framed _ _ _ _) hg8
            have hj := hj8.trans (Just.of_grow hg8)
            clear hc8 hd7 hj8 hg8
            obtain ⟨V9, hL9, hV9⟩ := hd8.get1
            obtain ⟨U9, hR9, hU9⟩ := hd8.get2
            obtain ⟨_, hk9, hl9, v9, hB9, hO9⟩ := id hR9
            obtain ⟨A9, c9, rfl, hRd9, _, _⟩ := hO9.reads
            have hLL : ∀ w1, Grow w8 w1 → LogAt y d (ys.length : Int) l9 j w1 V9 := fun w1 hg => LogAt.framed _ _ _ _ _ _ _ V9 hL9 fun b hb => hg.block b (hV9 b hb).2
            have hsub : IntKind.i64.wrap ((l9.length : Int) - (j : Int)) = (l9.length : Int) - (j : Int) := by rw [IntKind.wrap_i64]; omega
            have hb9 := hbla.trans (hj.below (B := w.heap.size) (fun b hb => hb.1) hbla.size)
            go_wp2_with fail
            refine wp_region_flow 40 166 [(1, .inl (.int .i64 (ys.length : Int))), (6, .inl (.int .i64 (l9.length : Int))), (16, .inr (fun _ => IsBytes l9)), (27, .inl (.int .i64 ((l9.length : Int) - (j : Int))))] rfl rfl (by kernel_rfl) (by kernel_rfl) (by kernel_rfl) ?_ ?_
            · intro x hx φ he
              simp only [List.mem_cons, List.not_mem_nil, or_false] at hx
              rcases hx with rfl | rfl | rfl | rfl <;> cases he
              all_goals first | exact lasts_quiet (lasting_bytes _) | fail
            intro ops' A' K' T hops hA' hK hT
            refine fl_mv 124 (by rfl) (by decide) (wanted_none (by rfl)) (by rw [hK.out]; rfl) (by rfl) _ (Or.inl (by rfl)) (.pointer (some ⟨y, 0, none⟩)) (by rfl) ?_
            refine fl_call 125 (by rfl) (by decide) (wanted_none (by rfl)) (.int .i64 (ys.length : Int)) (by rw [hK.out]; rfl) 14 _ _ (by rfl) [.pointer (some ⟨y, 0, none⟩)] (by rfl) k14 (fun kk w1 (hg : Grow _ w1) hb hf => calls_behind (by rfl) (by exact grew_same (lLen_any w1 y d _ _ _ V9 (hLL w1 hg)))) ?_
            refine fl_mv 126 (by rfl) (by decide) (wanted_none (by rfl)) (by rw [hK.out]; rfl) (by rfl) _ (Or.inl (by rfl)) (.int .i64 (ys.length : Int)) (by rfl) ?_
            refine fl_op2 127 (by rfl) (by decide) (wanted_none (by rfl)) (by rw [hK.out]; rfl) (by rfl) (.tmp 125) (.tmp 126) (.int .i64 (ys.length : Int)) (.int .i64 (ys.length : Int)) (by rfl) (by rfl) (.bool false) (fun ρ h1 h2 kk w1 (hg : Grow _ w1) hb hf => by go_simp) ?_
            refine fl_mv 128 (by rfl) (by decide) (wanted_none (by rfl)) (by rw [hK.out]; rfl) (by rfl) _ (Or.inl (by rfl)) (.bool false) (by rfl) ?_
            refine fl_mv 129 (by rfl) (by decide) (wanted_if hops 4 false (by rfl) 128 (by rfl) false (by rfl)) (by rw [hK.out]; rfl) (by rfl) _ (Or.inl (by rfl)) (.pointer (some ⟨y, 0, none⟩)) (by rfl) ?_
            refine fl_call 130 (by rfl) (by decide) (wanted_if hops 4 false (by rfl) 128 (by rfl) false (by rfl)) (.int .i64 (l9.length : Int)) (by rw [hK.out]; rfl) 17 _ _ (by rfl) [.pointer (some ⟨y, 0, none⟩)] (by rfl) k17 (fun kk w1 (hg : Grow _ w1) hb hf => calls_behind (by rfl) (by exact grew_same (lBytes_any w1 y d _ _ _ V9 (hLL w1 hg)))) ?_
            refine fl_mv 131 (by rfl) (by decide) (wanted_if hops 4 false (by rfl) 128 (by rfl) false (by rfl)) (by rw [hK.out]; rfl) (by rfl) _ (Or.inl (by rfl)) (.pointer (some ⟨r, 0, none⟩)) (by rfl) ?_
            refine fl_op1 132 (by rfl) (by decide) (wanted_if hops 4 false (by rfl) 128 (by rfl) false (by rfl)) (by rw [hK.out]; rfl) (by rfl) (.tmp 131) (.pointer (some ⟨r, 0, none⟩)) (by rfl) (.pointer (some ⟨r, 0, none⟩)) (fun ρ h1 kk w1 (hg : Grow _ w1) hb hf => by go_simp) ?_
            refine fl_op1 133 (by rfl) (by decide) (wanted_if hops 4 false (by rfl) 128 (by rfl) false (by rfl)) (by rw [hK.out]; rfl) (by rfl) (.tmp 132) (.pointer (some ⟨r, 0, none⟩)) (by rfl) (.pointer (some ⟨r, 0, none⟩)) (fun ρ h1 kk w1 (hg : Grow _ w1) hb hf => by go_simp) ?_
            refine fl_op1 134 (by rfl) (by decide) (wanted_if hops 4 false (by rfl) 128 (by rfl) false (by rfl)) (by rw [hK.out]; rfl) (by rfl) (.tmp 133) (.pointer (some ⟨r, 0, none⟩)) (by rfl) (.slice A9 l9.length c9) (fun ρ h1 kk w1 (hg : Grow _ w1) hb hf => by have c := (hB9.grow hg).cell 0; go_simp) ?_
            refine fl_op1 135 (by rfl) (by decide) (wanted_if hops 4 false (by rfl) 128 (by rfl) false (by rfl)) (by rw [hK.out]; rfl) (by rfl) (.tmp 134) (.slice A9 l9.length c9) (by rfl) (.int .i64 (l9.length : Int)) (fun ρ h1 kk w1 (hg : Grow _ w1) hb hf => by go_simp) ?_
            refine fl_op2 136 (by rfl) (by decide) (wanted_if hops 4 false (by rfl) 128 (by rfl) false (by rfl)) (by rw [hK.out]; rfl) (by rfl) (.tmp 130) (.tmp 135) (.int .i64 (l9.length : Int)) (.int .i64 (l9.length : Int)) (by rfl) (by rfl) (.bool false) (fun ρ h1 h2 kk w1 (hg : Grow _ w1) hb hf => by go_simp) ?_
            refine fl_pick 137 (by rfl) (by decide) (wanted_none (by rfl)) (by rw [hK.out]; rfl) (by rfl) _ _ _ (by rfl) false (by rfl) (.bool false) (by rfl) ?_
            refine fl_mv 138 (by rfl) (by decide) (wanted_none (by rfl)) (by rw [hK.out]; rfl) (by rfl) _ (Or.inl (by rfl)) (.bool false) (by rfl) ?_
            refine fl_mv 139 (by rfl) (by decide) (wanted_if hops 14 false (by rfl) 138 (by rfl) false (by rfl)) (by rw [hK.out]; rfl) (by rfl) _ (Or.inl (by rfl)) (.pointer (some ⟨d, 0, none⟩)) (by rfl) ?_
            refine fl_callAny 140 (by rfl) (by decide) (wanted_if hops 14 false (by rfl) 138 (by rfl) false (by rfl)) (fun _ => IsBytes l9) (by rw [hK.out]; rfl) 21 _ _ (by rfl) [.pointer (some ⟨d, 0, none⟩)] (by rfl) k21 (fun kk w1 (hg : Grow _ w1) hb hf => calls_behindAny (φ := fun _ => IsBytes l9) (by rfl) (by exact All_is w1 d _ _ V9 (hLL w1 hg).disk)) (fun v140 => ?_)
            refine fl_op1 141 (by rfl) (by decide) (wanted_if hops 14 false (by rfl) 138 (by rfl) false (by rfl)) (by rw [hK.out]; rfl) (by rfl) (.tmp 140) (v140) (by rfl) (.string ⟨l9.toArray⟩) (fun ρ h1 kk w1 (hg : Grow _ w1) hb hf => by have cv := conv_is w1 (facts_take hf (by rw [hA'.out]; kernel_rfl)); go_simp) ?_
            refine fl_mv 142 (by rfl) (by decide) (wanted_if hops 14 false (by rfl) 138 (by rfl) false (by rfl)) (by rw [hK.out]; rfl) (by rfl) _ (Or.inl (by rfl)) (.pointer (some ⟨r, 0, none⟩)) (by rfl) ?_
            refine fl_op1 143 (by rfl) (by decide) (wanted_if hops 14 false (by rfl) 138 (by rfl) false (by rfl)) (by rw [hK.out]; rfl) (by rfl) (.tmp 142) (.pointer (some ⟨r, 0, none⟩)) (by rfl) (.pointer (some ⟨r, 0, none⟩)) (fun ρ h1 kk w1 (hg : Grow _ w1) hb hf => by go_simp) ?_
            refine fl_op1 144 (by rfl) (by decide) (wanted_if hops 14 false (by rfl) 138 (by rfl) false (by rfl)) (by rw [hK.out]; rfl) (by rfl) (.tmp 143) (.pointer (some ⟨r, 0, none⟩)) (by rfl) (.pointer (some ⟨r, 0, none⟩)) (fun ρ h1 kk w1 (hg : Grow _ w1) hb hf => by go_simp) ?_
            refine fl_op1 145 (by rfl) (by decide) (wanted_if hops 14 false (by rfl) 138 (by rfl) false (by rfl)) (by rw [hK.out]; rfl) (by rfl) (.tmp 144) (.pointer (some ⟨r, 0, none⟩)) (by rfl) (.slice A9 l9.length c9) (fun ρ h1 kk w1 (hg : Grow _ w1) hb hf => by have c := (hB9.grow hg).cell 0; go_simp) ?_
            refine fl_op1 146 (by rfl) (by decide) (wanted_if hops 14 false (by rfl) 138 (by rfl) false (by rfl)) (by rw [hK.out]; rfl) (by rfl) (.tmp 145) (.slice A9 l9.length c9) (by rfl) (.string ⟨l9.toArray⟩) (fun ρ h1 kk w1 (hg : Grow _ w1) hb hf => by have cv := conv_bytes w1 (c := c9) (hRd9.below hg); go_simp) ?_
            refine fl_op2 147 (by rfl) (by decide) (wanted_if hops 14 false (by rfl) 138 (by rfl) false (by rfl)) (by rw [hK.out]; rfl) (by rfl) (.tmp 141) (.tmp 146) (.string ⟨l9.toArray⟩) (.string ⟨l9.toArray⟩) (by rfl) (by rfl) (.bool false) (fun ρ h1 h2 kk w1 (hg : Grow _ w1) hb hf => by go_simp) ?_
            refine fl_pick 148 (by rfl) (by decide) (wanted_none (by rfl)) (by rw [hK.out]; rfl) (by rfl) _ _ _ (by rfl) false (by rfl) (.bool false) (by rfl) ?_
            refine fl_mv 149 (by rfl) (by decide) (wanted_none (by rfl)) (by rw [hK.out]; rfl) (by rfl) _ (Or.inl (by rfl)) (.bool false) (by rfl) ?_
            refine fl_mv 150 (by rfl) (by decide) (wanted_if hops 25 false (by rfl) 149 (by rfl) false (by rfl)) (by rw [hK.out]; rfl) (by rfl) _ (Or.inl (by rfl)) (.pointer (some ⟨d, 0, none⟩)) (by rfl) ?_
            refine fl_call 151 (by rfl) (by decide) (wanted_if hops 25 false (by rfl) 149 (by rfl) false (by rfl)) (.int .i64 ((l9.length : Int) - (j : Int))) (by rw [hK.out]; rfl) 26 _ _ (by rfl) [.pointer (some ⟨d, 0, none⟩)] (by rfl) k26 (fun kk w1 (hg : Grow _ w1) hb hf => calls_behind (by rfl) (by exact Waits_any w1 d _ _ V9 (hLL w1 hg).disk)) ?_
            refine fl_mv 152 (by rfl) (by decide) (wanted_if hops 25 false (by rfl) 149 (by rfl) false (by rfl)) (by rw [hK.out]; rfl) (by rfl) _ (Or.inl (by rfl)) (.pointer (some ⟨r, 0, none⟩)) (by rfl) ?_
            refine fl_op1 153 (by rfl) (by decide) (wanted_if hops 25 false (by rfl) 149 (by rfl) false (by rfl)) (by rw [hK.out]; rfl) (by rfl) (.tmp 152) (.pointer (some ⟨r, 0, none⟩)) (by rfl) (.pointer (some ⟨r, 0, none⟩)) (fun ρ h1 kk w1 (hg : Grow _ w1) hb hf => by go_simp) ?_
            refine fl_op1 154 (by rfl) (by decide) (wanted_if hops 25 false (by rfl) 149 (by rfl) false (by rfl)) (by rw [hK.out]; rfl) (by rfl) (.tmp 153) (.pointer (some ⟨r, 0, none⟩)) (by rfl) (.pointer (some ⟨r, 0, none⟩)) (fun ρ h1 kk w1 (hg : Grow _ w1) hb hf => by go_simp) ?_
            refine fl_op1 155 (by rfl) (by decide) (wanted_if hops 25 false (by rfl) 149 (by rfl) false (by rfl)) (by rw [hK.out]; rfl) (by rfl) (.tmp 154) (.pointer (some ⟨r, 0, none⟩)) (by rfl) (.slice A9 l9.length c9) (fun ρ h1 kk w1 (hg : Grow _ w1) hb hf => by have c := (hB9.grow hg).cell 0; go_simp) ?_
            refine fl_op1 156 (by rfl) (by decide) (wanted_if hops 25 false (by rfl) 149 (by rfl) false (by rfl)) (by rw [hK.out]; rfl) (by rfl) (.tmp 155) (.slice A9 l9.length c9) (by rfl) (.int .i64 (l9.length : Int)) (fun ρ h1 kk w1 (hg : Grow _ w1) hb hf => by go_simp) ?_
            refine fl_mv 157 (by rfl) (by decide) (wanted_if hops 25 false (by rfl) 149 (by rfl) false (by rfl)) (by rw [hK.out]; rfl) (by rfl) _ (Or.inl (by rfl)) (.pointer (some ⟨r, 0, none⟩)) (by rfl) ?_
            refine fl_op1 158 (by rfl) (by decide) (wanted_if hops 25 false (by rfl) 149 (by rfl) false (by rfl)) (by rw [hK.out]; rfl) (by rfl) (.tmp 157) (.pointer (some ⟨r, 0, none⟩)) (by rfl) (.pointer (some ⟨r, 0, none⟩)) (fun ρ h1 kk w1 (hg : Grow _ w1) hb hf => by go_simp) ?_
            refine fl_op1 159 (by rfl) (by decide) (wanted_if hops 25 false (by rfl) 149 (by rfl) false (by rfl)) (by rw [hK.out]; rfl) (by rfl) (.tmp 158) (.pointer (some ⟨r, 0, none⟩)) (by rfl) (.pointer (some ⟨r, 1, none⟩)) (fun ρ h1 kk w1 (hg : Grow _ w1) hb hf => by go_simp) ?_
            refine fl_op1 160 (by rfl) (by decide) (wanted_if hops 25 false (by rfl) 149 (by rfl) false (by rfl)) (by rw [hK.out]; rfl) (by rfl) (.tmp 159) (.pointer (some ⟨r, 1, none⟩)) (by rfl) (.int .i64 (j : Int)) (fun ρ h1 kk w1 (hg : Grow _ w1) hb hf => by have c := (hB9.grow hg).cell 1; go_simp) ?_
            refine fl_op2 161 (by rfl) (by decide) (wanted_if hops 25 false (by rfl) 149 (by rfl) false (by rfl)) (by rw [hK.out]; rfl) (by rfl) (.tmp 156) (.tmp 160) (.int .i64 (l9.length : Int)) (.int .i64 (j : Int)) (by rfl) (by rfl) (.int .i64 ((l9.length : Int) - (j : Int))) (fun ρ h1 h2 kk w1 (hg : Grow _ w1) hb hf => by go_simp; try rfl) ?_
            refine fl_op2 162 (by rfl) (by decide) (wanted_if hops 25 false (by rfl) 149 (by rfl) false (by rfl)) (by rw [hK.out]; rfl) (by rfl) (.tmp 151) (.tmp 161) (.int .i64 ((l9.length : Int) - (j : Int))) (.int .i64 ((l9.length : Int) - (j : Int))) (by rfl) (by rfl) (.bool false) (fun ρ h1 h2 kk w1 (hg : Grow _ w1) hb hf => by go_simp) ?_
            refine fl_pick 163 (by rfl) (by decide) (wanted_none (by rfl)) (by rw [hK.out]; rfl) (by rfl) _ _ _ (by rfl) false (by rfl) (.bool false) (by rfl) ?_
            refine fl_end (fun _ _ w1 (hg : Grow _ w1) _ hfacts => hT _ _ ?_)
            clear hops hA' hK hT
            simp only [putsL, Act.put, List.setIfInBounds_toArray, List.set_cons_zero, List.set_cons_succ, List.drop_succ_cons, List.drop_zero]
            clear hfacts
            have hdz := (hd8.grow (LogAt.framed _ _ _ _ _) (DiskAt.framed _ _ _ _) hg).wide (P' := fun b => w.heap.size ≤ b) (fun b hb => hb.1)
            have hbz := below_trans hb9 hg hb9.size
            clear hLL hL9 hR9 hB9 hO9 hRd9
            go_wp2_with fail
            go_roundw
            case rel => exact ⟨k + 1, y, ys.length, l9, j, by omega, by omega, rfl, by first | rfl | go_num, by go_num, by omega, by omega, hdz, hbz⟩
            case measure => simp [intOf]; omega
          · skip
            have hc5 := hda.right (LogAt.framed _ _ _ _ _) (rRecord_any wa r lb kk Ab mb cb bs (hbsa wa (Just.of_grow (Grow.refl _))))
            have hrl : (recL lb bs).length ≤ 1048576 := by
              unfold recL appL
              split
              · split
                · rename_i h; unfold fits at h; have := of_decide_eq_true h; rw [List.length_append]; omega
                · omega
              · omega
            have k1 := hBa.cell 1
            go_wp2_with fail
            rw [← HA.out, ← HX.out]
            go_at_call 36
            refine hc5.mono ?_
            rintro e w5 ⟨rfl, hj5, hd5⟩
            have hBa5 := hj5.blk hBa (fun h => h.2 rfl)
            have k15 := hBa5.cell 1
            have hc6 := hd5.left (DiskAt.framed _ _ _ _) (lAppend_any w5 x d (n : Int) lb kk Ab mb cb bs (hbsa w5 hj5) (by omega))
            clear hc5 hda
            by_cases hr0 : recE lb bs = 0
            · rw [if_pos hr0] at hc6
              have hre : (recE lb bs == 0) = true := beq_iff_eq.2 hr0
              generalize recE lb bs = re at hc6 hre hr0 ⊢
              subst hr0
              go_wp2_with fail
              refine hc6.mono ?_
              rintro e w6 ⟨rfl, hj6, hd6⟩
              have hj := hj5.trans hj6
              have hw1 : IntKind.i64.wrap ((n : Int) + 1) = (n : Int) + 1 := by rw [IntKind.wrap_i64]; omega
              have hn1 : ((n + 1 : Nat) : Int) = (n : Int) + 1 := by omega
              rw [← hn1] at hd6 hw1
              clear hc6 hd5 hBa5 hre
              generalize recL lb bs = l9 at hd6 hrl
              obtain ⟨V9, hL9, hV9⟩ := hd6.get1
              obtain ⟨U9, hR9, hU9⟩ := hd6.get2
              obtain ⟨_, hk9, hl9, v9, hB9, hO9⟩ := id hR9
              obtain ⟨A9, c9, rfl, hRd9, _, _⟩ := hO9.reads
              have hLL : ∀ w1, Grow w6 w1 → LogAt x d (((n + 1 : Nat)) : Int) l9 kk w1 V9 := fun w1 hg => LogAt.framed _ _ _ _ _ _ _ V9 hL9 fun b hb => hg.block b (hV9 b hb).2
              have hsub : IntKind.i64.wrap ((l9.length : Int) - (kk : Int)) = (l9.length : Int) - (kk : Int) := by rw [IntKind.wrap_i64]; omega
              have hb9 := hbla.trans (hj.below (B := w.heap.size) (fun b hb => hb.1) hbla.size)
              go_wp2_with fail
              refine wp_region_flow 40 166 [(1, .inl (.int .i64 (((n + 1 : Nat)) : Int))), (6, .inl (.int .i64 (l9.length : Int))), (16, .inr (fun _ => IsBytes l9)), (27, .inl (.int .i64 ((l9.length : Int) - (kk : Int))))] rfl rfl (by kernel_rfl) (by kernel_rfl) (by kernel_rfl) ?_ ?_
              · intro x hx φ he
                simp only [List.mem_cons, List.not_mem_nil, or_false] at hx
                rcases hx with rfl | rfl | rfl | rfl <;> cases he
                all_goals first | exact lasts_quiet (lasting_bytes _) | fail
              intro ops' A' K' T hops hA' hK hT
              refine fl_mv 124 (by rfl) (by decide) (wanted_none (by rfl)) (by rw [hK.out]; rfl) (by rfl) _ (Or.inl (by rfl)) (.pointer (some ⟨x, 0, none⟩)) (by rfl) ?_
              refine fl_call 125 (by rfl) (by decide) (wanted_none (by rfl)) (.int .i64 (((n + 1 : Nat)) : Int)) (by rw [hK.out]; rfl) 14 _ _ (by rfl) [.pointer (some ⟨x, 0, none⟩)] (by rfl) k14 (fun kk w1 (hg : Grow _ w1) hb hf => calls_behind (by rfl) (by exact grew_same (lLen_any w1 x d _ _ _ V9 (hLL w1 hg)))) ?_
              refine fl_mv 126 (by rfl) (by decide) (wanted_none (by rfl)) (by rw [hK.out]; rfl) (by rfl) _ (Or.inl (by rfl)) (.int .i64 (((n + 1 : Nat)) : Int)) (by rfl) ?_
              refine fl_op2 127 (by rfl) (by decide) (wanted_none (by rfl)) (by rw [hK.out]; rfl) (by rfl) (.tmp 125) (.tmp 126) (.int .i64 (((n + 1 : Nat)) : Int)) (.int .i64 (((n + 1 : Nat)) : Int)) (by rfl) (by rfl) (.bool false) (fun ρ h1 h2 kk w1 (hg : Grow _ w1) hb hf => by go_simp) ?_
              refine fl_mv 128 (by rfl) (by decide) (wanted_none (by rfl)) (by rw [hK.out]; rfl) (by rfl) _ (Or.inl (by rfl)) (.bool false) (by rfl) ?_
              refine fl_mv 129 (by rfl) (by decide) (wanted_if hops 4 false (by rfl) 128 (by rfl) false (by rfl)) (by rw [hK.out]; rfl) (by rfl) _ (Or.inl (by rfl)) (.pointer (some ⟨x, 0, none⟩)) (by rfl) ?_
              refine fl_call 130 (by rfl) (by decide) (wanted_if hops 4 false (by rfl) 128 (by rfl) false (by rfl)) (.int .i64 (l9.length : Int)) (by rw [hK.out]; rfl) 17 _ _ (by rfl) [.pointer (some ⟨x, 0, none⟩)] (by rfl) k17 (fun kk w1 (hg : Grow _ w1) hb hf => calls_behind (by rfl) (by exact grew_same (lBytes_any w1 x d _ _ _ V9 (hLL w1 hg)))) ?_
              refine fl_mv 131 (by rfl) (by decide) (wanted_if hops 4 false (by rfl) 128 (by rfl) false (by rfl)) (by rw [hK.out]; rfl) (by rfl) _ (Or.inl (by rfl)) (.pointer (some ⟨r, 0, none⟩)) (by rfl) ?_
              refine fl_op1 132 (by rfl) (by decide) (wanted_if hops 4 false (by rfl) 128 (by rfl) false (by rfl)) (by rw [hK.out]; rfl) (by rfl) (.tmp 131) (.pointer (some ⟨r, 0, none⟩)) (by rfl) (.pointer (some ⟨r, 0, none⟩)) (fun ρ h1 kk w1 (hg : Grow _ w1) hb hf => by go_simp) ?_
              refine fl_op1 133 (by rfl) (by decide) (wanted_if hops 4 false (by rfl) 128 (by rfl) false (by rfl)) (by rw [hK.out]; rfl) (by rfl) (.tmp 132) (.pointer (some ⟨r, 0, none⟩)) (by rfl) (.pointer (some ⟨r, 0, none⟩)) (fun ρ h1 kk w1 (hg : Grow _ w1) hb hf => by go_simp) ?_
              refine fl_op1 134 (by rfl) (by decide) (wanted_if hops 4 false (by rfl) 128 (by rfl) false (by rfl)) (by rw [hK.out]; rfl) (by rfl) (.tmp 133) (.pointer (some ⟨r, 0, none⟩)) (by rfl) (.slice A9 l9.length c9) (fun ρ h1 kk w1 (hg : Grow _ w1) hb hf => by have c := (hB9.grow hg).cell 0; go_simp) ?_
              refine fl_op1 135 (by rfl) (by decide) (wanted_if hops 4 false (by rfl) 128 (by rfl) false (by rfl)) (by rw [hK.out]; rfl) (by rfl) (.tmp 134) (.slice A9 l9.length c9) (by rfl) (.int .i64 (l9.length : Int)) (fun ρ h1 kk w1 (hg : Grow _ w1) hb hf => by go_simp) ?_
              refine fl_op2 136 (by rfl) (by decide) (wanted_if hops 4 false (by rfl) 128 (by rfl) false (by rfl)) (by rw [hK.out]; rfl) (by rfl) (.tmp 130) (.tmp 135) (.int .i64 (l9.length : Int)) (.int .i64 (l9.length : Int)) (by rfl) (by rfl) (.bool false) (fun ρ h1 h2 kk w1 (hg : Grow _ w1) hb hf => by go_simp) ?_
              refine fl_pick 137 (by rfl) (by decide) (wanted_none (by rfl)) (by rw [hK.out]; rfl) (by rfl) _ _ _ (by rfl) false (by rfl) (.bool false) (by rfl) ?_
              refine fl_mv 138 (by rfl) (by decide) (wanted_none (by rfl)) (by rw [hK.out]; rfl) (by rfl) _ (Or.inl (by rfl)) (.bool false) (by rfl) ?_
              refine fl_mv 139 (by rfl) (by decide) (wanted_if hops 14 false (by rfl) 138 (by rfl) false (by rfl)) (by rw [hK.out]; rfl) (by rfl) _ (Or.inl (by rfl)) (.pointer (some ⟨d, 0, none⟩)) (by rfl) ?_
              refine fl_callAny 140 (by rfl) (by decide) (wanted_if hops 14 false (by rfl) 138 (by rfl) false (by rfl)) (fun _ => IsBytes l9) (by rw [hK.out]; rfl) 21 _ _ (by rfl) [.pointer (some ⟨d, 0, none⟩)] (by rfl) k21 (fun kk w1 (hg : Grow _ w1) hb hf => calls_behindAny (φ := fun _ => IsBytes l9) (by rfl) (by exact All_is w1 d _ _ V9 (hLL w1 hg).disk)) (fun v140 => ?_)
              refine fl_op1 141 (by rfl) (by decide) (wanted_if hops 14 false (by rfl) 138 (by rfl) false (by rfl)) (by rw [hK.out]; rfl) (by rfl) (.tmp 140) (v140) (by rfl) (.string ⟨l9.toArray⟩) (fun ρ h1 kk w1 (hg : Grow _ w1) hb hf => by have cv := conv_is w1 (facts_take hf (by rw [hA'.out]; kernel_rfl)); go_simp) ?_
              refine fl_mv 142 (by rfl) (by decide) (wanted_if hops 14 false (by rfl) 138 (by rfl) false (by rfl)) (by rw [hK.out]; rfl) (by rfl) _ (Or.inl (by rfl)) (.pointer (some ⟨r, 0, none⟩)) (by rfl) ?_
              refine fl_op1 143 (by rfl) (by decide) (wanted_if hops 14 false (by rfl) 138 (by rfl) false (by rfl)) (by rw [hK.out]; rfl) (by rfl) (.tmp 142) (.pointer (some ⟨r, 0, none⟩)) (by rfl) (.pointer (some ⟨r, 0, none⟩)) (fun ρ h1 kk w1 (hg : Grow _ w1) hb hf => by go_simp) ?_
              refine fl_op1 144 (by rfl) (by decide) (wanted_if hops 14 false (by rfl) 138 (by rfl) false (by rfl)) (by rw [hK.out]; rfl) (by rfl) (.tmp 143) (.pointer (some ⟨r, 0, none⟩)) (by rfl) (.pointer (some ⟨r, 0, none⟩)) (fun ρ h1 kk w1 (hg : Grow _ w1) hb hf => by go_simp) ?_
              refine fl_op1 145 (by rfl) (by decide) (wanted_if hops 14 false (by rfl) 138 (by rfl) false (by rfl)) (by rw [hK.out]; rfl) (by rfl) (.tmp 144) (.pointer (some ⟨r, 0, none⟩)) (by rfl) (.slice A9 l9.length c9) (fun ρ h1 kk w1 (hg : Grow _ w1) hb hf => by have c := (hB9.grow hg).cell 0; go_simp) ?_
              refine fl_op1 146 (by rfl) (by decide) (wanted_if hops 14 false (by rfl) 138 (by rfl) false (by rfl)) (by rw [hK.out]; rfl) (by rfl) (.tmp 145) (.slice A9 l9.length c9) (by rfl) (.string ⟨l9.toArray⟩) (fun ρ h1 kk w1 (hg : Grow _ w1) hb hf => by have cv := conv_bytes w1 (c := c9) (hRd9.below hg); go_simp) ?_
              refine fl_op2 147 (by rfl) (by decide) (wanted_if hops 14 false (by rfl) 138 (by rfl) false (by rfl)) (by rw [hK.out]; rfl) (by rfl) (.tmp 141) (.tmp 146) (.string ⟨l9.toArray⟩) (.string ⟨l9.toArray⟩) (by rfl) (by rfl) (.bool false) (fun ρ h1 h2 kk w1 (hg : Grow _ w1) hb hf => by go_simp) ?_
              refine fl_pick 148 (by rfl) (by decide) (wanted_none (by rfl)) (by rw [hK.out]; rfl) (by rfl) _ _ _ (by rfl) false (by rfl) (.bool false) (by rfl) ?_
              refine fl_mv 149 (by rfl) (by decide) (wanted_none (by rfl)) (by rw [hK.out]; rfl) (by rfl) _ (Or.inl (by rfl)) (.bool false) (by rfl) ?_
              refine fl_mv 150 (by rfl) (by decide) (wanted_if hops 25 false (by rfl) 149 (by rfl) false (by rfl)) (by rw [hK.out]; rfl) (by rfl) _ (Or.inl (by rfl)) (.pointer (some ⟨d, 0, none⟩)) (by rfl) ?_
              refine fl_call 151 (by rfl) (by decide) (wanted_if hops 25 false (by rfl) 149 (by rfl) false (by rfl)) (.int .i64 ((l9.length : Int) - (kk : Int))) (by rw [hK.out]; rfl) 26 _ _ (by rfl) [.pointer (some ⟨d, 0, none⟩)] (by rfl) k26 (fun kk w1 (hg : Grow _ w1) hb hf => calls_behind (by rfl) (by exact Waits_any w1 d _ _ V9 (hLL w1 hg).disk)) ?_
              refine fl_mv 152 (by rfl) (by decide) (wanted_if hops 25 false (by rfl) 149 (by rfl) false (by rfl)) (by rw [hK.out]; rfl) (by rfl) _ (Or.inl (by rfl)) (.pointer (some ⟨r, 0, none⟩)) (by rfl) ?_
              refine fl_op1 153 (by rfl) (by decide) (wanted_if hops 25 false (by rfl) 149 (by rfl) false (by rfl)) (by rw [hK.out]; rfl) (by rfl) (.tmp 152) (.pointer (some ⟨r, 0, none⟩)) (by rfl) (.pointer (some ⟨r, 0, none⟩)) (fun ρ h1 kk w1 (hg : Grow _ w1) hb hf => by go_simp) ?_
              refine fl_op1 154 (by rfl) (by decide) (wanted_if hops 25 false (by rfl) 149 (by rfl) false (by rfl)) (by rw [hK.out]; rfl) (by rfl) (.tmp 153) (.pointer (some ⟨r, 0, none⟩)) (by rfl) (.pointer (some ⟨r, 0, none⟩)) (fun ρ h1 kk w1 (hg : Grow _ w1) hb hf => by go_simp) ?_
              refine fl_op1 155 (by rfl) (by decide) (wanted_if hops 25 false (by rfl) 149 (by rfl) false (by rfl)) (by rw [hK.out]; rfl) (by rfl) (.tmp 154) (.pointer (some ⟨r, 0, none⟩)) (by rfl) (.slice A9 l9.length c9) (fun ρ h1 kk w1 (hg : Grow _ w1) hb hf => by have c := (hB9.grow hg).cell 0; go_simp) ?_
              refine fl_op1 156 (by rfl) (by decide) (wanted_if hops 25 false (by rfl) 149 (by rfl) false (by rfl)) (by rw [hK.out]; rfl) (by rfl) (.tmp 155) (.slice A9 l9.length c9) (by rfl) (.int .i64 (l9.length : Int)) (fun ρ h1 kk w1 (hg : Grow _ w1) hb hf => by go_simp) ?_
              refine fl_mv 157 (by rfl) (by decide) (wanted_if hops 25 false (by rfl) 149 (by rfl) false (by rfl)) (by rw [hK.out]; rfl) (by rfl) _ (Or.inl (by rfl)) (.pointer (some ⟨r, 0, none⟩)) (by rfl) ?_
              refine fl_op1 158 (by rfl) (by decide) (wanted_if hops 25 false (by rfl) 149 (by rfl) false (by rfl)) (by rw [hK.out]; rfl) (by rfl) (.tmp 157) (.pointer (some ⟨r, 0, none⟩)) (by rfl) (.pointer (some ⟨r, 0, none⟩)) (fun ρ h1 kk w1 (hg : Grow _ w1) hb hf => by go_simp) ?_
              refine fl_op1 159 (by rfl) (by decide) (wanted_if hops 25 false (by rfl) 149 (by rfl) false (by rfl)) (by rw [hK.out]; rfl) (by rfl) (.tmp 158) (.pointer (some ⟨r, 0, none⟩)) (by rfl) (.pointer (some ⟨r, 1, none⟩)) (fun ρ h1 kk w1 (hg : Grow _ w1) hb hf => by go_simp) ?_
              refine fl_op1 160 (by rfl) (by decide) (wanted_if hops 25 false (by rfl) 149 (by rfl) false (by rfl)) (by rw [hK.out]; rfl) (by rfl) (.tmp 159) (.pointer (some ⟨r, 1, none⟩)) (by rfl) (.int .i64 (kk : Int)) (fun ρ h1 kk w1 (hg : Grow _ w1) hb hf => by have c := (hB9.grow hg).cell 1; go_simp) ?_
              refine fl_op2 161 (by rfl) (by decide) (wanted_if hops 25 false (by rfl) 149 (by rfl) false (by rfl)) (by rw [hK.out]; rfl) (by rfl) (.tmp 156) (.tmp 160) (.int .i64 (l9.length : Int)) (.int .i64 (kk : Int)) (by rfl) (by rfl) (.int .i64 ((l9.length : Int) - (kk : Int))) (fun ρ h1 h2 kk w1 (hg : Grow _ w1) hb hf => by go_simp; try rfl) ?_
              refine fl_op2 162 (by rfl) (by decide) (wanted_if hops 25 false (by rfl) 149 (by rfl) false (by rfl)) (by rw [hK.out]; rfl) (by rfl) (.tmp 151) (.tmp 161) (.int .i64 ((l9.length : Int) - (kk : Int))) (.int .i64 ((l9.length : Int) - (kk : Int))) (by rfl) (by rfl) (.bool false) (fun ρ h1 h2 kk w1 (hg : Grow _ w1) hb hf => by go_simp) ?_
              refine fl_pick 163 (by rfl) (by decide) (wanted_none (by rfl)) (by rw [hK.out]; rfl) (by rfl) _ _ _ (by rfl) false (by rfl) (.bool false) (by rfl) ?_
              refine fl_end (fun _ _ w1 (hg : Grow _ w1) _ hfacts => hT _ _ ?_)
              clear hops hA' hK hT
              simp only [putsL, Act.put, List.setIfInBounds_toArray, List.set_cons_zero, List.set_cons_succ, List.drop_succ_cons, List.drop_zero]
              clear hfacts
              have hdz := (hd6.grow (LogAt.framed _ _ _ _ _) (DiskAt.framed _ _ _ _) hg).wide (P' := fun b => w.heap.size ≤ b) (fun b hb => hb.1)
              have hbz := below_trans hb9 hg hb9.size
              clear hLL hL9 hR9 hB9 hO9 hRd9
              go_wp2_with fail
              go_roundw
              case rel => exact ⟨k + 1, x, ((n + 1 : Nat)), l9, kk, by omega, by omega, rfl, by first | rfl | go_num, by go_num, by omega, by omega, hdz, hbz⟩
              case measure => simp [intOf]; omega
            · rw [if_neg hr0] at hc6
              have hre : (recE lb bs == 0) = false := beq_eq_false_iff_ne.2 hr0
              generalize recE lb bs = re at hc6 hre ⊢
              clear hr0
              go_wp2_with fail
              refine hc6.mono ?_
              rintro e w6 ⟨rfl, hj6, hd6⟩
              have hj := hj5.trans hj6
              clear hc6 hd5 hBa5
              generalize recL lb bs = l9 at hd6 hrl
              obtain ⟨V9, hL9, hV9⟩ := hd6.get1
              obtain ⟨U9, hR9, hU9⟩ := hd6.get2
              obtain ⟨_, hk9, hl9, v9, hB9, hO9⟩ := id hR9
              obtain ⟨A9, c9, rfl, hRd9, _, _⟩ := hO9.reads
              have hLL : ∀ w1, Grow w6 w1 → LogAt x d (n : Int) l9 kk w1 V9 := fun w1 hg => LogAt.framed _ _ _ _ _ _ _ V9 hL9 fun b hb => hg.block b (hV9 b hb).2
              have hsub : IntKind.i64.wrap ((l9.length : Int) - (kk : Int)) = (l9.length : Int) - (kk : Int) := by rw [IntKind.wrap_i64]; omega
              have hb9 := hbla.trans (hj.below (B := w.heap.size) (fun b hb => hb.1) hbla.size)
              go_wp2_with fail
              refine wp_region_flow 40 166 [(1, .inl (.int .i64 (n : Int))), (6, .inl (.int .i64 (l9.length : Int))), (16, .inr (fun _ => IsBytes l9)), (27, .inl (.int .i64 ((l9.length : Int) - (kk : Int))))] rfl rfl (by kernel_rfl) (by kernel_rfl) (by kernel_rfl) ?_ ?_
              · intro x hx φ he
                simp only [List.mem_cons, List.not_mem_nil, or_false] at hx
                rcases hx with rfl | rfl | rfl | rfl <;> cases he
                all_goals first | exact lasts_quiet (lasting_bytes _) | fail
              intro ops' A' K' T hops hA' hK hT
              refine fl_mv 124 (by rfl) (by decide) (wanted_none (by rfl)) (by rw [hK.out]; rfl) (by rfl) _ (Or.inl (by rfl)) (.pointer (some ⟨x, 0, none⟩)) (by rfl) ?_
              refine fl_call 125 (by rfl) (by decide) (wanted_none (by rfl)) (.int .i64 (n : Int)) (by rw [hK.out]; rfl) 14 _ _ (by rfl) [.pointer (some ⟨x, 0, none⟩)] (by rfl) k14 (fun kk w1 (hg : Grow _ w1) hb hf => calls_behind (by rfl) (by exact grew_same (lLen_any w1 x d _ _ _ V9 (hLL w1 hg)))) ?_
              refine fl_mv 126 (by rfl) (by decide) (wanted_none (by rfl)) (by rw [hK.out]; rfl) (by rfl) _ (Or.inl (by rfl)) (.int .i64 (n : Int)) (by rfl) ?_
              refine fl_op2 127 (by rfl) (by decide) (wanted_none (by rfl)) (by rw [hK.out]; rfl) (by rfl) (.tmp 125) (.tmp 126) (.int .i64 (n : Int)) (.int .i64 (n : Int)) (by rfl) (by rfl) (.bool false) (fun ρ h1 h2 kk w1 (hg : Grow _ w1) hb hf => by go_simp) ?_
              refine fl_mv 128 (by rfl) (by decide) (wanted_none (by rfl)) (by rw [hK.out]; rfl) (by rfl) _ (Or.inl (by rfl)) (.bool false) (by rfl) ?_
              refine fl_mv 129 (by rfl) (by decide) (wanted_if hops 4 false (by rfl) 128 (by rfl) false (by rfl)) (by rw [hK.out]; rfl) (by rfl) _ (Or.inl (by rfl)) (.pointer (some ⟨x, 0, none⟩)) (by rfl) ?_
              refine fl_call 130 (by rfl) (by decide) (wanted_if hops 4 false (by rfl) 128 (by rfl) false (by rfl)) (.int .i64 (l9.length : Int)) (by rw [hK.out]; rfl) 17 _ _ (by rfl) [.pointer (some ⟨x, 0, none⟩)] (by rfl) k17 (fun kk w1 (hg : Grow _ w1) hb hf => calls_behind (by rfl) (by exact grew_same (lBytes_any w1 x d _ _ _ V9 (hLL w1 hg)))) ?_
              refine fl_mv 131 (by rfl) (by decide) (wanted_if hops 4 false (by rfl) 128 (by rfl) false (by rfl)) (by rw [hK.out]; rfl) (by rfl) _ (Or.inl (by rfl)) (.pointer (some ⟨r, 0, none⟩)) (by rfl) ?_
              refine fl_op1 132 (by rfl) (by decide) (wanted_if hops 4 false (by rfl) 128 (by rfl) false (by rfl)) (by rw [hK.out]; rfl) (by rfl) (.tmp 131) (.pointer (some ⟨r, 0, none⟩)) (by rfl) (.pointer (some ⟨r, 0, none⟩)) (fun ρ h1 kk w1 (hg : Grow _ w1) hb hf => by go_simp) ?_
              refine fl_op1 133 (by rfl) (by decide) (wanted_if hops 4 false (by rfl) 128 (by rfl) false (by rfl)) (by rw [hK.out]; rfl) (by rfl) (.tmp 132) (.pointer (some ⟨r, 0, none⟩)) (by rfl) (.pointer (some ⟨r, 0, none⟩)) (fun ρ h1 kk w1 (hg : Grow _ w1) hb hf => by go_simp) ?_
              refine fl_op1 134 (by rfl) (by decide) (wanted_if hops 4 false (by rfl) 128 (by rfl) false (by rfl)) (by rw [hK.out]; rfl) (by rfl) (.tmp 133) (.pointer (some ⟨r, 0, none⟩)) (by rfl) (.slice A9 l9.length c9) (fun ρ h1 kk w1 (hg : Grow _ w1) hb hf => by have c := (hB9.grow hg).cell 0; go_simp) ?_
              refine fl_op1 135 (by rfl) (by decide) (wanted_if hops 4 false (by rfl) 128 (by rfl) false (by rfl)) (by rw [hK.out]; rfl) (by rfl) (.tmp 134) (.slice A9 l9.length c9) (by rfl) (.int .i64 (l9.length : Int)) (fun ρ h1 kk w1 (hg : Grow _ w1) hb hf => by go_simp) ?_
              refine fl_op2 136 (by rfl) (by decide) (wanted_if hops 4 false (by rfl) 128 (by rfl) false (by rfl)) (by rw [hK.out]; rfl) (by rfl) (.tmp 130) (.tmp 135) (.int .i64 (l9.length : Int)) (.int .i64 (l9.length : Int)) (by rfl) (by rfl) (.bool false) (fun ρ h1 h2 kk w1 (hg : Grow _ w1) hb hf => by go_simp) ?_
              refine fl_pick 137 (by rfl) (by decide) (wanted_none (by rfl)) (by rw [hK.out]; rfl) (by rfl) _ _ _ (by rfl) false (by rfl) (.bool false) (by rfl) ?_
              refine fl_mv 138 (by rfl) (by decide) (wanted_none (by rfl)) (by rw [hK.out]; rfl) (by rfl) _ (Or.inl (by rfl)) (.bool false) (by rfl) ?_
              refine fl_mv 139 (by rfl) (by decide) (wanted_if hops 14 false (by rfl) 138 (by rfl) false (by rfl)) (by rw [hK.out]; rfl) (by rfl) _ (Or.inl (by rfl)) (.pointer (some ⟨d, 0, none⟩)) (by rfl) ?_
              refine fl_callAny 140 (by rfl) (by decide) (wanted_if hops 14 false (by rfl) 138 (by rfl) false (by rfl)) (fun _ => IsBytes l9) (by rw [hK.out]; rfl) 21 _ _ (by rfl) [.pointer (some ⟨d, 0, none⟩)] (by rfl) k21 (fun kk w1 (hg : Grow _ w1) hb hf => calls_behindAny (φ := fun _ => IsBytes l9) (by rfl) (by exact All_is w1 d _ _ V9 (hLL w1 hg).disk)) (fun v140 => ?_)
              refine fl_op1 141 (by rfl) (by decide) (wanted_if hops 14 false (by rfl) 138 (by rfl) false (by rfl)) (by rw [hK.out]; rfl) (by rfl) (.tmp 140) (v140) (by rfl) (.string ⟨l9.toArray⟩) (fun ρ h1 kk w1 (hg : Grow _ w1) hb hf => by have cv := conv_is w1 (facts_take hf (by rw [hA'.out]; kernel_rfl)); go_simp) ?_
              refine fl_mv 142 (by rfl) (by decide) (wanted_if hops 14 false (by rfl) 138 (by rfl) false (by rfl)) (by rw [hK.out]; rfl) (by rfl) _ (Or.inl (by rfl)) (.pointer (some ⟨r, 0, none⟩)) (by rfl) ?_
              refine fl_op1 143 (by rfl) (by decide) (wanted_if hops 14 false (by rfl) 138 (by rfl) false (by rfl)) (by rw [hK.out]; rfl) (by rfl) (.tmp 142) (.pointer (some ⟨r, 0, none⟩)) (by rfl) (.pointer (some ⟨r, 0, none⟩)) (fun ρ h1 kk w1 (hg : Grow _ w1) hb hf => by go_simp) ?_
              refine fl_op1 144 (by rfl) (by decide) (wanted_if hops 14 false (by rfl) 138 (by rfl) false (by rfl)) (by rw [hK.out]; rfl) (by rfl) (.tmp 143) (.pointer (some ⟨r, 0, none⟩)) (by rfl) (.pointer (some ⟨r, 0, none⟩)) (fun ρ h1 kk w1 (hg : Grow _ w1) hb hf => by go_simp) ?_
              refine fl_op1 145 (by rfl) (by decide) (wanted_if hops 14 false (by rfl) 138 (by rfl) false (by rfl)) (by rw [hK.out]; rfl) (by rfl) (.tmp 144) (.pointer (some ⟨r, 0, none⟩)) (by rfl) (.slice A9 l9.length c9) (fun ρ h1 kk w1 (hg : Grow _ w1) hb hf => by have c := (hB9.grow hg).cell 0; go_simp) ?_
              refine fl_op1 146 (by rfl) (by decide) (wanted_if hops 14 false (by rfl) 138 (by rfl) false (by rfl)) (by rw [hK.out]; rfl) (by rfl) (.tmp 145) (.slice A9 l9.length c9) (by rfl) (.string ⟨l9.toArray⟩) (fun ρ h1 kk w1 (hg : Grow _ w1) hb hf => by have cv := conv_bytes w1 (c := c9) (hRd9.below hg); go_simp) ?_
              refine fl_op2 147 (by rfl) (by decide) (wanted_if hops 14 false (by rfl) 138 (by rfl) false (by rfl)) (by rw [hK.out]; rfl) (by rfl) (.tmp 141) (.tmp 146) (.string ⟨l9.toArray⟩) (.string ⟨l9.toArray⟩) (by rfl) (by rfl) (.bool false) (fun ρ h1 h2 kk w1 (hg : Grow _ w1) hb hf => by go_simp) ?_
              refine fl_pick 148 (by rfl) (by decide) (wanted_none (by rfl)) (by rw [hK.out]; rfl) (by rfl) _ _ _ (by rfl) false (by rfl) (.bool false) (by rfl) ?_
              refine fl_mv 149 (by rfl) (by decide) (wanted_none (by rfl)) (by rw [hK.out]; rfl) (by rfl) _ (Or.inl (by rfl)) (.bool false) (by rfl) ?_
              refine fl_mv 150 (by rfl) (by decide) (wanted_if hops 25 false (by rfl) 149 (by rfl) false (by rfl)) (by rw [hK.out]; rfl) (by rfl) _ (Or.inl (by rfl)) (.pointer (some ⟨d, 0, none⟩)) (by rfl) ?_
              refine fl_call 151 (by rfl) (by decide) (wanted_if hops 25 false (by rfl) 149 (by rfl) false (by rfl)) (.int .i64 ((l9.length : Int) - (kk : Int))) (by rw [hK.out]; rfl) 26 _ _ (by rfl) [.pointer (some ⟨d, 0, none⟩)] (by rfl) k26 (fun kk w1 (hg : Grow _ w1) hb hf => calls_behind (by rfl) (by exact Waits_any w1 d _ _ V9 (hLL w1 hg).disk)) ?_
              refine fl_mv 152 (by rfl) (by decide) (wanted_if hops 25 false (by rfl) 149 (by rfl) false (by rfl)) (by rw [hK.out]; rfl) (by rfl) _ (Or.inl (by rfl)) (.pointer (some ⟨r, 0, none⟩)) (by rfl) ?_
              refine fl_op1 153 (by rfl) (by decide) (wanted_if hops 25 false (by rfl) 149 (by rfl) false (by rfl)) (by rw [hK.out]; rfl) (by rfl) (.tmp 152) (.pointer (some ⟨r, 0, none⟩)) (by rfl) (.pointer (some ⟨r, 0, none⟩)) (fun ρ h1 kk w1 (hg : Grow _ w1) hb hf => by go_simp) ?_
              refine fl_op1 154 (by rfl) (by decide) (wanted_if hops 25 false (by rfl) 149 (by rfl) false (by rfl)) (by rw [hK.out]; rfl) (by rfl) (.tmp 153) (.pointer (some ⟨r, 0, none⟩)) (by rfl) (.pointer (some ⟨r, 0, none⟩)) (fun ρ h1 kk w1 (hg : Grow _ w1) hb hf => by go_simp) ?_
              refine fl_op1 155 (by rfl) (by decide) (wanted_if hops 25 false (by rfl) 149 (by rfl) false (by rfl)) (by rw [hK.out]; rfl) (by rfl) (.tmp 154) (.pointer (some ⟨r, 0, none⟩)) (by rfl) (.slice A9 l9.length c9) (fun ρ h1 kk w1 (hg : Grow _ w1) hb hf => by have c := (hB9.grow hg).cell 0; go_simp) ?_
              refine fl_op1 156 (by rfl) (by decide) (wanted_if hops 25 false (by rfl) 149 (by rfl) false (by rfl)) (by rw [hK.out]; rfl) (by rfl) (.tmp 155) (.slice A9 l9.length c9) (by rfl) (.int .i64 (l9.length : Int)) (fun ρ h1 kk w1 (hg : Grow _ w1) hb hf => by go_simp) ?_
              refine fl_mv 157 (by rfl) (by decide) (wanted_if hops 25 false (by rfl) 149 (by rfl) false (by rfl)) (by rw [hK.out]; rfl) (by rfl) _ (Or.inl (by rfl)) (.pointer (some ⟨r, 0, none⟩)) (by rfl) ?_
              refine fl_op1 158 (by rfl) (by decide) (wanted_if hops 25 false (by rfl) 149 (by rfl) false (by rfl)) (by rw [hK.out]; rfl) (by rfl) (.tmp 157) (.pointer (some ⟨r, 0, none⟩)) (by rfl) (.pointer (some ⟨r, 0, none⟩)) (fun ρ h1 kk w1 (hg : Grow _ w1) hb hf => by go_simp) ?_
              refine fl_op1 159 (by rfl) (by decide) (wanted_if hops 25 false (by rfl) 149 (by rfl) false (by rfl)) (by rw [hK.out]; rfl) (by rfl) (.tmp 158) (.pointer (some ⟨r, 0, none⟩)) (by rfl) (.pointer (some ⟨r, 1, none⟩)) (fun ρ h1 kk w1 (hg : Grow _ w1) hb hf => by go_simp) ?_
              refine fl_op1 160 (by rfl) (by decide) (wanted_if hops 25 false (by rfl) 149 (by rfl) false (by rfl)) (by rw [hK.out]; rfl) (by rfl) (.tmp 159) (.pointer (some ⟨r, 1, none⟩)) (by rfl) (.int .i64 (kk : Int)) (fun ρ h1 kk w1 (hg : Grow _ w1) hb hf => by have c := (hB9.grow hg).cell 1; go_simp) ?_
              refine fl_op2 161 (by rfl) (by decide) (wanted_if hops 25 false (by rfl) 149 (by rfl) false (by rfl)) (by rw [hK.out]; rfl) (by rfl) (.tmp 156) (.tmp 160) (.int .i64 (l9.length : Int)) (.int .i64 (kk : Int)) (by rfl) (by rfl) (.int .i64 ((l9.length : Int) - (kk : Int))) (fun ρ h1 h2 kk w1 (hg : Grow _ w1) hb hf => by go_simp; try rfl) ?_
              refine fl_op2 162 (by rfl) (by decide) (wanted_if hops 25 false (by rfl) 149 (by rfl) false (by rfl)) (by rw [hK.out]; rfl) (by rfl) (.tmp 151) (.tmp 161) (.int .i64 ((l9.length : Int) - (kk : Int))) (.int .i64 ((l9.length : Int) - (kk : Int))) (by rfl) (by rfl) (.bool false) (fun ρ h1 h2 kk w1 (hg : Grow _ w1) hb hf => by go_simp) ?_
              refine fl_pick 163 (by rfl) (by decide) (wanted_none (by rfl)) (by rw [hK.out]; rfl) (by rfl) _ _ _ (by rfl) false (by rfl) (.bool false) (by rfl) ?_
              refine fl_end (fun _ _ w1 (hg : Grow _ w1) _ hfacts => hT _ _ ?_)
              clear hops hA' hK hT
              simp only [putsL, Act.put, List.setIfInBounds_toArray, List.set_cons_zero, List.set_cons_succ, List.drop_succ_cons, List.drop_zero]
              clear hfacts
              have hdz := (hd6.grow (LogAt.framed _ _ _ _ _) (DiskAt.framed _ _ _ _) hg).wide (P' := fun b => w.heap.size ≤ b) (fun b hb => hb.1)
              have hbz := below_trans hb9 hg hb9.size
              clear hLL hL9 hR9 hB9 hO9 hRd9
              go_wp2_with fail
              go_roundw
              case rel => exact ⟨k + 1, x, n, l9, kk, by omega, by omega, rfl, by first | rfl | go_num, by go_num, by omega, by omega, hdz, hbz⟩
              case measure => simp [intOf]; omega
      · obtain rfl : k = 50 := by omega
        go_wp2_with fail
        go_ret
        exact ⟨rfl, hbl⟩
    · skip
      go_wp2_with fail
      go_ret
      exact ⟨rfl, hbl⟩
end Go.Proofs.Ytdpcokekilklfaa
