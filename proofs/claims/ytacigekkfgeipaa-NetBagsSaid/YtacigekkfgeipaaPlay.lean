/- The same asks, of both: its walk. -/
import Derived.Test.YtacigekkfgeipaaAsks
namespace Go.Proofs.Ytacigekkfgeipaa
open Go.RowKit Go.Hop
set_option maxRecDepth 100000 in
theorem play_out (w : World) (A : Option Addr) (n c : Nat) (nodes : Int) (h : nodes < 1 ∨ 8 < nodes) :
    Calls Try.prog 7 #[.int .i64 nodes, .slice A n c] w fun e w' => e = .returned (.bool true) ∧ Grow w w' := by
  by_cases h1 : nodes < 1
  · go_enter Try.func7, Try.ntmps7
    go_wp2_with (go_at_call 10; refine (New_no _ _ h).mono ?_; rintro e w1 ⟨rfl, rfl⟩)
    go_ret
    exact ⟨rfl, Grow.refl _⟩
  · have h8 : 8 < nodes := h.resolve_left h1
    go_enter Try.func7, Try.ntmps7
    go_wp2_with (go_at_call 10; refine (New_no _ _ h).mono ?_; rintro e w1 ⟨rfl, rfl⟩)
    go_ret
    exact ⟨rfl, Grow.refl _⟩
set_option maxRecDepth 100000 in
set_option maxHeartbeats 4000000 in
theorem play_any (w : World) (V D : Nat → Prop) (A : Option Addr) (n c : Nat) (q : List Ask) (hq : Asks w V D A n q) (hV : ∀ b, V b → b < w.heap.size) (hD : ∀ b, D b → b < w.heap.size) (nodes : Int) :
    Calls Try.prog 7 #[.int .i64 nodes, .slice A n c] w fun e w' => e = .returned (.bool true) ∧ Grow w w' := by
  by_cases hno : nodes < 1 ∨ 8 < nodes
  · exact play_out w A n c nodes hno
  have hn1 : ¬ nodes < 1 := by omega
  have hn8 : ¬ 8 < nodes := by omega
  have hz := rnet_zero
  have hc := netc_set0 0 nodes (.slice none 0 0) (fun _ => false)
  have hne := netc_ne 0 (.slice none 0 0) (fun _ => false)
  generalize netc 0 (.slice none 0 0) (fun _ => false) = np at hz hc hne
  have k18 : ∀ (vs : Array Value) (w : World), (callFunc 18 vs).run Try.prog w = .ok (.enter 18 vs) w := fun vs w => by go_simp
  have k19 : ∀ (vs : Array Value) (w : World), (callFunc 19 vs).run Try.prog w = .ok (.enter 19 vs) w := fun vs w => by go_simp
  have k15 : ∀ (vs : Array Value) (w : World), (callFunc 15 vs).run Try.prog w = .ok (.enter 15 vs) w := fun vs w => by go_simp
  have k20 : ∀ (vs : Array Value) (w : World), (callFunc 20 vs).run Try.prog w = .ok (.enter 20 vs) w := fun vs w => by go_simp
  have k11 : ∀ (vs : Array Value) (w : World), (callFunc 11 vs).run Try.prog w = .ok (.enter 11 vs) w := fun vs w => by go_simp
  have k21 : ∀ (vs : Array Value) (w : World), (callFunc 21 vs).run Try.prog w = .ok (.enter 21 vs) w := fun vs w => by go_simp
  have k14 : ∀ (vs : Array Value) (w : World), (callFunc 14 vs).run Try.prog w = .ok (.enter 14 vs) w := fun vs w => by go_simp
  have k12 : ∀ (vs : Array Value) (w : World), (callFunc 12 vs).run Try.prog w = .ok (.enter 12 vs) w := fun vs w => by go_simp
  have k22 : ∀ (vs : Array Value) (w : World), (callFunc 22 vs).run Try.prog w = .ok (.enter 22 vs) w := fun vs w => by go_simp
  go_enter Try.func7, Try.ntmps7
  go_wp2_with (first
    | (go_at_call 10; refine (New_any _ nodes (by omega) (by omega)).mono ?_; rintro e w1 ⟨rfl, hD1, hg1⟩))
  obtain ⟨d, HD⟩ : ∃ d : Nat, Hid (d = w.heap.size) := ⟨_, rfl⟩
  rw [← HD.out] at hD1 ⊢
  have hs1 := hg1.size
  have hg2 : Grow w1 (w1.alloc (.cells (netc nodes (.slice none 0 0) (fun _ => false)) 48)) := (Below.refl _ _).alloc (Nat.le_refl _) _
  have hduo : Duo (fun b => w.heap.size ≤ b) (NetAt d nodes [] fun _ => false) (RNetAt w1.heap.size nodes [] fun _ => false) (w1.alloc (.cells (netc nodes (.slice none 0 0) (fun _ => false)) 48)) := by
    refine Solo.with_ (w := w1) (U := New w1 (w1.alloc (.cells (netc nodes (.slice none 0 0) (fun _ => false)) 48))) (Solo.make (V := New w w1) hD1 (fun b hb => by omega) (fun b hb => hb)) (NetAt.framed _ _ _ _) hg2 ⟨⟨Nat.le_refl _, by simp⟩, none, 0, fun _ => False, by simp, by omega, by simp, Blk.made w1 _ _, In.nil, Nat.le_refl _, Nat.zero_le _, fun _ h => h.elim⟩ (fun b hb => hb)
  have hbelow := below_trans hg1 hg2 hg1.size
  obtain ⟨r, HR⟩ : ∃ r : Nat, Hid (r = w1.heap.size) := ⟨_, rfl⟩
  have hrw : w.heap.size ≤ r := by rw [HR.out]; exact hs1
  go_wp2_with fail
  rw [← HR.out] at hduo ⊢
  clear hD1 hz hc hne
  go_loopw [7] (fun i wr => ∃ (k : Nat) (lb : List Lb) (P : Nat → Bool), k ≤ n ∧ k ≤ 120 ∧ i = .int .i64 k ∧ Duo (fun b => w.heap.size ≤ b) (NetAt d nodes lb P) (RNetAt r nodes lb P) wr ∧ Below w.heap.size w wr) (fun i _ => 120 - (intOf i).toNat)
  case atStart => exact ⟨0, [], _, by omega, by omega, rfl, hduo, hbelow⟩
  case round =>
    obtain ⟨k, lb, P, hkn, hk120, rfl, hd, hbl⟩ := hrel
    by_cases hk : k < n
    · by_cases hk8 : k < 120
      · obtain ⟨ad, hqk, rfl, hVa, hba, e0, e12⟩ := hq.row.rec_ (by omega) ask_len hk
        have hin := hq.all _ (List.getElem_mem hqk)
        have e0 := e0 _ rfl
        have e1 := e12 0 _ rfl
        have e2 := e12 1 _ rfl
        have e3 := e12 2 _ rfl
        have e4 := e12 3 _ rfl
        have hkeep : ∀ p : Addr, p.block < w.heap.size → wr.cell? p = w.cell? p := fun p hp => hbl.cell hp
        have f0 := (hkeep (ad.add (k * 5)) (by rw [block_add]; exact hba)).trans e0
        have f1 := (hkeep ⟨(ad.add (k * 5)).block, (ad.add (k * 5)).off + 1, none⟩ (show (ad.add (k * 5)).block < _ by rw [block_add]; exact hba)).trans e1
        have f2 := (hkeep ⟨(ad.add (k * 5)).block, (ad.add (k * 5)).off + 2, none⟩ (show (ad.add (k * 5)).block < _ by rw [block_add]; exact hba)).trans e2
        have f3 := (hkeep ⟨(ad.add (k * 5)).block, (ad.add (k * 5)).off + 3, none⟩ (show (ad.add (k * 5)).block < _ by rw [block_add]; exact hba)).trans e3
        have f4 := (hkeep ⟨(ad.add (k * 5)).block, (ad.add (k * 5)).off + 4, none⟩ (show (ad.add (k * 5)).block < _ by rw [block_add]; exact hba)).trans e4
        clear e0 e1 e2 e3 e4 e12
        generalize q[k] = a at hin f0 f1 f2 f3 f4
        obtain ⟨kd, aa, bb, ii, Ab, mb, cb, bs⟩ := a
        obtain ⟨hds, hle, hmx, hsm, _, _, _, _⟩ := hin
        dsimp only at hds hle hmx hsm f0 f1 f2 f3 f4
        have hga : Grow wr (wr.alloc (.cells #[.int .i64 kd, .int .i64 aa, .int .i64 bb, .int .i64 ii, .slice Ab mb cb] 25)) := (Below.refl wr.heap.size wr).alloc (Nat.le_refl _) _
        have hBx0 := Blk.made wr 25 #[.int .i64 kd, .int .i64 aa, .int .i64 bb, .int .i64 ii, .slice Ab mb cb]
        obtain ⟨x, HX⟩ : ∃ x : Nat, Hid (x = wr.heap.size) := ⟨_, rfl⟩
        obtain ⟨wa, HA⟩ : ∃ wa : World, Hid (wa = wr.alloc (.cells #[.int .i64 kd, .int .i64 aa, .int .i64 bb, .int .i64 ii, .slice Ab mb cb] 25)) := ⟨_, rfl⟩
        have hwa : wa.heap.size = x + 1 := by rw [HA.out, HX.out]; simp
        have hda : Duo (Off w.heap.size x) (NetAt d nodes lb P) (RNetAt r nodes lb P) wa := HA.out ▸ hd.beside (NetAt.framed _ _ _ _) (RNetAt.framed _ _ _ _) hga fun b hb hs => ⟨hb, by have := HX.out; simp at hs; omega⟩
        have hBx : Blk wa x 25 #[.int .i64 kd, .int .i64 aa, .int .i64 bb, .int .i64 ii, .slice Ab mb cb] := by rw [HA.out, HX.out]; exact hBx0
        have hbla : Below w.heap.size w wa := HA.out ▸ below_trans hbl hga hbl.size
        have hdsa : ∀ w1, Just (Off w.heap.size x) wa w1 → BIn w1 D Ab mb bs := fun w1 hj => In.keep hds fun b hb hlt => (hj.block b (Nat.lt_of_lt_of_le (hD b hb) hbla.size) (fun h => by have := h.1; have := hD b hb; omega)).trans (hbla.block b (hD b hb))
        have hlow : w.heap.size ≤ x := by have := HX.out; have := hbl.size; omega
        clear hBx0 hd hds hga hbl
        by_cases h2 : kd = 2
        · skip
          subst h2
          have hTL := fun w1 => Deliver_int w1 d nodes lb P ii
          have hTR := fun w1 => rDeliver_int w1 r nodes lb P ii
          generalize delB lb P ii = dl at hTL hTR
          generalize delE lb P ii = EE at hTL hTR
          generalize delL lb P ii = l2 at hTL hTR
          obtain ⟨f, t, ds⟩ := dl
          dsimp only at hTL hTR
          have hgb : Grow wa ((wa.alloc (.cells #[.int .i64 0, .int .i64 0, .slice none 0 0] 35)).alloc (.cells #[.int .i64 0, .int .i64 0, .string ⟨#[]⟩] 50)) := ((Below.refl wa.heap.size wa).alloc (Nat.le_refl _) _).alloc (by simp) _
          have hBy0 := (Blk.made wa 35 #[.int .i64 0, .int .i64 0, .slice none 0 0]).alloc (.cells #[.int .i64 0, .int .i64 0, .string ⟨#[]⟩] 50)
          have hBz0 := Blk.made (wa.alloc (.cells #[.int .i64 0, .int .i64 0, .slice none 0 0] 35)) 50 #[.int .i64 0, .int .i64 0, .string ⟨#[]⟩]
          rw [alloc_size, hwa] at hBz0
          rw [hwa] at hBy0
          obtain ⟨wb, HB⟩ : ∃ wb : World, Hid (wb = (wa.alloc (.cells #[.int .i64 0, .int .i64 0, .slice none 0 0] 35)).alloc (.cells #[.int .i64 0, .int .i64 0, .string ⟨#[]⟩] 50)) := ⟨_, rfl⟩
          have hwb : wb.heap.size = x + 3 := by rw [HB.out]; simp [hwa]
          rw [← HB.out] at hgb hBy0 hBz0
          have hBxb := hBx.grow hgb
          have hdb : Duo (Off3 w.heap.size x) (NetAt d nodes lb P) (RNetAt r nodes lb P) wb := hda.beside (NetAt.framed _ _ _ _) (RNetAt.framed _ _ _ _) hgb fun b hb hs => ⟨hb.1, hb.2, by omega, by omega⟩
          have hblb := below_trans hbla hgb hbla.size
          clear hda hbla hdsa hgb
          have nx : ¬ Off3 w.heap.size x x := fun h => h.2.1 rfl
          have ny : ¬ Off3 w.heap.size x (x + 1) := fun h => h.2.2.1 rfl
          have nz : ¬ Off3 w.heap.size x (x + 1 + 1) := fun h => h.2.2.2 rfl
          go_wp2_with fail
          rw [← HA.out, ← HX.out, ← HB.out]
          refine (hdb.leftE (RNetAt.framed _ _ _ _) (hTL wb)).mono ?_
          rintro e w1 ⟨⟨A1, m1, c1⟩, rfl, hj1, hd1⟩
          have hBx1 := hj1.blk hBxb nx
          have hBy1 := hj1.blk hBy0 ny
          have hBz1 := hj1.blk hBz0 nz
          have hbl1 := hblb.trans (hj1.below (fun b hb => hb.1) hblb.size)
          clear hdb hblb hBxb hBy0 hBz0 hj1 hTL
          have f10 := hBy1.frozen 0
          have f11 := hBy1.frozen 1
          have f12 := hBy1.frozen 2
          have y10 := hBy1.cell 0
          have y11 := hBy1.cell 1
          have y12 := hBy1.cell 2
          have hBy2 := ((hBy1.put 0 (.int .i64 f)).put 1 (.int .i64 t)).put 2 (.slice A1 m1 c1)
          have hBx2 := ((hBx1.far (p := ⟨x + 1, 0, none⟩) (by simp) (.int .i64 f)).far (p := ⟨x + 1, 1, none⟩) (by simp) (.int .i64 t)).far (p := ⟨x + 1, 2, none⟩) (by simp) (.slice A1 m1 c1)
          have hBz2 := ((hBz1.far (p := ⟨x + 1, 0, none⟩) (by simp) (.int .i64 f)).far (p := ⟨x + 1, 1, none⟩) (by simp) (.int .i64 t)).far (p := ⟨x + 1, 2, none⟩) (by simp) (.slice A1 m1 c1)
          have hj2 : Just (fun b => b = x + 1) w1 (((w1.setCell ⟨x + 1, 0, none⟩ (.int .i64 f)).setCell ⟨x + 1, 1, none⟩ (.int .i64 t)).setCell ⟨x + 1, 2, none⟩ (.slice A1 m1 c1)) := (((Just.of_grow (Grow.refl w1)).put (V := fun b => b = x + 1) rfl 0 _).put rfl 1 _).put rfl 2 _
          have x23 := hBx2.cell 3
          go_wp2_with fail
          obtain ⟨w2, HW2⟩ : ∃ w2 : World, Hid (w2 = (((w1.setCell ⟨x + 1, 0, none⟩ (.int .i64 f)).setCell ⟨x + 1, 1, none⟩ (.int .i64 t)).setCell ⟨x + 1, 2, none⟩ (.slice A1 m1 c1))) := ⟨_, rfl⟩
          rw [← HW2.out] at hBx2 hBy2 hBz2 hj2 ⊢
          have hd2 := hd1.else_ (Taken.framed _ _ _ _ _ _) (RNetAt.framed _ _ _ _) hj2 (fun b hb h => ny (by rw [← show b = x + 1 from hb]; exact h))
          have hbl2 := hbl1.trans (hj2.below (B := w.heap.size) (fun b hb => by rw [show b = x + 1 from hb]; omega) hbl1.size)
          refine (hd2.right (Taken.framed _ _ _ _ _ _) (hTR w2)).mono ?_
          rintro e w3 ⟨rfl, hj3, hd3⟩
          clear x23 y10 y11 y12 f10 f11 f12 hBx1 hBy1 hBz1 hBx2 hj2 hd1 hd2 hTR hbl1
          have hBy3 := hj3.blk hBy2 ny
          have hBz3 := hj3.blk hBz2 nz
          have hbl3 := hbl2.trans (hj3.below (fun b hb => hb.1) hbl2.size)
          clear hBy2 hBz2 hj3 hbl2
          have f30 := hBz3.frozen 0
          have f31 := hBz3.frozen 1
          have f32 := hBz3.frozen 2
          have z30 := hBz3.cell 0
          have z31 := hBz3.cell 1
          have z32 := hBz3.cell 2
          have hBz4 := ((hBz3.put 0 (.int .i64 f)).put 1 (.int .i64 t)).put 2 (.string ⟨ds.toArray⟩)
          have hBy4 := ((hBy3.far (p := ⟨x + 1 + 1, 0, none⟩) (by simp) (.int .i64 f)).far (p := ⟨x + 1 + 1, 1, none⟩) (by simp) (.int .i64 t)).far (p := ⟨x + 1 + 1, 2, none⟩) (by simp) (.string ⟨ds.toArray⟩)
          have hj4 : Just (fun b => b = x + 1 + 1) w3 (((w3.setCell ⟨x + 2, 0, none⟩ (.int .i64 f)).setCell ⟨x + 2, 1, none⟩ (.int .i64 t)).setCell ⟨x + 2, 2, none⟩ (.string ⟨ds.toArray⟩)) := (((Just.of_grow (Grow.refl w3)).put (V := fun b => b = x + 1 + 1) rfl 0 _).put rfl 1 _).put rfl 2 _
          have hd4 := hd3.else_ (Taken.framed _ _ _ _ _ _) (RNetAt.framed _ _ _ _) hj4 (fun b hb h => nz (by rw [← show b = x + 1 + 1 from hb]; exact h))
          have hb6 := hbl3.trans (hj4.below (B := w.heap.size) (fun b hb => by rw [show b = x + 1 + 1 from hb]; omega) hbl3.size)
          have cv : (convert 23 9 (.slice A1 m1 c1)).run Try.prog (((w3.setCell ⟨x + 2, 0, none⟩ (.int .i64 f)).setCell ⟨x + 2, 1, none⟩ (.int .i64 t)).setCell ⟨x + 2, 2, none⟩ (.string ⟨ds.toArray⟩)) = .ok (.string ⟨ds.toArray⟩) (((w3.setCell ⟨x + 2, 0, none⟩ (.int .i64 f)).setCell ⟨x + 2, 1, none⟩ (.int .i64 t)).setCell ⟨x + 2, 2, none⟩ (.string ⟨ds.toArray⟩)) := by
            obtain ⟨V, hT, _⟩ := hd4.get1
            exact conv_bin _ hT.2.1
          have hd6 : Duo (Off w.heap.size x) (NetAt d nodes l2 P) (RNetAt r nodes l2 P) (((w3.setCell ⟨x + 2, 0, none⟩ (.int .i64 f)).setCell ⟨x + 2, 1, none⟩ (.int .i64 t)).setCell ⟨x + 2, 2, none⟩ (.string ⟨ds.toArray⟩)) := (Duo.turn hd4 fun V h => h.1).wide fun b hb => ⟨hb.1, hb.2.1⟩
          have y40 := hBy4.cell 0
          have y41 := hBy4.cell 1
          have y42 := hBy4.cell 2
          have z40 := hBz4.cell 0
          have z41 := hBz4.cell 1
          have z42 := hBz4.cell 2
          clear hBy3 hBz3 hbl3 hj4 hd3 hd4 hBy4 hBz4
          go_wp2_with fail
          obtain ⟨w4, HW4⟩ : ∃ w4 : World, Hid (w4 = (((w3.setCell ⟨x + 2, 0, none⟩ (.int .i64 f)).setCell ⟨x + 2, 1, none⟩ (.int .i64 t)).setCell ⟨x + 2, 2, none⟩ (.string ⟨ds.toArray⟩))) := ⟨_, rfl⟩
          rw [← HW4.out] at hd6 hb6 ⊢
          obtain ⟨_, V, U, hq6, hr6, _, hV6, hU6⟩ := id hd6
          refine (same_any _ d r nodes nodes l2 P P V U hq6 hr6).mono ?_
          rintro e w7 ⟨rfl, hg7⟩
          clear hq6 hr6 hV6 hU6 cv y40 y41 y42 z40 z41 z42 z30 z31 z32 f30 f31 f32
          go_wp2_with fail
          go_roundw
          case rel => exact ⟨k + 1, l2, P, by omega, by omega, by go_num, (hd6.grow (NetAt.framed _ _ _ _) (RNetAt.framed _ _ _ _) hg7).wide (fun b hb => hb.1), below_trans hb6 hg7 hb6.size⟩
          case measure => simp [intOf]; omega
        by_cases h3 : kd = 3
        · subst h3
          go_wp2_with fail
          rw [← HA.out, ← HX.out]
          refine wp_region_reg rfl ?_
          refine reg_flow (DuoSt (Off w.heap.size x) (NetAt d nodes lb P) (NetAt d nodes (dropL lb ii) P) (RNetAt r nodes lb P) (RNetAt r nodes (dropL lb ii) P) 3 7) (duoSt_ok (NetAt.framed _ _ _ _) (NetAt.framed _ _ _ _) (RNetAt.framed _ _ _ _) (RNetAt.framed _ _ _ _)) 0 10 156 [(3, .inl (.int .i64 (dropE lb ii))), (7, .inl (.int .i64 (dropE lb ii)))] rfl (by kernel_rfl) (by kernel_rfl) (by kernel_rfl) ?_ (Just.of_grow (Grow.refl _).drew) (hda.grow (NetAt.framed _ _ _ _) (RNetAt.framed _ _ _ _) (Grow.refl _).drew) ?_
          · intro x hx φ he
            simp only [List.mem_cons, List.not_mem_nil, or_false] at hx
            rcases hx with rfl | rfl <;> cases he
          intro ops' A' K' T hops hA' hK hT
          refine fl_mv 101 (by rfl) (by decide) (wanted_none (by rfl)) (by rw [hK.out]; rfl) (by rfl) _ (Or.inl (by rfl)) (.pointer (some ⟨d, 0, none⟩)) (by rfl) ?_
          refine fl_op1 102 (by rfl) (by decide) (wanted_none (by rfl)) (by rw [hK.out]; rfl) (by rfl) (.tmp 8) (.pointer (some ⟨x, 0, none⟩)) (by rfl) (.pointer (some ⟨x, 3, none⟩)) (fun ρ h1 kk w1 (hg : Just (Off w.heap.size x) _ w1) hb hf => by go_simp) ?_
          refine fl_op1 103 (by rfl) (by decide) (wanted_none (by rfl)) (by rw [hK.out]; rfl) (by rfl) (.tmp 102) (.pointer (some ⟨x, 3, none⟩)) (by rfl) (.int .i64 ii) (fun ρ h1 kk w1 (hg : Just (Off w.heap.size x) _ w1) hb hf => by have c := (hg.blk hBx (fun h => h.2 rfl)).cell 3; go_simp) ?_
          refine fl_call 104 (by rfl) (by decide) (wanted_none (by rfl)) (.int .i64 (dropE lb ii)) (by rw [hK.out]; rfl) 18 _ _ (by rfl) [.pointer (some ⟨d, 0, none⟩), .int .i64 ii] (by rfl) k18 (fun kk w1 (hg : Just (Off w.heap.size x) _ w1) hb hf => calls_turn 0 (by rfl) (by obtain rfl := before_some 0 (by rfl) hb; have hI := hb.1; exact hI.left (RNetAt.framed _ _ _ _) (Drop_int w1 d nodes lb P ii))) ?_
          refine fl_mv 105 (by rfl) (by decide) (wanted_none (by rfl)) (by rw [hK.out]; rfl) (by rfl) _ (Or.inl (by rfl)) (.pointer (some ⟨r, 0, none⟩)) (by rfl) ?_
          refine fl_op1 106 (by rfl) (by decide) (wanted_none (by rfl)) (by rw [hK.out]; rfl) (by rfl) (.tmp 8) (.pointer (some ⟨x, 0, none⟩)) (by rfl) (.pointer (some ⟨x, 3, none⟩)) (fun ρ h1 kk w1 (hg : Just (Off w.heap.size x) _ w1) hb hf => by go_simp) ?_
          refine fl_op1 107 (by rfl) (by decide) (wanted_none (by rfl)) (by rw [hK.out]; rfl) (by rfl) (.tmp 106) (.pointer (some ⟨x, 3, none⟩)) (by rfl) (.int .i64 ii) (fun ρ h1 kk w1 (hg : Just (Off w.heap.size x) _ w1) hb hf => by have c := (hg.blk hBx (fun h => h.2 rfl)).cell 3; go_simp) ?_
          refine fl_call 108 (by rfl) (by decide) (wanted_none (by rfl)) (.int .i64 (dropE lb ii)) (by rw [hK.out]; rfl) 19 _ _ (by rfl) [.pointer (some ⟨r, 0, none⟩), .int .i64 ii] (by rfl) k19 (fun kk w1 (hg : Just (Off w.heap.size x) _ w1) hb hf => calls_turn 1 (by rfl) (by obtain rfl := before_some 1 (by rfl) hb; have hI := hb.1; exact hI.right (NetAt.framed _ _ _ _) (rDrop_int w1 r nodes lb P ii))) ?_
          refine fl_mv 9 (by rfl) (by decide) (wanted_none (by rfl)) (by rw [hK.out]; rfl) (by rfl) _ (Or.inr (by rfl)) (.int .i64 (dropE lb ii)) (by rfl) ?_
          refine fl_mv 10 (by rfl) (by decide) (wanted_none (by rfl)) (by rw [hK.out]; rfl) (by rfl) _ (Or.inr (by rfl)) (.int .i64 (dropE lb ii)) (by rfl) ?_
          refine fl_end (fun _ _ w1 (hg : Just (Off w.heap.size x) _ w1) hend hfacts => hT _ _ ?_)
          clear hops hA' hK hT
          simp only [putsL, Act.put, List.setIfInBounds_toArray, List.set_cons_zero, List.set_cons_succ]
          refine reg_end ?_
          have hd6 : Duo (Off w.heap.size x) (NetAt d nodes (dropL lb ii) P) (RNetAt r nodes (dropL lb ii) P) w1 := hend
          have hb6 := hbla.trans (hg.below (B := w.heap.size) (fun b hb => hb.1) hbla.size)
          clear hend hfacts hda hbla hg HA
          generalize hl2 : (dropL lb ii) = l2 at hd6
          generalize hp2 : P = p2 at hd6
          generalize (dropE lb ii) = EE
          clear hl2 hp2
          obtain ⟨_, V, U, hq6, hr6, _, hV6, hU6⟩ := id hd6
          go_wp2_with fail
          refine (same_any _ d r nodes nodes l2 p2 p2 V U hq6 hr6).mono ?_
          rintro e w7 ⟨rfl, hg7⟩
          clear hq6 hr6 hV6 hU6
          go_wp2_with fail
          go_roundw
          case rel => exact ⟨k + 1, l2, p2, by omega, by omega, by go_num, (hd6.grow (NetAt.framed _ _ _ _) (RNetAt.framed _ _ _ _) hg7).wide (fun b hb => hb.1), below_trans hb6 hg7 hb6.size⟩
          case measure => simp [intOf]; omega
        by_cases h4 : kd = 4
        · subst h4
          go_wp2_with fail
          rw [← HA.out, ← HX.out]
          refine wp_region_reg rfl ?_
          refine reg_flow (DuoSt (Off w.heap.size x) (NetAt d nodes lb P) (NetAt d nodes (twiceL nodes lb ii) P) (RNetAt r nodes lb P) (RNetAt r nodes (twiceL nodes lb ii) P) 3 7) (duoSt_ok (NetAt.framed _ _ _ _) (NetAt.framed _ _ _ _) (RNetAt.framed _ _ _ _) (RNetAt.framed _ _ _ _)) 0 10 156 [(3, .inl (.int .i64 (twiceE nodes lb ii))), (7, .inl (.int .i64 (twiceE nodes lb ii)))] rfl (by kernel_rfl) (by kernel_rfl) (by kernel_rfl) ?_ (Just.of_grow (Grow.refl _).drew) (hda.grow (NetAt.framed _ _ _ _) (RNetAt.framed _ _ _ _) (Grow.refl _).drew) ?_
          · intro x hx φ he
            simp only [List.mem_cons, List.not_mem_nil, or_false] at hx
            rcases hx with rfl | rfl <;> cases he
          intro ops' A' K' T hops hA' hK hT
          refine fl_mv 111 (by rfl) (by decide) (wanted_none (by rfl)) (by rw [hK.out]; rfl) (by rfl) _ (Or.inl (by rfl)) (.pointer (some ⟨d, 0, none⟩)) (by rfl) ?_
          refine fl_op1 112 (by rfl) (by decide) (wanted_none (by rfl)) (by rw [hK.out]; rfl) (by rfl) (.tmp 8) (.pointer (some ⟨x, 0, none⟩)) (by rfl) (.pointer (some ⟨x, 3, none⟩)) (fun ρ h1 kk w1 (hg : Just (Off w.heap.size x) _ w1) hb hf => by go_simp) ?_
          refine fl_op1 113 (by rfl) (by decide) (wanted_none (by rfl)) (by rw [hK.out]; rfl) (by rfl) (.tmp 112) (.pointer (some ⟨x, 3, none⟩)) (by rfl) (.int .i64 ii) (fun ρ h1 kk w1 (hg : Just (Off w.heap.size x) _ w1) hb hf => by have c := (hg.blk hBx (fun h => h.2 rfl)).cell 3; go_simp) ?_
          refine fl_call 114 (by rfl) (by decide) (wanted_none (by rfl)) (.int .i64 (twiceE nodes lb ii)) (by rw [hK.out]; rfl) 15 _ _ (by rfl) [.pointer (some ⟨d, 0, none⟩), .int .i64 ii] (by rfl) k15 (fun kk w1 (hg : Just (Off w.heap.size x) _ w1) hb hf => calls_turn 0 (by rfl) (by obtain rfl := before_some 0 (by rfl) hb; have hI := hb.1; exact hI.left (RNetAt.framed _ _ _ _) (Twice_int w1 d nodes lb P ii))) ?_
          refine fl_mv 115 (by rfl) (by decide) (wanted_none (by rfl)) (by rw [hK.out]; rfl) (by rfl) _ (Or.inl (by rfl)) (.pointer (some ⟨r, 0, none⟩)) (by rfl) ?_
          refine fl_op1 116 (by rfl) (by decide) (wanted_none (by rfl)) (by rw [hK.out]; rfl) (by rfl) (.tmp 8) (.pointer (some ⟨x, 0, none⟩)) (by rfl) (.pointer (some ⟨x, 3, none⟩)) (fun ρ h1 kk w1 (hg : Just (Off w.heap.size x) _ w1) hb hf => by go_simp) ?_
          refine fl_op1 117 (by rfl) (by decide) (wanted_none (by rfl)) (by rw [hK.out]; rfl) (by rfl) (.tmp 116) (.pointer (some ⟨x, 3, none⟩)) (by rfl) (.int .i64 ii) (fun ρ h1 kk w1 (hg : Just (Off w.heap.size x) _ w1) hb hf => by have c := (hg.blk hBx (fun h => h.2 rfl)).cell 3; go_simp) ?_
          refine fl_call 118 (by rfl) (by decide) (wanted_none (by rfl)) (.int .i64 (twiceE nodes lb ii)) (by rw [hK.out]; rfl) 20 _ _ (by rfl) [.pointer (some ⟨r, 0, none⟩), .int .i64 ii] (by rfl) k20 (fun kk w1 (hg : Just (Off w.heap.size x) _ w1) hb hf => calls_turn 1 (by rfl) (by obtain rfl := before_some 1 (by rfl) hb; have hI := hb.1; exact hI.right (NetAt.framed _ _ _ _) (rTwice_int w1 r nodes lb P ii))) ?_
          refine fl_mv 9 (by rfl) (by decide) (wanted_none (by rfl)) (by rw [hK.out]; rfl) (by rfl) _ (Or.inr (by rfl)) (.int .i64 (twiceE nodes lb ii)) (by rfl) ?_
          refine fl_mv 10 (by rfl) (by decide) (wanted_none (by rfl)) (by rw [hK.out]; rfl) (by rfl) _ (Or.inr (by rfl)) (.int .i64 (twiceE nodes lb ii)) (by rfl) ?_
          refine fl_end (fun _ _ w1 (hg : Just (Off w.heap.size x) _ w1) hend hfacts => hT _ _ ?_)
          clear hops hA' hK hT
          simp only [putsL, Act.put, List.setIfInBounds_toArray, List.set_cons_zero, List.set_cons_succ]
          refine reg_end ?_
          have hd6 : Duo (Off w.heap.size x) (NetAt d nodes (twiceL nodes lb ii) P) (RNetAt r nodes (twiceL nodes lb ii) P) w1 := hend
          have hb6 := hbla.trans (hg.below (B := w.heap.size) (fun b hb => hb.1) hbla.size)
          clear hend hfacts hda hbla hg HA
          generalize hl2 : (twiceL nodes lb ii) = l2 at hd6
          generalize hp2 : P = p2 at hd6
          generalize (twiceE nodes lb ii) = EE
          clear hl2 hp2
          obtain ⟨_, V, U, hq6, hr6, _, hV6, hU6⟩ := id hd6
          go_wp2_with fail
          refine (same_any _ d r nodes nodes l2 p2 p2 V U hq6 hr6).mono ?_
          rintro e w7 ⟨rfl, hg7⟩
          clear hq6 hr6 hV6 hU6
          go_wp2_with fail
          go_roundw
          case rel => exact ⟨k + 1, l2, p2, by omega, by omega, by go_num, (hd6.grow (NetAt.framed _ _ _ _) (RNetAt.framed _ _ _ _) hg7).wide (fun b hb => hb.1), below_trans hb6 hg7 hb6.size⟩
          case measure => simp [intOf]; omega
        by_cases h5 : kd = 5
        · subst h5
          go_wp2_with fail
          rw [← HA.out, ← HX.out]
          refine wp_region_reg rfl ?_
          refine reg_flow (DuoSt (Off w.heap.size x) (NetAt d nodes lb P) (NetAt d nodes lb (setP nodes aa bb true P)) (RNetAt r nodes lb P) (RNetAt r nodes lb (setP nodes aa bb true P)) 5 11) (duoSt_ok (NetAt.framed _ _ _ _) (NetAt.framed _ _ _ _) (RNetAt.framed _ _ _ _) (RNetAt.framed _ _ _ _)) 0 14 156 [(5, .inl (.int .i64 (setE nodes aa bb))), (11, .inl (.int .i64 (setE nodes aa bb)))] rfl (by kernel_rfl) (by kernel_rfl) (by kernel_rfl) ?_ (Just.of_grow (Grow.refl _).drew) (hda.grow (NetAt.framed _ _ _ _) (RNetAt.framed _ _ _ _) (Grow.refl _).drew) ?_
          · intro x hx φ he
            simp only [List.mem_cons, List.not_mem_nil, or_false] at hx
            rcases hx with rfl | rfl <;> cases he
          intro ops' A' K' T hops hA' hK hT
          refine fl_mv 121 (by rfl) (by decide) (wanted_none (by rfl)) (by rw [hK.out]; rfl) (by rfl) _ (Or.inl (by rfl)) (.pointer (some ⟨d, 0, none⟩)) (by rfl) ?_
          refine fl_op1 122 (by rfl) (by decide) (wanted_none (by rfl)) (by rw [hK.out]; rfl) (by rfl) (.tmp 8) (.pointer (some ⟨x, 0, none⟩)) (by rfl) (.pointer (some ⟨x, 1, none⟩)) (fun ρ h1 kk w1 (hg : Just (Off w.heap.size x) _ w1) hb hf => by go_simp) ?_
          refine fl_op1 123 (by rfl) (by decide) (wanted_none (by rfl)) (by rw [hK.out]; rfl) (by rfl) (.tmp 122) (.pointer (some ⟨x, 1, none⟩)) (by rfl) (.int .i64 aa) (fun ρ h1 kk w1 (hg : Just (Off w.heap.size x) _ w1) hb hf => by have c := (hg.blk hBx (fun h => h.2 rfl)).cell 1; go_simp) ?_
          refine fl_op1 124 (by rfl) (by decide) (wanted_none (by rfl)) (by rw [hK.out]; rfl) (by rfl) (.tmp 8) (.pointer (some ⟨x, 0, none⟩)) (by rfl) (.pointer (some ⟨x, 2, none⟩)) (fun ρ h1 kk w1 (hg : Just (Off w.heap.size x) _ w1) hb hf => by go_simp) ?_
          refine fl_op1 125 (by rfl) (by decide) (wanted_none (by rfl)) (by rw [hK.out]; rfl) (by rfl) (.tmp 124) (.pointer (some ⟨x, 2, none⟩)) (by rfl) (.int .i64 bb) (fun ρ h1 kk w1 (hg : Just (Off w.heap.size x) _ w1) hb hf => by have c := (hg.blk hBx (fun h => h.2 rfl)).cell 2; go_simp) ?_
          refine fl_call 126 (by rfl) (by decide) (wanted_none (by rfl)) (.int .i64 (setE nodes aa bb)) (by rw [hK.out]; rfl) 11 _ _ (by rfl) [.pointer (some ⟨d, 0, none⟩), .int .i64 aa, .int .i64 bb] (by rfl) k11 (fun kk w1 (hg : Just (Off w.heap.size x) _ w1) hb hf => calls_turn 0 (by rfl) (by obtain rfl := before_some 0 (by rfl) hb; have hI := hb.1; exact hI.left (RNetAt.framed _ _ _ _) (Part_any w1 d nodes lb P aa bb))) ?_
          refine fl_mv 127 (by rfl) (by decide) (wanted_none (by rfl)) (by rw [hK.out]; rfl) (by rfl) _ (Or.inl (by rfl)) (.pointer (some ⟨r, 0, none⟩)) (by rfl) ?_
          refine fl_op1 128 (by rfl) (by decide) (wanted_none (by rfl)) (by rw [hK.out]; rfl) (by rfl) (.tmp 8) (.pointer (some ⟨x, 0, none⟩)) (by rfl) (.pointer (some ⟨x, 1, none⟩)) (fun ρ h1 kk w1 (hg : Just (Off w.heap.size x) _ w1) hb hf => by go_simp) ?_
          refine fl_op1 129 (by rfl) (by decide) (wanted_none (by rfl)) (by rw [hK.out]; rfl) (by rfl) (.tmp 128) (.pointer (some ⟨x, 1, none⟩)) (by rfl) (.int .i64 aa) (fun ρ h1 kk w1 (hg : Just (Off w.heap.size x) _ w1) hb hf => by have c := (hg.blk hBx (fun h => h.2 rfl)).cell 1; go_simp) ?_
          refine fl_op1 130 (by rfl) (by decide) (wanted_none (by rfl)) (by rw [hK.out]; rfl) (by rfl) (.tmp 8) (.pointer (some ⟨x, 0, none⟩)) (by rfl) (.pointer (some ⟨x, 2, none⟩)) (fun ρ h1 kk w1 (hg : Just (Off w.heap.size x) _ w1) hb hf => by go_simp) ?_
          refine fl_op1 131 (by rfl) (by decide) (wanted_none (by rfl)) (by rw [hK.out]; rfl) (by rfl) (.tmp 130) (.pointer (some ⟨x, 2, none⟩)) (by rfl) (.int .i64 bb) (fun ρ h1 kk w1 (hg : Just (Off w.heap.size x) _ w1) hb hf => by have c := (hg.blk hBx (fun h => h.2 rfl)).cell 2; go_simp) ?_
          refine fl_call 132 (by rfl) (by decide) (wanted_none (by rfl)) (.int .i64 (setE nodes aa bb)) (by rw [hK.out]; rfl) 21 _ _ (by rfl) [.pointer (some ⟨r, 0, none⟩), .int .i64 aa, .int .i64 bb, .bool true] (by rfl) k21 (fun kk w1 (hg : Just (Off w.heap.size x) _ w1) hb hf => calls_turn 1 (by rfl) (by obtain rfl := before_some 1 (by rfl) hb; have hI := hb.1; exact hI.right (NetAt.framed _ _ _ _) (rSet_any w1 r nodes lb P aa bb true))) ?_
          refine fl_mv 9 (by rfl) (by decide) (wanted_none (by rfl)) (by rw [hK.out]; rfl) (by rfl) _ (Or.inr (by rfl)) (.int .i64 (setE nodes aa bb)) (by rfl) ?_
          refine fl_mv 10 (by rfl) (by decide) (wanted_none (by rfl)) (by rw [hK.out]; rfl) (by rfl) _ (Or.inr (by rfl)) (.int .i64 (setE nodes aa bb)) (by rfl) ?_
          refine fl_end (fun _ _ w1 (hg : Just (Off w.heap.size x) _ w1) hend hfacts => hT _ _ ?_)
          clear hops hA' hK hT
          simp only [putsL, Act.put, List.setIfInBounds_toArray, List.set_cons_zero, List.set_cons_succ]
          refine reg_end ?_
          have hd6 : Duo (Off w.heap.size x) (NetAt d nodes lb (setP nodes aa bb true P)) (RNetAt r nodes lb (setP nodes aa bb true P)) w1 := hend
          have hb6 := hbla.trans (hg.below (B := w.heap.size) (fun b hb => hb.1) hbla.size)
          clear hend hfacts hda hbla hg HA
          generalize hl2 : lb = l2 at hd6
          generalize hp2 : (setP nodes aa bb true P) = p2 at hd6
          generalize (setE nodes aa bb) = EE
          clear hl2 hp2
          obtain ⟨_, V, U, hq6, hr6, _, hV6, hU6⟩ := id hd6
          go_wp2_with fail
          refine (same_any _ d r nodes nodes l2 p2 p2 V U hq6 hr6).mono ?_
          rintro e w7 ⟨rfl, hg7⟩
          clear hq6 hr6 hV6 hU6
          go_wp2_with fail
          go_roundw
          case rel => exact ⟨k + 1, l2, p2, by omega, by omega, by go_num, (hd6.grow (NetAt.framed _ _ _ _) (RNetAt.framed _ _ _ _) hg7).wide (fun b hb => hb.1), below_trans hb6 hg7 hb6.size⟩
          case measure => simp [intOf]; omega
        by_cases h6 : kd = 6
        · subst h6
          go_wp2_with fail
          rw [← HA.out, ← HX.out]
          refine wp_region_reg rfl ?_
          refine reg_flow (DuoSt (Off w.heap.size x) (NetAt d nodes lb P) (NetAt d nodes lb (setP nodes aa bb false P)) (RNetAt r nodes lb P) (RNetAt r nodes lb (setP nodes aa bb false P)) 5 11) (duoSt_ok (NetAt.framed _ _ _ _) (NetAt.framed _ _ _ _) (RNetAt.framed _ _ _ _) (RNetAt.framed _ _ _ _)) 0 14 156 [(5, .inl (.int .i64 (setE nodes aa bb))), (11, .inl (.int .i64 (setE nodes aa bb)))] rfl (by kernel_rfl) (by kernel_rfl) (by kernel_rfl) ?_ (Just.of_grow (Grow.refl _).drew) (hda.grow (NetAt.framed _ _ _ _) (RNetAt.framed _ _ _ _) (Grow.refl _).drew) ?_
          · intro x hx φ he
            simp only [List.mem_cons, List.not_mem_nil, or_false] at hx
            rcases hx with rfl | rfl <;> cases he
          intro ops' A' K' T hops hA' hK hT
          refine fl_mv 135 (by rfl) (by decide) (wanted_none (by rfl)) (by rw [hK.out]; rfl) (by rfl) _ (Or.inl (by rfl)) (.pointer (some ⟨d, 0, none⟩)) (by rfl) ?_
          refine fl_op1 136 (by rfl) (by decide) (wanted_none (by rfl)) (by rw [hK.out]; rfl) (by rfl) (.tmp 8) (.pointer (some ⟨x, 0, none⟩)) (by rfl) (.pointer (some ⟨x, 1, none⟩)) (fun ρ h1 kk w1 (hg : Just (Off w.heap.size x) _ w1) hb hf => by go_simp) ?_
          refine fl_op1 137 (by rfl) (by decide) (wanted_none (by rfl)) (by rw [hK.out]; rfl) (by rfl) (.tmp 136) (.pointer (some ⟨x, 1, none⟩)) (by rfl) (.int .i64 aa) (fun ρ h1 kk w1 (hg : Just (Off w.heap.size x) _ w1) hb hf => by have c := (hg.blk hBx (fun h => h.2 rfl)).cell 1; go_simp) ?_
          refine fl_op1 138 (by rfl) (by decide) (wanted_none (by rfl)) (by rw [hK.out]; rfl) (by rfl) (.tmp 8) (.pointer (some ⟨x, 0, none⟩)) (by rfl) (.pointer (some ⟨x, 2, none⟩)) (fun ρ h1 kk w1 (hg : Just (Off w.heap.size x) _ w1) hb hf => by go_simp) ?_
          refine fl_op1 139 (by rfl) (by decide) (wanted_none (by rfl)) (by rw [hK.out]; rfl) (by rfl) (.tmp 138) (.pointer (some ⟨x, 2, none⟩)) (by rfl) (.int .i64 bb) (fun ρ h1 kk w1 (hg : Just (Off w.heap.size x) _ w1) hb hf => by have c := (hg.blk hBx (fun h => h.2 rfl)).cell 2; go_simp) ?_
          refine fl_call 140 (by rfl) (by decide) (wanted_none (by rfl)) (.int .i64 (setE nodes aa bb)) (by rw [hK.out]; rfl) 14 _ _ (by rfl) [.pointer (some ⟨d, 0, none⟩), .int .i64 aa, .int .i64 bb] (by rfl) k14 (fun kk w1 (hg : Just (Off w.heap.size x) _ w1) hb hf => calls_turn 0 (by rfl) (by obtain rfl := before_some 0 (by rfl) hb; have hI := hb.1; exact hI.left (RNetAt.framed _ _ _ _) (Heal_any w1 d nodes lb P aa bb))) ?_
          refine fl_mv 141 (by rfl) (by decide) (wanted_none (by rfl)) (by rw [hK.out]; rfl) (by rfl) _ (Or.inl (by rfl)) (.pointer (some ⟨r, 0, none⟩)) (by rfl) ?_
          refine fl_op1 142 (by rfl) (by decide) (wanted_none (by rfl)) (by rw [hK.out]; rfl) (by rfl) (.tmp 8) (.pointer (some ⟨x, 0, none⟩)) (by rfl) (.pointer (some ⟨x, 1, none⟩)) (fun ρ h1 kk w1 (hg : Just (Off w.heap.size x) _ w1) hb hf => by go_simp) ?_
          refine fl_op1 143 (by rfl) (by decide) (wanted_none (by rfl)) (by rw [hK.out]; rfl) (by rfl) (.tmp 142) (.pointer (some ⟨x, 1, none⟩)) (by rfl) (.int .i64 aa) (fun ρ h1 kk w1 (hg : Just (Off w.heap.size x) _ w1) hb hf => by have c := (hg.blk hBx (fun h => h.2 rfl)).cell 1; go_simp) ?_
          refine fl_op1 144 (by rfl) (by decide) (wanted_none (by rfl)) (by rw [hK.out]; rfl) (by rfl) (.tmp 8) (.pointer (some ⟨x, 0, none⟩)) (by rfl) (.pointer (some ⟨x, 2, none⟩)) (fun ρ h1 kk w1 (hg : Just (Off w.heap.size x) _ w1) hb hf => by go_simp) ?_
          refine fl_op1 145 (by rfl) (by decide) (wanted_none (by rfl)) (by rw [hK.out]; rfl) (by rfl) (.tmp 144) (.pointer (some ⟨x, 2, none⟩)) (by rfl) (.int .i64 bb) (fun ρ h1 kk w1 (hg : Just (Off w.heap.size x) _ w1) hb hf => by have c := (hg.blk hBx (fun h => h.2 rfl)).cell 2; go_simp) ?_
          refine fl_call 146 (by rfl) (by decide) (wanted_none (by rfl)) (.int .i64 (setE nodes aa bb)) (by rw [hK.out]; rfl) 21 _ _ (by rfl) [.pointer (some ⟨r, 0, none⟩), .int .i64 aa, .int .i64 bb, .bool false] (by rfl) k21 (fun kk w1 (hg : Just (Off w.heap.size x) _ w1) hb hf => calls_turn 1 (by rfl) (by obtain rfl := before_some 1 (by rfl) hb; have hI := hb.1; exact hI.right (NetAt.framed _ _ _ _) (rSet_any w1 r nodes lb P aa bb false))) ?_
          refine fl_mv 9 (by rfl) (by decide) (wanted_none (by rfl)) (by rw [hK.out]; rfl) (by rfl) _ (Or.inr (by rfl)) (.int .i64 (setE nodes aa bb)) (by rfl) ?_
          refine fl_mv 10 (by rfl) (by decide) (wanted_none (by rfl)) (by rw [hK.out]; rfl) (by rfl) _ (Or.inr (by rfl)) (.int .i64 (setE nodes aa bb)) (by rfl) ?_
          refine fl_end (fun _ _ w1 (hg : Just (Off w.heap.size x) _ w1) hend hfacts => hT _ _ ?_)
          clear hops hA' hK hT
          simp only [putsL, Act.put, List.setIfInBounds_toArray, List.set_cons_zero, List.set_cons_succ]
          refine reg_end ?_
          have hd6 : Duo (Off w.heap.size x) (NetAt d nodes lb (setP nodes aa bb false P)) (RNetAt r nodes lb (setP nodes aa bb false P)) w1 := hend
          have hb6 := hbla.trans (hg.below (B := w.heap.size) (fun b hb => hb.1) hbla.size)
          clear hend hfacts hda hbla hg HA
          generalize hl2 : lb = l2 at hd6
          generalize hp2 : (setP nodes aa bb false P) = p2 at hd6
          generalize (setE nodes aa bb) = EE
          clear hl2 hp2
          obtain ⟨_, V, U, hq6, hr6, _, hV6, hU6⟩ := id hd6
          go_wp2_with fail
          refine (same_any _ d r nodes nodes l2 p2 p2 V U hq6 hr6).mono ?_
          rintro e w7 ⟨rfl, hg7⟩
          clear hq6 hr6 hV6 hU6
          go_wp2_with fail
          go_roundw
          case rel => exact ⟨k + 1, l2, p2, by omega, by omega, by go_num, (hd6.grow (NetAt.framed _ _ _ _) (RNetAt.framed _ _ _ _) hg7).wide (fun b hb => hb.1), below_trans hb6 hg7 hb6.size⟩
          case measure => simp [intOf]; omega
        go_wp2_with fail
        rw [← HA.out, ← HX.out]
        refine wp_region_reg rfl ?_
        refine reg_flow (DuoSt (Off w.heap.size x) (NetAt d nodes lb P) (NetAt d nodes (sendL nodes lb (aa, bb, bs)) P) (RNetAt r nodes lb P) (RNetAt r nodes (sendL nodes lb (aa, bb, bs)) P) 8 18) (duoSt_ok (NetAt.framed _ _ _ _) (NetAt.framed _ _ _ _) (RNetAt.framed _ _ _ _) (RNetAt.framed _ _ _ _)) 0 21 156 [(8, .inl (.int .i64 (sendE nodes lb aa bb))), (18, .inl (.int .i64 (sendE nodes lb aa bb)))] rfl (by kernel_rfl) (by kernel_rfl) (by kernel_rfl) ?_ (Just.of_grow (Grow.refl _).drew) (hda.grow (NetAt.framed _ _ _ _) (RNetAt.framed _ _ _ _) (Grow.refl _).drew) ?_
        · intro x hx φ he
          simp only [List.mem_cons, List.not_mem_nil, or_false] at hx
          rcases hx with rfl | rfl <;> cases he
        intro ops' A' K' T hops hA' hK hT
        refine fl_mv 44 (by rfl) (by decide) (wanted_none (by rfl)) (by rw [hK.out]; rfl) (by rfl) _ (Or.inl (by rfl)) (.pointer (some ⟨d, 0, none⟩)) (by rfl) ?_
        refine fl_op1 45 (by rfl) (by decide) (wanted_none (by rfl)) (by rw [hK.out]; rfl) (by rfl) (.tmp 8) (.pointer (some ⟨x, 0, none⟩)) (by rfl) (.pointer (some ⟨x, 1, none⟩)) (fun ρ h1 kk w1 (hg : Just (Off w.heap.size x) _ w1) hb hf => by go_simp) ?_
        refine fl_op1 46 (by rfl) (by decide) (wanted_none (by rfl)) (by rw [hK.out]; rfl) (by rfl) (.tmp 45) (.pointer (some ⟨x, 1, none⟩)) (by rfl) (.int .i64 aa) (fun ρ h1 kk w1 (hg : Just (Off w.heap.size x) _ w1) hb hf => by have c := (hg.blk hBx (fun h => h.2 rfl)).cell 1; go_simp) ?_
        refine fl_op1 47 (by rfl) (by decide) (wanted_none (by rfl)) (by rw [hK.out]; rfl) (by rfl) (.tmp 8) (.pointer (some ⟨x, 0, none⟩)) (by rfl) (.pointer (some ⟨x, 2, none⟩)) (fun ρ h1 kk w1 (hg : Just (Off w.heap.size x) _ w1) hb hf => by go_simp) ?_
        refine fl_op1 48 (by rfl) (by decide) (wanted_none (by rfl)) (by rw [hK.out]; rfl) (by rfl) (.tmp 47) (.pointer (some ⟨x, 2, none⟩)) (by rfl) (.int .i64 bb) (fun ρ h1 kk w1 (hg : Just (Off w.heap.size x) _ w1) hb hf => by have c := (hg.blk hBx (fun h => h.2 rfl)).cell 2; go_simp) ?_
        refine fl_op1 49 (by rfl) (by decide) (wanted_none (by rfl)) (by rw [hK.out]; rfl) (by rfl) (.tmp 8) (.pointer (some ⟨x, 0, none⟩)) (by rfl) (.pointer (some ⟨x, 4, none⟩)) (fun ρ h1 kk w1 (hg : Just (Off w.heap.size x) _ w1) hb hf => by go_simp) ?_
        refine fl_op1 50 (by rfl) (by decide) (wanted_none (by rfl)) (by rw [hK.out]; rfl) (by rfl) (.tmp 49) (.pointer (some ⟨x, 4, none⟩)) (by rfl) (.slice Ab mb cb) (fun ρ h1 kk w1 (hg : Just (Off w.heap.size x) _ w1) hb hf => by have c := (hg.blk hBx (fun h => h.2 rfl)).cell 4; go_simp) ?_
        refine fl_op3 51 (by rfl) (by decide) (wanted_none (by rfl)) (by rw [hK.out]; rfl) (by rfl) (.tmp 46) (.tmp 48) (.tmp 50) (.int .i64 aa) (.int .i64 bb) (.slice Ab mb cb) (by rfl) (by rfl) (by rfl) (.agg #[.int .i64 aa, .int .i64 bb, .slice Ab mb cb]) (fun ρ h1 h2 h3 kk w1 (hg : Just (Off w.heap.size x) _ w1) hb hf => by go_simp) ?_
        refine fl_call 52 (by rfl) (by decide) (wanted_none (by rfl)) (.int .i64 (sendE nodes lb aa bb)) (by rw [hK.out]; rfl) 12 _ _ (by rfl) [.pointer (some ⟨d, 0, none⟩), .agg #[.int .i64 aa, .int .i64 bb, .slice Ab mb cb]] (by rfl) k12 (fun kk w1 (hg : Just (Off w.heap.size x) _ w1) hb hf => calls_turn 0 (by rfl) (by obtain rfl := before_some 0 (by rfl) hb; have hI := hb.1; exact hI.left (RNetAt.framed _ _ _ _) (Send_any w1 D d nodes lb P aa bb Ab mb cb bs (hdsa w1 hg) hle hmx hsm))) ?_
        refine fl_mv 53 (by rfl) (by decide) (wanted_none (by rfl)) (by rw [hK.out]; rfl) (by rfl) _ (Or.inl (by rfl)) (.pointer (some ⟨r, 0, none⟩)) (by rfl) ?_
        refine fl_op1 54 (by rfl) (by decide) (wanted_none (by rfl)) (by rw [hK.out]; rfl) (by rfl) (.tmp 8) (.pointer (some ⟨x, 0, none⟩)) (by rfl) (.pointer (some ⟨x, 1, none⟩)) (fun ρ h1 kk w1 (hg : Just (Off w.heap.size x) _ w1) hb hf => by go_simp) ?_
        refine fl_op1 55 (by rfl) (by decide) (wanted_none (by rfl)) (by rw [hK.out]; rfl) (by rfl) (.tmp 54) (.pointer (some ⟨x, 1, none⟩)) (by rfl) (.int .i64 aa) (fun ρ h1 kk w1 (hg : Just (Off w.heap.size x) _ w1) hb hf => by have c := (hg.blk hBx (fun h => h.2 rfl)).cell 1; go_simp) ?_
        refine fl_op1 56 (by rfl) (by decide) (wanted_none (by rfl)) (by rw [hK.out]; rfl) (by rfl) (.tmp 8) (.pointer (some ⟨x, 0, none⟩)) (by rfl) (.pointer (some ⟨x, 2, none⟩)) (fun ρ h1 kk w1 (hg : Just (Off w.heap.size x) _ w1) hb hf => by go_simp) ?_
        refine fl_op1 57 (by rfl) (by decide) (wanted_none (by rfl)) (by rw [hK.out]; rfl) (by rfl) (.tmp 56) (.pointer (some ⟨x, 2, none⟩)) (by rfl) (.int .i64 bb) (fun ρ h1 kk w1 (hg : Just (Off w.heap.size x) _ w1) hb hf => by have c := (hg.blk hBx (fun h => h.2 rfl)).cell 2; go_simp) ?_
        refine fl_op1 58 (by rfl) (by decide) (wanted_none (by rfl)) (by rw [hK.out]; rfl) (by rfl) (.tmp 8) (.pointer (some ⟨x, 0, none⟩)) (by rfl) (.pointer (some ⟨x, 4, none⟩)) (fun ρ h1 kk w1 (hg : Just (Off w.heap.size x) _ w1) hb hf => by go_simp) ?_
        refine fl_op1 59 (by rfl) (by decide) (wanted_none (by rfl)) (by rw [hK.out]; rfl) (by rfl) (.tmp 58) (.pointer (some ⟨x, 4, none⟩)) (by rfl) (.slice Ab mb cb) (fun ρ h1 kk w1 (hg : Just (Off w.heap.size x) _ w1) hb hf => by have c := (hg.blk hBx (fun h => h.2 rfl)).cell 4; go_simp) ?_
        refine fl_op1 60 (by rfl) (by decide) (wanted_none (by rfl)) (by rw [hK.out]; rfl) (by rfl) (.tmp 59) (.slice Ab mb cb) (by rfl) (.string ⟨bs.toArray⟩) (fun ρ h1 kk w1 (hg : Just (Off w.heap.size x) _ w1) hb hf => by have cv := conv_bin w1 (c := cb) (hdsa w1 hg); go_simp) ?_
        refine fl_op3 61 (by rfl) (by decide) (wanted_none (by rfl)) (by rw [hK.out]; rfl) (by rfl) (.tmp 55) (.tmp 57) (.tmp 60) (.int .i64 aa) (.int .i64 bb) (.string ⟨bs.toArray⟩) (by rfl) (by rfl) (by rfl) (.agg #[.int .i64 aa, .int .i64 bb, .string ⟨bs.toArray⟩]) (fun ρ h1 h2 h3 kk w1 (hg : Just (Off w.heap.size x) _ w1) hb hf => by go_simp) ?_
        refine fl_call 62 (by rfl) (by decide) (wanted_none (by rfl)) (.int .i64 (sendE nodes lb aa bb)) (by rw [hK.out]; rfl) 22 _ _ (by rfl) [.pointer (some ⟨r, 0, none⟩), .agg #[.int .i64 aa, .int .i64 bb, .string ⟨bs.toArray⟩]] (by rfl) k22 (fun kk w1 (hg : Just (Off w.heap.size x) _ w1) hb hf => calls_turn 1 (by rfl) (by obtain rfl := before_some 1 (by rfl) hb; have hI := hb.1; exact hI.right (NetAt.framed _ _ _ _) (rSend_any w1 r nodes lb P aa bb bs))) ?_
        refine fl_mv 9 (by rfl) (by decide) (wanted_none (by rfl)) (by rw [hK.out]; rfl) (by rfl) _ (Or.inr (by rfl)) (.int .i64 (sendE nodes lb aa bb)) (by rfl) ?_
        refine fl_mv 10 (by rfl) (by decide) (wanted_none (by rfl)) (by rw [hK.out]; rfl) (by rfl) _ (Or.inr (by rfl)) (.int .i64 (sendE nodes lb aa bb)) (by rfl) ?_
        refine fl_end (fun _ _ w1 (hg : Just (Off w.heap.size x) _ w1) hend hfacts => hT _ _ ?_)
        clear hops hA' hK hT
        simp only [putsL, Act.put, List.setIfInBounds_toArray, List.set_cons_zero, List.set_cons_succ]
        refine reg_end ?_
        have hd6 : Duo (Off w.heap.size x) (NetAt d nodes (sendL nodes lb (aa, bb, bs)) P) (RNetAt r nodes (sendL nodes lb (aa, bb, bs)) P) w1 := hend
        have hb6 := hbla.trans (hg.below (B := w.heap.size) (fun b hb => hb.1) hbla.size)
        clear hend hfacts hda hbla hg HA
        generalize hl2 : (sendL nodes lb (aa, bb, bs)) = l2 at hd6
        generalize hp2 : P = p2 at hd6
        generalize (sendE nodes lb aa bb) = EE
        clear hl2 hp2
        obtain ⟨_, V, U, hq6, hr6, _, hV6, hU6⟩ := id hd6
        go_wp2_with fail
        refine (same_any _ d r nodes nodes l2 p2 p2 V U hq6 hr6).mono ?_
        rintro e w7 ⟨rfl, hg7⟩
        clear hq6 hr6 hV6 hU6
        go_wp2_with fail
        go_roundw
        case rel => exact ⟨k + 1, l2, p2, by omega, by omega, by go_num, (hd6.grow (NetAt.framed _ _ _ _) (RNetAt.framed _ _ _ _) hg7).wide (fun b hb => hb.1), below_trans hb6 hg7 hb6.size⟩
        case measure => simp [intOf]; omega
      · obtain rfl : k = 120 := by omega
        go_wp2_with fail
        go_ret
        exact ⟨rfl, hbl⟩
    · skip
      go_wp2_with fail
      go_ret
      exact ⟨rfl, hbl⟩
end Go.Proofs.Ytacigekkfgeipaa
