/- FrameRows: its walk. -/
import Derived.Test.YtocpepknlnghkaaTells
namespace Go.Proofs.Ytocpepknlnghkaa
open Go.RowKit Go.Hop
theorem no_two : NoFrame [255, 255] := fun y _ hp => by
  have h1 : (frame y).length ≤ 2 := hp.length_le
  have := frame_five y
  omega
theorem scan_rows (xs : List (List UInt8)) (r : List UInt8) (hx : ∀ x ∈ xs, x.length ≤ 65536) (hr : NoFrame r) : ScanIs (xs.flatMap frame ++ r) xs (xs.flatMap frame).length := by
  refine ⟨?_, rfl, hx, ?_⟩
  · rw [List.drop_left' rfl]
  · rw [List.drop_left' rfl]; exact hr
theorem scan_pre : ∀ (xs zs : List (List UInt8)) (r s : List UInt8), xs.flatMap frame ++ r = zs.flatMap frame ++ s → (∀ x ∈ xs, x.length ≤ 65536) → NoFrame s → ∃ t, zs = xs ++ t
  | [], zs, _, _, _, _, _ => ⟨zs, rfl⟩
  | x :: xs, [], r, s, h, hx, hs => absurd (show frame x <+: s by
      rw [List.flatMap_nil, List.nil_append, List.flatMap_cons, List.append_assoc] at h
      rw [← h]; exact List.prefix_append _ _) (hs x (hx x List.mem_cons_self))
  | x :: xs, z :: zs, r, s, h, hx, hs => by
    rw [List.flatMap_cons, List.flatMap_cons, List.append_assoc, List.append_assoc] at h
    have e : x = z := frame_one (r := frame x ++ (xs.flatMap frame ++ r)) (List.prefix_append _ _) (by rw [h]; exact List.prefix_append _ _)
    subst e
    obtain ⟨t, ht⟩ := scan_pre xs zs r s (List.append_cancel_left h) (fun y hy => hx y (List.mem_cons_of_mem _ hy)) hs
    exact ⟨t, by rw [ht]; rfl⟩
theorem scan_more {xs zs : List (List UInt8)} {r : List UInt8} {j : Nat} (h : ScanIs (xs.flatMap frame ++ r) zs j) (hx : ∀ x ∈ xs, x.length ≤ 65536) : xs.length ≤ zs.length ∧ (xs.flatMap frame).length ≤ j := by
  obtain ⟨t, ht⟩ := scan_pre xs zs _ _ h.1.symm hx h.2.2.2
  rw [h.2.1, ht, List.flatMap_append, List.length_append, List.length_append]
  omega
set_option maxRecDepth 100000 in
set_option maxHeartbeats 800000 in
theorem rows_any (w : World) (A0 : Option Addr) (n0 c0 : Nat) (q : List Bx) (hq : Bxs w (fun b => b < w.heap.size) (fun b => b < w.heap.size) A0 n0 q) (hnc0 : n0 ≤ c0) (hm0 : c0 ≤ maxLen)
    (A1 : Option Addr) (n1 c1 : Nat) (l1 : List UInt8) (hb1 : Bytes w w.heap.size A1 n1 l1) (hnc1 : n1 ≤ c1) (hm1 : c1 ≤ maxLen) (hn1 : n1 ≤ 1048576) :
    Calls Try.prog 6 #[.slice A0 n0 c0, .slice A1 n1 c1] w fun e w' => e = .returned (.bool true) ∧ Grow w w' := by
  rcases Nat.lt_trichotomy n0 10 with h10 | h10 | h10
  · have h10' : decide ((n0 : Int) < (10 : Int)) = true := decide_eq_true (by omega)
    go_enter Try.func6, Try.ntmps6
    go_wp2_with fail
    go_loopw [5, 7] (fun s i wr => ∃ (k : Nat) (ys : List UInt8), k ≤ n0 ∧ i = .int .i64 (k : Int) ∧ ys = ((q.take k).map fun b => b.bs.take 60).flatMap frame ∧ ys.length ≤ 74 * k ∧ Own wr (New w wr) 5 1 s ys.length (u8s ys) ∧ Grow w wr) (fun _ i _ => n0 - (intOf i).toNat)
    case atStart => exact ⟨0, [], by omega, rfl, by simp, by simp, Own.nil, Grow.refl _⟩
    case round =>
      obtain ⟨k, ys, hkn, rfl, hys, hy, hO, hg⟩ := hrel
      obtain ⟨As, cs, rfl, hIs, hns, hms⟩ := hO.reads
      have HY := Lib.hid hys
      clear hys
      have hsr := hg.size
      by_cases hk : k < n0
      · have hk' : decide ((k : Int) < (n0 : Int)) = true := decide_eq_true (by omega)
        obtain ⟨ad, hkq, rfl, e0⟩ := rec1 (hq.grow hg).row (show k < n0 by omega)
        have e0 := e0 _ (Grow.refl _)
        have hx := (hq.all _ (List.getElem_mem hkq)).grow hg
        have HB : Hid (((q.take (k + 1)).map fun b => b.bs.take 60).flatMap frame = ((q.take k).map fun b => b.bs.take 60).flatMap frame ++ frame (q[k].bs.take 60)) := by
          refine Lib.hid ?_
          rw [List.take_succ_eq_append_getElem hkq, List.map_append, List.flatMap_append]; simp
        generalize q[k] = b at e0 hx HB
        obtain ⟨Ab, m, cb, bs⟩ := b
        have hml := hx.len
        have hle := hx.le
        have hbs := hx.bytes
        dsimp only at e0 hml hbs hle HB
        by_cases h60 : 60 < m
        · have h60' : decide ((60 : Int) < (m : Int)) = true := decide_eq_true (by omega)
          have hbb : Bytes wr wr.heap.size Ab 60 (bs.take 60) := by
            have := Reads.take hbs (k := 60) (by omega)
            unfold Bytes; rw [u8s_take]; exact this
          have hfl := frame_le (bs.take 60) (by rw [List.length_take]; omega)
          rw [List.length_take, Nat.min_eq_left (show 60 ≤ bs.length by omega)] at hfl
          go_wp2_with fail
          go_at_call 10
          refine (Bytes_any wr Ab 60 cb (bs.take 60) hbb (by omega)).mono ?_
          rintro e w1 ⟨v1, rfl, hO1, hg1⟩
          obtain ⟨A3, c3, rfl, hR3, hn3, hm3⟩ := hO1.reads
          go_wp2_with (at_builtin; refine stay ?_)
          refine stay_out ?_
          refine wpList_own (V := New w w1) u8E _ rfl (.tmp 41) (.tmp 42) rfl (.slice As ys.length cs) ys.length (u8s ys) rfl ((Own.grow hO (fun b hb => hb.2) hg1).mono fun b hb => ⟨hb.1, by have := hb.2; have := hg1.size; omega⟩) w1.heap.size A3 _ c3 (u8s (frame (bs.take 60))) rfl hR3 u8s_one (by omega) ?_
          intro v2 w2 hO2 hj2
          obtain ⟨hO2, hg2⟩ := own_more (hg.trans hg1) hO2 hj2
          rw [← u8s_append, ← List.length_append] at hO2
          go_wp2_with fail
          go_roundw
          case rel => exact ⟨k + 1, ys ++ frame (bs.take 60), by omega, by go_num, by rw [HB.out, HY.out], by rw [List.length_append]; omega, hO2, hg2⟩
          case measure => simp [intOf]; omega
        · have h60' : decide ((60 : Int) < (m : Int)) = false := decide_eq_false (by omega)
          have HC := Lib.hid (show bs.take 60 = bs from List.take_of_length_le (by omega))
          have hbb := hbs
          have hfl := frame_le bs (by omega)
          go_wp2_with fail
          go_at_call 10
          refine (Bytes_any wr Ab m cb bs hbb (by omega)).mono ?_
          rintro e w1 ⟨v1, rfl, hO1, hg1⟩
          obtain ⟨A3, c3, rfl, hR3, hn3, hm3⟩ := hO1.reads
          go_wp2_with (at_builtin; refine stay ?_)
          refine stay_out ?_
          refine wpList_own (V := New w w1) u8E _ rfl (.tmp 41) (.tmp 42) rfl (.slice As ys.length cs) ys.length (u8s ys) rfl ((Own.grow hO (fun b hb => hb.2) hg1).mono fun b hb => ⟨hb.1, by have := hb.2; have := hg1.size; omega⟩) w1.heap.size A3 _ c3 (u8s (frame bs)) rfl hR3 u8s_one (by omega) ?_
          intro v2 w2 hO2 hj2
          obtain ⟨hO2, hg2⟩ := own_more (hg.trans hg1) hO2 hj2
          rw [← u8s_append, ← List.length_append] at hO2
          go_wp2_with fail
          go_roundw
          case rel => exact ⟨k + 1, ys ++ frame bs, by omega, by go_num, by rw [HB.out, HY.out]; simp only [HC.out], by rw [List.length_append]; omega, hO2, hg2⟩
          case measure => simp [intOf]; omega
      · obtain rfl : n0 = k := by omega
        have hk' : decide ((n0 : Int) < (n0 : Int)) = false := decide_eq_false (by omega)
        have hxl : ((q.take n0).map fun b => b.bs.take 60).length = n0 := by rw [List.length_map, List.length_take, hq.len]; omega
        have hx60 : ∀ x ∈ (q.take n0).map fun b => b.bs.take 60, x.length ≤ 65536 := fun x hx => by
          obtain ⟨b, _, rfl⟩ := List.mem_map.1 hx
          rw [List.length_take]; omega
        obtain ⟨xs, HX⟩ : ∃ xs : List (List UInt8), Hid (xs = (q.take n0).map fun b => b.bs.take 60) := ⟨_, rfl⟩
        rw [← HX.out] at hxl hx60 HY
        have hS1 := scan_rows xs [255, 255] hx60 no_two
        rw [← HY.out] at hS1
        have hb1a : Bytes wr wr.heap.size A1 n1 l1 := Reads.more (Reads.below hb1 hg) hg.size
        go_wp2_with (at_builtin; refine stay ?_)
        refine stay_out ?_
        refine wpList_own (V := fun x => x = wr.heap.size) u8E _ rfl (.tmp 45) (.tmp 46) rfl (.slice (some ⟨wr.heap.size, 0, none⟩) 0 0) 0 [] rfl (made_own wr) wr.heap.size As ys.length cs (u8s ys) rfl (Reads.alloc hIs (Nat.le_refl _) _) u8s_one (by omega) ?_
        intro v2 wb hO2 hj2
        simp only [Nat.zero_add, List.nil_append] at hO2
        obtain ⟨hO2, hgb⟩ := own_new hO2 hj2
        clear hj2
        go_wp2_with (at_builtin; refine stay ?_)
        refine stay_out ?_
        refine wpList_own (V := New wr wb) u8E _ rfl (.tmp 47) (.tmp 48) rfl v2 ys.length (u8s ys) rfl (own_alloc hO2 _) (wb.heap.size + 1) (some ⟨wb.heap.size, 0, none⟩) 2 2 (u8s [255, 255]) rfl (reads_laid wb _ 5 (0, 0) rfl _ rfl) u8s_one (by omega) ?_
        intro v3 wc hO3 hj3
        obtain ⟨hO3, hgc⟩ := own_more1 hgb hO3 hj3
        clear hj3 hO2
        rw [← u8s_append] at hO3
        obtain ⟨A3, c3, rfl, hR3, hn3, hm3⟩ := hO3.reads
        go_wp2_with fail
        go_at_call 15
        refine (Scan_any wc A3 _ c3 (ys ++ [255, 255]) hR3 hn3 hm3 (by omega)).mono ?_
        rintro e wd ⟨zs, k, u, hS, rfl, ⟨A2, c2, q2, rfl, hX2, hm2, hn2, hc2⟩, hgd⟩
        obtain ⟨hz1, rfl⟩ := hS.one hS1
        obtain rfl : xs = zs := hz1.symm
        have hq2 : q2.length = n0 := by rw [← hxl, ← hm2, List.length_map]
        rw [hq2] at hX2 hn2 ⊢
        have hgwd := (hg.trans hgc).trans hgd
        have hb1d : Bytes wd wd.heap.size A1 n1 l1 := Reads.more (Reads.below hb1 hgwd) hgwd.size
        have hId : Reads wd wd.heap.size 1 As ys.length (u8s ys) := Reads.more (Reads.below hIs (hgc.trans hgd)) (hgc.trans hgd).size
        have HM := Lib.hid hm2
        clear hS hS1 hO3 hR3 hm2 hx60 hxl
        go_wp2_with fail
        go_loopw [65] (fun i wr => ∃ k : Nat, k ≤ n0 ∧ i = .int .i64 (k : Int) ∧ Grow wd wr) (fun i _ => n0 - (intOf i).toNat)
        case atStart => exact ⟨0, by omega, rfl, Grow.refl _⟩
        case round =>
          obtain ⟨k, hkn, rfl, hgr⟩ := hrel
          by_cases hk : k < n0
          · have hk' : decide ((k : Int) < (n0 : Int)) = true := decide_eq_true (by omega)
            have hgw := hgwd.trans hgr
            obtain ⟨ad, hkq, hAe, e0⟩ := rec1 (hq.grow hgw).row (show k < n0 by omega)
            have e0 := e0 _ (Grow.refl _)
            have hx := (hq.all _ (List.getElem_mem hkq)).grow hgw
            obtain ⟨a2, hkq2, rfl, e2⟩ := rec1 (hX2.grow hgr).row hk
            have hx2 := ((hX2.all _ (List.getElem_mem hkq2)).grow hgr).bytes
            have hab : q2[k].bs = q[k].bs.take 60 := by
              have h3 : (q2.map Bx.bs)[k]? = some q2[k].bs := by rw [List.getElem?_map, List.getElem?_eq_getElem hkq2]; rfl
              rw [HM.out, HX.out, List.getElem?_map, List.getElem?_take, if_pos hk, List.getElem?_eq_getElem hkq] at h3
              injection h3 with h3
              exact h3.symm
            rw [hab] at hx2
            clear hab
            generalize q[k] = b at e0 hx hx2
            generalize q2[k] = b2 at e2 hx2
            obtain ⟨Ab, m, cb, bs⟩ := b
            have hml := hx.len
            have hle := hx.le
            have hbs := hx.bytes
            dsimp only at e0 hml hbs hle hx2
            subst hAe
            by_cases h60 : 60 < m
            · have h60' : decide ((60 : Int) < (m : Int)) = true := decide_eq_true (by omega)
              have hbb := hbs.take (k := 60) (by omega)
              rw [← u8s_take] at hbb
              go_wp2_with fail
              refine wp_region_flow 8 108 [] rfl rfl (by kernel_rfl) (by kernel_rfl) (by kernel_rfl) ?_ ?_
              · intro x hx φ he
                cases hx
              intro ops' A' K' T hops hA' hK hT
              refine fl_mv 77 (by rfl) (by decide) (wanted_none (by rfl)) (by rw [hK.out]; rfl) (by rfl) _ (Or.inl (by rfl)) (.slice (some a2) n0 c2) (by rfl) ?_
              refine fl_mv 78 (by rfl) (by decide) (wanted_none (by rfl)) (by rw [hK.out]; rfl) (by rfl) _ (Or.inl (by rfl)) (.int .i64 (k : Int)) (by rfl) ?_
              refine fl_op2 79 (by rfl) (by decide) (wanted_none (by rfl)) (by rw [hK.out]; rfl) (by rfl) (.tmp 77) (.tmp 78) (.slice (some a2) n0 c2) (.int .i64 (k : Int)) (by rfl) (by rfl) (.pointer (some (a2.add k))) (fun ρ h1 h2 kk w1 (hg : Grow _ w1) hb hf => by go_simp) ?_
              refine fl_op1 80 (by rfl) (by decide) (wanted_none (by rfl)) (by rw [hK.out]; rfl) (by rfl) (.tmp 79) (.pointer (some (a2.add k))) (by rfl) (.slice b2.A b2.m b2.c) (fun ρ h1 kk w1 (hg : Grow _ w1) hb hf => by have c := e2 _ hg; go_simp) ?_
              refine fl_op1 81 (by rfl) (by decide) (wanted_none (by rfl)) (by rw [hK.out]; rfl) (by rfl) (.tmp 80) (.slice b2.A b2.m b2.c) (by rfl) (.string ⟨(bs.take 60).toArray⟩) (fun ρ h1 kk w1 (hg : Grow _ w1) hb hf => by have cv := conv_bytes w1 (c := b2.c) (hx2.below hg); go_simp) ?_
              refine fl_mv 82 (by rfl) (by decide) (wanted_none (by rfl)) (by rw [hK.out]; rfl) (by rfl) _ (Or.inl (by rfl)) (.slice Ab 60 cb) (by rfl) ?_
              refine fl_op1 83 (by rfl) (by decide) (wanted_none (by rfl)) (by rw [hK.out]; rfl) (by rfl) (.tmp 82) (.slice Ab 60 cb) (by rfl) (.string ⟨(bs.take 60).toArray⟩) (fun ρ h1 kk w1 (hg : Grow _ w1) hb hf => by have cv := conv_bytes w1 (c := cb) (hbb.below hg); go_simp) ?_
              refine fl_op2 84 (by rfl) (by decide) (wanted_none (by rfl)) (by rw [hK.out]; rfl) (by rfl) (.tmp 81) (.tmp 83) (.string ⟨(bs.take 60).toArray⟩) (.string ⟨(bs.take 60).toArray⟩) (by rfl) (by rfl) (.bool false) (fun ρ h1 h2 kk w1 (hg : Grow _ w1) hb hf => by go_simp) ?_
              refine fl_end (fun _ _ w1 (hg : Grow _ w1) _ hfacts => hT _ _ ?_)
              clear hops hA' hK hT
              simp only [putsL, Act.put, List.setIfInBounds_toArray, List.set_cons_zero, List.set_cons_succ, List.drop_succ_cons, List.drop_zero]
              go_wp2_with fail
              go_roundw
              case rel => exact ⟨k + 1, by omega, by go_num, hgr.trans hg⟩
              case measure => simp [intOf]; omega
            · have h60' : decide ((60 : Int) < (m : Int)) = false := decide_eq_false (by omega)
              have hbb := hbs
              rw [List.take_of_length_le (show bs.length ≤ 60 by omega)] at hx2
              go_wp2_with fail
              refine wp_region_flow 8 108 [] rfl rfl (by kernel_rfl) (by kernel_rfl) (by kernel_rfl) ?_ ?_
              · intro x hx φ he
                cases hx
              intro ops' A' K' T hops hA' hK hT
              refine fl_mv 77 (by rfl) (by decide) (wanted_none (by rfl)) (by rw [hK.out]; rfl) (by rfl) _ (Or.inl (by rfl)) (.slice (some a2) n0 c2) (by rfl) ?_
              refine fl_mv 78 (by rfl) (by decide) (wanted_none (by rfl)) (by rw [hK.out]; rfl) (by rfl) _ (Or.inl (by rfl)) (.int .i64 (k : Int)) (by rfl) ?_
              refine fl_op2 79 (by rfl) (by decide) (wanted_none (by rfl)) (by rw [hK.out]; rfl) (by rfl) (.tmp 77) (.tmp 78) (.slice (some a2) n0 c2) (.int .i64 (k : Int)) (by rfl) (by rfl) (.pointer (some (a2.add k))) (fun ρ h1 h2 kk w1 (hg : Grow _ w1) hb hf => by go_simp) ?_
              refine fl_op1 80 (by rfl) (by decide) (wanted_none (by rfl)) (by rw [hK.out]; rfl) (by rfl) (.tmp 79) (.pointer (some (a2.add k))) (by rfl) (.slice b2.A b2.m b2.c) (fun ρ h1 kk w1 (hg : Grow _ w1) hb hf => by have c := e2 _ hg; go_simp) ?_
              refine fl_op1 81 (by rfl) (by decide) (wanted_none (by rfl)) (by rw [hK.out]; rfl) (by rfl) (.tmp 80) (.slice b2.A b2.m b2.c) (by rfl) (.string ⟨bs.toArray⟩) (fun ρ h1 kk w1 (hg : Grow _ w1) hb hf => by have cv := conv_bytes w1 (c := b2.c) (hx2.below hg); go_simp) ?_
              refine fl_mv 82 (by rfl) (by decide) (wanted_none (by rfl)) (by rw [hK.out]; rfl) (by rfl) _ (Or.inl (by rfl)) (.slice Ab m cb) (by rfl) ?_
              refine fl_op1 83 (by rfl) (by decide) (wanted_none (by rfl)) (by rw [hK.out]; rfl) (by rfl) (.tmp 82) (.slice Ab m cb) (by rfl) (.string ⟨bs.toArray⟩) (fun ρ h1 kk w1 (hg : Grow _ w1) hb hf => by have cv := conv_bytes w1 (c := cb) (hbb.below hg); go_simp) ?_
              refine fl_op2 84 (by rfl) (by decide) (wanted_none (by rfl)) (by rw [hK.out]; rfl) (by rfl) (.tmp 81) (.tmp 83) (.string ⟨bs.toArray⟩) (.string ⟨bs.toArray⟩) (by rfl) (by rfl) (.bool false) (fun ρ h1 h2 kk w1 (hg : Grow _ w1) hb hf => by go_simp) ?_
              refine fl_end (fun _ _ w1 (hg : Grow _ w1) _ hfacts => hT _ _ ?_)
              clear hops hA' hK hT
              simp only [putsL, Act.put, List.setIfInBounds_toArray, List.set_cons_zero, List.set_cons_succ, List.drop_succ_cons, List.drop_zero]
              go_wp2_with fail
              go_roundw
              case rel => exact ⟨k + 1, by omega, by go_num, hgr.trans hg⟩
              case measure => simp [intOf]; omega
          · obtain rfl : n0 = k := by omega
            have hk' : decide ((n0 : Int) < (n0 : Int)) = false := decide_eq_false (by omega)
            clear hX2
            have hIe : Reads wr wr.heap.size 1 As ys.length (u8s ys) := Reads.more (Reads.below hId hgr) hgr.size
            have hb1e : Bytes wr wr.heap.size A1 n1 l1 := Reads.more (Reads.below hb1d hgr) hgr.size
            go_wp2_with (at_builtin; refine stay ?_)
            refine stay_out ?_
            refine wpList_own (V := fun x => x = wr.heap.size) u8E _ rfl (.tmp 87) (.tmp 88) rfl (.slice (some ⟨wr.heap.size, 0, none⟩) 0 0) 0 [] rfl (made_own wr) wr.heap.size As ys.length cs (u8s ys) rfl (Reads.alloc hIe (Nat.le_refl _) _) u8s_one (by omega) ?_
            intro v2 wb hO2 hj2
            simp only [Nat.zero_add, List.nil_append] at hO2
            obtain ⟨hO2, hgb⟩ := own_new hO2 hj2
            clear hj2
            have hb1f : Bytes wb wb.heap.size A1 n1 l1 := Reads.more (Reads.below hb1e hgb) hgb.size
            go_wp2_with (at_builtin; refine stay ?_)
            refine stay_out ?_
            refine wpList_own (V := New wr wb) u8E _ rfl (.tmp 89) (.tmp 90) rfl v2 ys.length (u8s ys) rfl hO2 wb.heap.size A1 n1 c1 (u8s l1) rfl hb1f u8s_one (by omega) ?_
            intro v3 we hO3 hj3
            obtain ⟨hO3, hge⟩ := own_more hgb hO3 hj3
            clear hj3 hO2
            rw [← u8s_append] at hO3
            obtain ⟨A4, c4, rfl, hR4, hn4, hm4⟩ := hO3.reads
            go_wp2_with fail
            go_at_call 15
            refine (Scan_any we A4 _ c4 (ys ++ l1) hR4 hn4 hm4 (by omega)).mono ?_
            rintro e wg ⟨zs, j, u, hS, rfl, ⟨A5, c5, q5, rfl, _, hm5, _, _⟩, hgg⟩
            have hY2 := HY.out
            have hlen := scan_more (xs := xs) (r := l1) (by rw [← hY2]; exact hS) (fun x hx => by
              rw [HX.out] at hx
              obtain ⟨b, _, rfl⟩ := List.mem_map.1 hx
              rw [List.length_take]; omega)
            have hxl : xs.length = n0 := by rw [HX.out, List.length_map, List.length_take, hq.len]; omega
            have h5 : n0 ≤ q5.length := by have h := congrArg List.length hm5; rw [List.length_map] at h; omega
            have h6 : ys.length ≤ j := by rw [hY2]; exact hlen.2
            have h5' : decide ((n0 : Int) ≤ (q5.length : Int)) = true := decide_eq_true (by omega)
            have h5n : decide (n0 ≤ q5.length) = true := decide_eq_true h5
            have h6n : decide (ys.length ≤ j) = true := decide_eq_true h6
            clear hS hO3 hR4 hY2 hlen
            go_wp2_with (go_at_call 12; refine (known_any _).mono ?_; rintro e w7 ⟨rfl, hg7⟩)
            go_ret
            exact ⟨rfl, (((hgwd.trans hgr).trans hge).trans hgg).trans hg7⟩
  · subst h10
    go_enter Try.func6, Try.ntmps6
    go_wp2_with fail
    go_loopw [5, 7] (fun s i wr => ∃ (k : Nat) (ys : List UInt8), k ≤ 10 ∧ i = .int .i64 (k : Int) ∧ ys = ((q.take k).map fun b => b.bs.take 60).flatMap frame ∧ ys.length ≤ 74 * k ∧ Own wr (New w wr) 5 1 s ys.length (u8s ys) ∧ Grow w wr) (fun _ i _ => 10 - (intOf i).toNat)
    case atStart => exact ⟨0, [], by omega, rfl, by simp, by simp, Own.nil, Grow.refl _⟩
    case round =>
      obtain ⟨k, ys, hkn, rfl, hys, hy, hO, hg⟩ := hrel
      obtain ⟨As, cs, rfl, hIs, hns, hms⟩ := hO.reads
      have HY := Lib.hid hys
      clear hys
      have hsr := hg.size
      by_cases hk : k < 10
      · have hk' : decide ((k : Int) < (10 : Int)) = true := decide_eq_true (by omega)
        obtain ⟨ad, hkq, rfl, e0⟩ := rec1 (hq.grow hg).row (show k < 10 by omega)
        have e0 := e0 _ (Grow.refl _)
        have hx := (hq.all _ (List.getElem_mem hkq)).grow hg
        have HB : Hid (((q.take (k + 1)).map fun b => b.bs.take 60).flatMap frame = ((q.take k).map fun b => b.bs.take 60).flatMap frame ++ frame (q[k].bs.take 60)) := by
          refine Lib.hid ?_
          rw [List.take_succ_eq_append_getElem hkq, List.map_append, List.flatMap_append]; simp
        generalize q[k] = b at e0 hx HB
        obtain ⟨Ab, m, cb, bs⟩ := b
        have hml := hx.len
        have hle := hx.le
        have hbs := hx.bytes
        dsimp only at e0 hml hbs hle HB
        by_cases h60 : 60 < m
        · have h60' : decide ((60 : Int) < (m : Int)) = true := decide_eq_true (by omega)
          have hbb : Bytes wr wr.heap.size Ab 60 (bs.take 60) := by
            have := Reads.take hbs (k := 60) (by omega)
            unfold Bytes; rw [u8s_take]; exact this
          have hfl := frame_le (bs.take 60) (by rw [List.length_take]; omega)
          rw [List.length_take, Nat.min_eq_left (show 60 ≤ bs.length by omega)] at hfl
          go_wp2_with fail
          go_at_call 10
          refine (Bytes_any wr Ab 60 cb (bs.take 60) hbb (by omega)).mono ?_
          rintro e w1 ⟨v1, rfl, hO1, hg1⟩
          obtain ⟨A3, c3, rfl, hR3, hn3, hm3⟩ := hO1.reads
          go_wp2_with (at_builtin; refine stay ?_)
          refine stay_out ?_
          refine wpList_own (V := New w w1) u8E _ rfl (.tmp 41) (.tmp 42) rfl (.slice As ys.length cs) ys.length (u8s ys) rfl ((Own.grow hO (fun b hb => hb.2) hg1).mono fun b hb => ⟨hb.1, by have := hb.2; have := hg1.size; omega⟩) w1.heap.size A3 _ c3 (u8s (frame (bs.take 60))) rfl hR3 u8s_one (by omega) ?_
          intro v2 w2 hO2 hj2
          obtain ⟨hO2, hg2⟩ := own_more (hg.trans hg1) hO2 hj2
          rw [← u8s_append, ← List.length_append] at hO2
          go_wp2_with fail
          go_roundw
          case rel => exact ⟨k + 1, ys ++ frame (bs.take 60), by omega, by go_num, by rw [HB.out, HY.out], by rw [List.length_append]; omega, hO2, hg2⟩
          case measure => simp [intOf]; omega
        · have h60' : decide ((60 : Int) < (m : Int)) = false := decide_eq_false (by omega)
          have HC := Lib.hid (show bs.take 60 = bs from List.take_of_length_le (by omega))
          have hbb := hbs
          have hfl := frame_le bs (by omega)
          go_wp2_with fail
          go_at_call 10
          refine (Bytes_any wr Ab m cb bs hbb (by omega)).mono ?_
          rintro e w1 ⟨v1, rfl, hO1, hg1⟩
          obtain ⟨A3, c3, rfl, hR3, hn3, hm3⟩ := hO1.reads
          go_wp2_with (at_builtin; refine stay ?_)
          refine stay_out ?_
          refine wpList_own (V := New w w1) u8E _ rfl (.tmp 41) (.tmp 42) rfl (.slice As ys.length cs) ys.length (u8s ys) rfl ((Own.grow hO (fun b hb => hb.2) hg1).mono fun b hb => ⟨hb.1, by have := hb.2; have := hg1.size; omega⟩) w1.heap.size A3 _ c3 (u8s (frame bs)) rfl hR3 u8s_one (by omega) ?_
          intro v2 w2 hO2 hj2
          obtain ⟨hO2, hg2⟩ := own_more (hg.trans hg1) hO2 hj2
          rw [← u8s_append, ← List.length_append] at hO2
          go_wp2_with fail
          go_roundw
          case rel => exact ⟨k + 1, ys ++ frame bs, by omega, by go_num, by rw [HB.out, HY.out]; simp only [HC.out], by rw [List.length_append]; omega, hO2, hg2⟩
          case measure => simp [intOf]; omega
      · obtain rfl : 10 = k := by omega
        have hk' : decide ((10 : Int) < (10 : Int)) = false := decide_eq_false (by omega)
        have hxl : ((q.take 10).map fun b => b.bs.take 60).length = 10 := by rw [List.length_map, List.length_take, hq.len]; omega
        have hx60 : ∀ x ∈ (q.take 10).map fun b => b.bs.take 60, x.length ≤ 65536 := fun x hx => by
          obtain ⟨b, _, rfl⟩ := List.mem_map.1 hx
          rw [List.length_take]; omega
        obtain ⟨xs, HX⟩ : ∃ xs : List (List UInt8), Hid (xs = (q.take 10).map fun b => b.bs.take 60) := ⟨_, rfl⟩
        rw [← HX.out] at hxl hx60 HY
        have hS1 := scan_rows xs [255, 255] hx60 no_two
        rw [← HY.out] at hS1
        have hb1a : Bytes wr wr.heap.size A1 n1 l1 := Reads.more (Reads.below hb1 hg) hg.size
        go_wp2_with (at_builtin; refine stay ?_)
        refine stay_out ?_
        refine wpList_own (V := fun x => x = wr.heap.size) u8E _ rfl (.tmp 45) (.tmp 46) rfl (.slice (some ⟨wr.heap.size, 0, none⟩) 0 0) 0 [] rfl (made_own wr) wr.heap.size As ys.length cs (u8s ys) rfl (Reads.alloc hIs (Nat.le_refl _) _) u8s_one (by omega) ?_
        intro v2 wb hO2 hj2
        simp only [Nat.zero_add, List.nil_append] at hO2
        obtain ⟨hO2, hgb⟩ := own_new hO2 hj2
        clear hj2
        go_wp2_with (at_builtin; refine stay ?_)
        refine stay_out ?_
        refine wpList_own (V := New wr wb) u8E _ rfl (.tmp 47) (.tmp 48) rfl v2 ys.length (u8s ys) rfl (own_alloc hO2 _) (wb.heap.size + 1) (some ⟨wb.heap.size, 0, none⟩) 2 2 (u8s [255, 255]) rfl (reads_laid wb _ 5 (0, 0) rfl _ rfl) u8s_one (by omega) ?_
        intro v3 wc hO3 hj3
        obtain ⟨hO3, hgc⟩ := own_more1 hgb hO3 hj3
        clear hj3 hO2
        rw [← u8s_append] at hO3
        obtain ⟨A3, c3, rfl, hR3, hn3, hm3⟩ := hO3.reads
        go_wp2_with fail
        go_at_call 15
        refine (Scan_any wc A3 _ c3 (ys ++ [255, 255]) hR3 hn3 hm3 (by omega)).mono ?_
        rintro e wd ⟨zs, k, u, hS, rfl, ⟨A2, c2, q2, rfl, hX2, hm2, hn2, hc2⟩, hgd⟩
        obtain ⟨hz1, rfl⟩ := hS.one hS1
        obtain rfl : xs = zs := hz1.symm
        have hq2 : q2.length = 10 := by rw [← hxl, ← hm2, List.length_map]
        rw [hq2] at hX2 hn2 ⊢
        have hgwd := (hg.trans hgc).trans hgd
        have hb1d : Bytes wd wd.heap.size A1 n1 l1 := Reads.more (Reads.below hb1 hgwd) hgwd.size
        have hId : Reads wd wd.heap.size 1 As ys.length (u8s ys) := Reads.more (Reads.below hIs (hgc.trans hgd)) (hgc.trans hgd).size
        have HM := Lib.hid hm2
        clear hS hS1 hO3 hR3 hm2 hx60 hxl
        go_wp2_with fail
        go_loopw [65] (fun i wr => ∃ k : Nat, k ≤ 10 ∧ i = .int .i64 (k : Int) ∧ Grow wd wr) (fun i _ => 10 - (intOf i).toNat)
        case atStart => exact ⟨0, by omega, rfl, Grow.refl _⟩
        case round =>
          obtain ⟨k, hkn, rfl, hgr⟩ := hrel
          by_cases hk : k < 10
          · have hk' : decide ((k : Int) < (10 : Int)) = true := decide_eq_true (by omega)
            have hgw := hgwd.trans hgr
            obtain ⟨ad, hkq, hAe, e0⟩ := rec1 (hq.grow hgw).row (show k < 10 by omega)
            have e0 := e0 _ (Grow.refl _)
            have hx := (hq.all _ (List.getElem_mem hkq)).grow hgw
            obtain ⟨a2, hkq2, rfl, e2⟩ := rec1 (hX2.grow hgr).row hk
            have hx2 := ((hX2.all _ (List.getElem_mem hkq2)).grow hgr).bytes
            have hab : q2[k].bs = q[k].bs.take 60 := by
              have h3 : (q2.map Bx.bs)[k]? = some q2[k].bs := by rw [List.getElem?_map, List.getElem?_eq_getElem hkq2]; rfl
              rw [HM.out, HX.out, List.getElem?_map, List.getElem?_take, if_pos hk, List.getElem?_eq_getElem hkq] at h3
              injection h3 with h3
              exact h3.symm
            rw [hab] at hx2
            clear hab
            generalize q[k] = b at e0 hx hx2
            generalize q2[k] = b2 at e2 hx2
            obtain ⟨Ab, m, cb, bs⟩ := b
            have hml := hx.len
            have hle := hx.le
            have hbs := hx.bytes
            dsimp only at e0 hml hbs hle hx2
            subst hAe
            by_cases h60 : 60 < m
            · have h60' : decide ((60 : Int) < (m : Int)) = true := decide_eq_true (by omega)
              have hbb := hbs.take (k := 60) (by omega)
              rw [← u8s_take] at hbb
              go_wp2_with fail
              refine wp_region_flow 8 108 [] rfl rfl (by kernel_rfl) (by kernel_rfl) (by kernel_rfl) ?_ ?_
              · intro x hx φ he
                cases hx
              intro ops' A' K' T hops hA' hK hT
              refine fl_mv 77 (by rfl) (by decide) (wanted_none (by rfl)) (by rw [hK.out]; rfl) (by rfl) _ (Or.inl (by rfl)) (.slice (some a2) 10 c2) (by rfl) ?_
              refine fl_mv 78 (by rfl) (by decide) (wanted_none (by rfl)) (by rw [hK.out]; rfl) (by rfl) _ (Or.inl (by rfl)) (.int .i64 (k : Int)) (by rfl) ?_
              refine fl_op2 79 (by rfl) (by decide) (wanted_none (by rfl)) (by rw [hK.out]; rfl) (by rfl) (.tmp 77) (.tmp 78) (.slice (some a2) 10 c2) (.int .i64 (k : Int)) (by rfl) (by rfl) (.pointer (some (a2.add k))) (fun ρ h1 h2 kk w1 (hg : Grow _ w1) hb hf => by go_simp; intro hlt; omega) ?_
              refine fl_op1 80 (by rfl) (by decide) (wanted_none (by rfl)) (by rw [hK.out]; rfl) (by rfl) (.tmp 79) (.pointer (some (a2.add k))) (by rfl) (.slice b2.A b2.m b2.c) (fun ρ h1 kk w1 (hg : Grow _ w1) hb hf => by have c := e2 _ hg; go_simp) ?_
              refine fl_op1 81 (by rfl) (by decide) (wanted_none (by rfl)) (by rw [hK.out]; rfl) (by rfl) (.tmp 80) (.slice b2.A b2.m b2.c) (by rfl) (.string ⟨(bs.take 60).toArray⟩) (fun ρ h1 kk w1 (hg : Grow _ w1) hb hf => by have cv := conv_bytes w1 (c := b2.c) (hx2.below hg); go_simp) ?_
              refine fl_mv 82 (by rfl) (by decide) (wanted_none (by rfl)) (by rw [hK.out]; rfl) (by rfl) _ (Or.inl (by rfl)) (.slice Ab 60 cb) (by rfl) ?_
              refine fl_op1 83 (by rfl) (by decide) (wanted_none (by rfl)) (by rw [hK.out]; rfl) (by rfl) (.tmp 82) (.slice Ab 60 cb) (by rfl) (.string ⟨(bs.take 60).toArray⟩) (fun ρ h1 kk w1 (hg : Grow _ w1) hb hf => by have cv := conv_bytes w1 (c := cb) (hbb.below hg); go_simp) ?_
              refine fl_op2 84 (by rfl) (by decide) (wanted_none (by rfl)) (by rw [hK.out]; rfl) (by rfl) (.tmp 81) (.tmp 83) (.string ⟨(bs.take 60).toArray⟩) (.string ⟨(bs.take 60).toArray⟩) (by rfl) (by rfl) (.bool false) (fun ρ h1 h2 kk w1 (hg : Grow _ w1) hb hf => by go_simp) ?_
              refine fl_end (fun _ _ w1 (hg : Grow _ w1) _ hfacts => hT _ _ ?_)
              clear hops hA' hK hT
              simp only [putsL, Act.put, List.setIfInBounds_toArray, List.set_cons_zero, List.set_cons_succ, List.drop_succ_cons, List.drop_zero]
              go_wp2_with fail
              go_roundw
              case rel => exact ⟨k + 1, by omega, by go_num, hgr.trans hg⟩
              case measure => simp [intOf]; omega
            · have h60' : decide ((60 : Int) < (m : Int)) = false := decide_eq_false (by omega)
              have hbb := hbs
              rw [List.take_of_length_le (show bs.length ≤ 60 by omega)] at hx2
              go_wp2_with fail
              refine wp_region_flow 8 108 [] rfl rfl (by kernel_rfl) (by kernel_rfl) (by kernel_rfl) ?_ ?_
              · intro x hx φ he
                cases hx
              intro ops' A' K' T hops hA' hK hT
              refine fl_mv 77 (by rfl) (by decide) (wanted_none (by rfl)) (by rw [hK.out]; rfl) (by rfl) _ (Or.inl (by rfl)) (.slice (some a2) 10 c2) (by rfl) ?_
              refine fl_mv 78 (by rfl) (by decide) (wanted_none (by rfl)) (by rw [hK.out]; rfl) (by rfl) _ (Or.inl (by rfl)) (.int .i64 (k : Int)) (by rfl) ?_
              refine fl_op2 79 (by rfl) (by decide) (wanted_none (by rfl)) (by rw [hK.out]; rfl) (by rfl) (.tmp 77) (.tmp 78) (.slice (some a2) 10 c2) (.int .i64 (k : Int)) (by rfl) (by rfl) (.pointer (some (a2.add k))) (fun ρ h1 h2 kk w1 (hg : Grow _ w1) hb hf => by go_simp; intro hlt; omega) ?_
              refine fl_op1 80 (by rfl) (by decide) (wanted_none (by rfl)) (by rw [hK.out]; rfl) (by rfl) (.tmp 79) (.pointer (some (a2.add k))) (by rfl) (.slice b2.A b2.m b2.c) (fun ρ h1 kk w1 (hg : Grow _ w1) hb hf => by have c := e2 _ hg; go_simp) ?_
              refine fl_op1 81 (by rfl) (by decide) (wanted_none (by rfl)) (by rw [hK.out]; rfl) (by rfl) (.tmp 80) (.slice b2.A b2.m b2.c) (by rfl) (.string ⟨bs.toArray⟩) (fun ρ h1 kk w1 (hg : Grow _ w1) hb hf => by have cv := conv_bytes w1 (c := b2.c) (hx2.below hg); go_simp) ?_
              refine fl_mv 82 (by rfl) (by decide) (wanted_none (by rfl)) (by rw [hK.out]; rfl) (by rfl) _ (Or.inl (by rfl)) (.slice Ab m cb) (by rfl) ?_
              refine fl_op1 83 (by rfl) (by decide) (wanted_none (by rfl)) (by rw [hK.out]; rfl) (by rfl) (.tmp 82) (.slice Ab m cb) (by rfl) (.string ⟨bs.toArray⟩) (fun ρ h1 kk w1 (hg : Grow _ w1) hb hf => by have cv := conv_bytes w1 (c := cb) (hbb.below hg); go_simp) ?_
              refine fl_op2 84 (by rfl) (by decide) (wanted_none (by rfl)) (by rw [hK.out]; rfl) (by rfl) (.tmp 81) (.tmp 83) (.string ⟨bs.toArray⟩) (.string ⟨bs.toArray⟩) (by rfl) (by rfl) (.bool false) (fun ρ h1 h2 kk w1 (hg : Grow _ w1) hb hf => by go_simp) ?_
              refine fl_end (fun _ _ w1 (hg : Grow _ w1) _ hfacts => hT _ _ ?_)
              clear hops hA' hK hT
              simp only [putsL, Act.put, List.setIfInBounds_toArray, List.set_cons_zero, List.set_cons_succ, List.drop_succ_cons, List.drop_zero]
              go_wp2_with fail
              go_roundw
              case rel => exact ⟨k + 1, by omega, by go_num, hgr.trans hg⟩
              case measure => simp [intOf]; omega
          · obtain rfl : 10 = k := by omega
            have hk' : decide ((10 : Int) < (10 : Int)) = false := decide_eq_false (by omega)
            clear hX2
            have hIe : Reads wr wr.heap.size 1 As ys.length (u8s ys) := Reads.more (Reads.below hId hgr) hgr.size
            have hb1e : Bytes wr wr.heap.size A1 n1 l1 := Reads.more (Reads.below hb1d hgr) hgr.size
            go_wp2_with (at_builtin; refine stay ?_)
            refine stay_out ?_
            refine wpList_own (V := fun x => x = wr.heap.size) u8E _ rfl (.tmp 87) (.tmp 88) rfl (.slice (some ⟨wr.heap.size, 0, none⟩) 0 0) 0 [] rfl (made_own wr) wr.heap.size As ys.length cs (u8s ys) rfl (Reads.alloc hIe (Nat.le_refl _) _) u8s_one (by omega) ?_
            intro v2 wb hO2 hj2
            simp only [Nat.zero_add, List.nil_append] at hO2
            obtain ⟨hO2, hgb⟩ := own_new hO2 hj2
            clear hj2
            have hb1f : Bytes wb wb.heap.size A1 n1 l1 := Reads.more (Reads.below hb1e hgb) hgb.size
            go_wp2_with (at_builtin; refine stay ?_)
            refine stay_out ?_
            refine wpList_own (V := New wr wb) u8E _ rfl (.tmp 89) (.tmp 90) rfl v2 ys.length (u8s ys) rfl hO2 wb.heap.size A1 n1 c1 (u8s l1) rfl hb1f u8s_one (by omega) ?_
            intro v3 we hO3 hj3
            obtain ⟨hO3, hge⟩ := own_more hgb hO3 hj3
            clear hj3 hO2
            rw [← u8s_append] at hO3
            obtain ⟨A4, c4, rfl, hR4, hn4, hm4⟩ := hO3.reads
            go_wp2_with fail
            go_at_call 15
            refine (Scan_any we A4 _ c4 (ys ++ l1) hR4 hn4 hm4 (by omega)).mono ?_
            rintro e wg ⟨zs, j, u, hS, rfl, ⟨A5, c5, q5, rfl, _, hm5, _, _⟩, hgg⟩
            have hY2 := HY.out
            have hlen := scan_more (xs := xs) (r := l1) (by rw [← hY2]; exact hS) (fun x hx => by
              rw [HX.out] at hx
              obtain ⟨b, _, rfl⟩ := List.mem_map.1 hx
              rw [List.length_take]; omega)
            have hxl : xs.length = 10 := by rw [HX.out, List.length_map, List.length_take, hq.len]; omega
            have h5 : 10 ≤ q5.length := by have h := congrArg List.length hm5; rw [List.length_map] at h; omega
            have h6 : ys.length ≤ j := by rw [hY2]; exact hlen.2
            have h5' : decide ((10 : Int) ≤ (q5.length : Int)) = true := decide_eq_true (by omega)
            have h5n : decide (10 ≤ q5.length) = true := decide_eq_true h5
            have h6n : decide (ys.length ≤ j) = true := decide_eq_true h6
            clear hS hO3 hR4 hY2 hlen
            go_wp2_with (go_at_call 12; refine (known_any _).mono ?_; rintro e w7 ⟨rfl, hg7⟩)
            go_ret
            exact ⟨rfl, (((hgwd.trans hgr).trans hge).trans hgg).trans hg7⟩
  · have h10' : decide ((n0 : Int) < (10 : Int)) = false := decide_eq_false (by omega)
    have h10'' : decide ((10 : Int) < (n0 : Int)) = true := decide_eq_true (by omega)
    go_enter Try.func6, Try.ntmps6
    go_wp2_with fail
    go_loopw [5, 7] (fun s i wr => ∃ (k : Nat) (ys : List UInt8), k ≤ 10 ∧ i = .int .i64 (k : Int) ∧ ys = ((q.take k).map fun b => b.bs.take 60).flatMap frame ∧ ys.length ≤ 74 * k ∧ Own wr (New w wr) 5 1 s ys.length (u8s ys) ∧ Grow w wr) (fun _ i _ => 10 - (intOf i).toNat)
    case atStart => exact ⟨0, [], by omega, rfl, by simp, by simp, Own.nil, Grow.refl _⟩
    case round =>
      obtain ⟨k, ys, hkn, rfl, hys, hy, hO, hg⟩ := hrel
      obtain ⟨As, cs, rfl, hIs, hns, hms⟩ := hO.reads
      have HY := Lib.hid hys
      clear hys
      have hsr := hg.size
      by_cases hk : k < 10
      · have hk' : decide ((k : Int) < (10 : Int)) = true := decide_eq_true (by omega)
        obtain ⟨ad, hkq, rfl, e0⟩ := rec1 (hq.grow hg).row (show k < n0 by omega)
        have e0 := e0 _ (Grow.refl _)
        have hx := (hq.all _ (List.getElem_mem hkq)).grow hg
        have HB : Hid (((q.take (k + 1)).map fun b => b.bs.take 60).flatMap frame = ((q.take k).map fun b => b.bs.take 60).flatMap frame ++ frame (q[k].bs.take 60)) := by
          refine Lib.hid ?_
          rw [List.take_succ_eq_append_getElem hkq, List.map_append, List.flatMap_append]; simp
        generalize q[k] = b at e0 hx HB
        obtain ⟨Ab, m, cb, bs⟩ := b
        have hml := hx.len
        have hle := hx.le
        have hbs := hx.bytes
        dsimp only at e0 hml hbs hle HB
        by_cases h60 : 60 < m
        · have h60' : decide ((60 : Int) < (m : Int)) = true := decide_eq_true (by omega)
          have hbb : Bytes wr wr.heap.size Ab 60 (bs.take 60) := by
            have := Reads.take hbs (k := 60) (by omega)
            unfold Bytes; rw [u8s_take]; exact this
          have hfl := frame_le (bs.take 60) (by rw [List.length_take]; omega)
          rw [List.length_take, Nat.min_eq_left (show 60 ≤ bs.length by omega)] at hfl
          go_wp2_with fail
          go_at_call 10
          refine (Bytes_any wr Ab 60 cb (bs.take 60) hbb (by omega)).mono ?_
          rintro e w1 ⟨v1, rfl, hO1, hg1⟩
          obtain ⟨A3, c3, rfl, hR3, hn3, hm3⟩ := hO1.reads
          go_wp2_with (at_builtin; refine stay ?_)
          refine stay_out ?_
          refine wpList_own (V := New w w1) u8E _ rfl (.tmp 41) (.tmp 42) rfl (.slice As ys.length cs) ys.length (u8s ys) rfl ((Own.grow hO (fun b hb => hb.2) hg1).mono fun b hb => ⟨hb.1, by have := hb.2; have := hg1.size; omega⟩) w1.heap.size A3 _ c3 (u8s (frame (bs.take 60))) rfl hR3 u8s_one (by omega) ?_
          intro v2 w2 hO2 hj2
          obtain ⟨hO2, hg2⟩ := own_more (hg.trans hg1) hO2 hj2
          rw [← u8s_append, ← List.length_append] at hO2
          go_wp2_with fail
          go_roundw
          case rel => exact ⟨k + 1, ys ++ frame (bs.take 60), by omega, by go_num, by rw [HB.out, HY.out], by rw [List.length_append]; omega, hO2, hg2⟩
          case measure => simp [intOf]; omega
        · have h60' : decide ((60 : Int) < (m : Int)) = false := decide_eq_false (by omega)
          have HC := Lib.hid (show bs.take 60 = bs from List.take_of_length_le (by omega))
          have hbb := hbs
          have hfl := frame_le bs (by omega)
          go_wp2_with fail
          go_at_call 10
          refine (Bytes_any wr Ab m cb bs hbb (by omega)).mono ?_
          rintro e w1 ⟨v1, rfl, hO1, hg1⟩
          obtain ⟨A3, c3, rfl, hR3, hn3, hm3⟩ := hO1.reads
          go_wp2_with (at_builtin; refine stay ?_)
          refine stay_out ?_
          refine wpList_own (V := New w w1) u8E _ rfl (.tmp 41) (.tmp 42) rfl (.slice As ys.length cs) ys.length (u8s ys) rfl ((Own.grow hO (fun b hb => hb.2) hg1).mono fun b hb => ⟨hb.1, by have := hb.2; have := hg1.size; omega⟩) w1.heap.size A3 _ c3 (u8s (frame bs)) rfl hR3 u8s_one (by omega) ?_
          intro v2 w2 hO2 hj2
          obtain ⟨hO2, hg2⟩ := own_more (hg.trans hg1) hO2 hj2
          rw [← u8s_append, ← List.length_append] at hO2
          go_wp2_with fail
          go_roundw
          case rel => exact ⟨k + 1, ys ++ frame bs, by omega, by go_num, by rw [HB.out, HY.out]; simp only [HC.out], by rw [List.length_append]; omega, hO2, hg2⟩
          case measure => simp [intOf]; omega
      · obtain rfl : 10 = k := by omega
        have hk' : decide ((10 : Int) < (10 : Int)) = false := decide_eq_false (by omega)
        have hxl : ((q.take 10).map fun b => b.bs.take 60).length = 10 := by rw [List.length_map, List.length_take, hq.len]; omega
        have hx60 : ∀ x ∈ (q.take 10).map fun b => b.bs.take 60, x.length ≤ 65536 := fun x hx => by
          obtain ⟨b, _, rfl⟩ := List.mem_map.1 hx
          rw [List.length_take]; omega
        obtain ⟨xs, HX⟩ : ∃ xs : List (List UInt8), Hid (xs = (q.take 10).map fun b => b.bs.take 60) := ⟨_, rfl⟩
        rw [← HX.out] at hxl hx60 HY
        have hS1 := scan_rows xs [255, 255] hx60 no_two
        rw [← HY.out] at hS1
        have hb1a : Bytes wr wr.heap.size A1 n1 l1 := Reads.more (Reads.below hb1 hg) hg.size
        go_wp2_with (at_builtin; refine stay ?_)
        refine stay_out ?_
        refine wpList_own (V := fun x => x = wr.heap.size) u8E _ rfl (.tmp 45) (.tmp 46) rfl (.slice (some ⟨wr.heap.size, 0, none⟩) 0 0) 0 [] rfl (made_own wr) wr.heap.size As ys.length cs (u8s ys) rfl (Reads.alloc hIs (Nat.le_refl _) _) u8s_one (by omega) ?_
        intro v2 wb hO2 hj2
        simp only [Nat.zero_add, List.nil_append] at hO2
        obtain ⟨hO2, hgb⟩ := own_new hO2 hj2
        clear hj2
        go_wp2_with (at_builtin; refine stay ?_)
        refine stay_out ?_
        refine wpList_own (V := New wr wb) u8E _ rfl (.tmp 47) (.tmp 48) rfl v2 ys.length (u8s ys) rfl (own_alloc hO2 _) (wb.heap.size + 1) (some ⟨wb.heap.size, 0, none⟩) 2 2 (u8s [255, 255]) rfl (reads_laid wb _ 5 (0, 0) rfl _ rfl) u8s_one (by omega) ?_
        intro v3 wc hO3 hj3
        obtain ⟨hO3, hgc⟩ := own_more1 hgb hO3 hj3
        clear hj3 hO2
        rw [← u8s_append] at hO3
        obtain ⟨A3, c3, rfl, hR3, hn3, hm3⟩ := hO3.reads
        go_wp2_with fail
        go_at_call 15
        refine (Scan_any wc A3 _ c3 (ys ++ [255, 255]) hR3 hn3 hm3 (by omega)).mono ?_
        rintro e wd ⟨zs, k, u, hS, rfl, ⟨A2, c2, q2, rfl, hX2, hm2, hn2, hc2⟩, hgd⟩
        obtain ⟨hz1, rfl⟩ := hS.one hS1
        obtain rfl : xs = zs := hz1.symm
        have hq2 : q2.length = 10 := by rw [← hxl, ← hm2, List.length_map]
        rw [hq2] at hX2 hn2 ⊢
        have hgwd := (hg.trans hgc).trans hgd
        have hb1d : Bytes wd wd.heap.size A1 n1 l1 := Reads.more (Reads.below hb1 hgwd) hgwd.size
        have hId : Reads wd wd.heap.size 1 As ys.length (u8s ys) := Reads.more (Reads.below hIs (hgc.trans hgd)) (hgc.trans hgd).size
        have HM := Lib.hid hm2
        clear hS hS1 hO3 hR3 hm2 hx60 hxl
        go_wp2_with fail
        go_loopw [65] (fun i wr => ∃ k : Nat, k ≤ 10 ∧ i = .int .i64 (k : Int) ∧ Grow wd wr) (fun i _ => 10 - (intOf i).toNat)
        case atStart => exact ⟨0, by omega, rfl, Grow.refl _⟩
        case round =>
          obtain ⟨k, hkn, rfl, hgr⟩ := hrel
          by_cases hk : k < 10
          · have hk' : decide ((k : Int) < (10 : Int)) = true := decide_eq_true (by omega)
            have hgw := hgwd.trans hgr
            obtain ⟨ad, hkq, hAe, e0⟩ := rec1 (hq.grow hgw).row (show k < n0 by omega)
            have e0 := e0 _ (Grow.refl _)
            have hx := (hq.all _ (List.getElem_mem hkq)).grow hgw
            obtain ⟨a2, hkq2, rfl, e2⟩ := rec1 (hX2.grow hgr).row hk
            have hx2 := ((hX2.all _ (List.getElem_mem hkq2)).grow hgr).bytes
            have hab : q2[k].bs = q[k].bs.take 60 := by
              have h3 : (q2.map Bx.bs)[k]? = some q2[k].bs := by rw [List.getElem?_map, List.getElem?_eq_getElem hkq2]; rfl
              rw [HM.out, HX.out, List.getElem?_map, List.getElem?_take, if_pos hk, List.getElem?_eq_getElem hkq] at h3
              injection h3 with h3
              exact h3.symm
            rw [hab] at hx2
            clear hab
            generalize q[k] = b at e0 hx hx2
            generalize q2[k] = b2 at e2 hx2
            obtain ⟨Ab, m, cb, bs⟩ := b
            have hml := hx.len
            have hle := hx.le
            have hbs := hx.bytes
            dsimp only at e0 hml hbs hle hx2
            subst hAe
            by_cases h60 : 60 < m
            · have h60' : decide ((60 : Int) < (m : Int)) = true := decide_eq_true (by omega)
              have hbb := hbs.take (k := 60) (by omega)
              rw [← u8s_take] at hbb
              go_wp2_with fail
              refine wp_region_flow 8 108 [] rfl rfl (by kernel_rfl) (by kernel_rfl) (by kernel_rfl) ?_ ?_
              · intro x hx φ he
                cases hx
              intro ops' A' K' T hops hA' hK hT
              refine fl_mv 77 (by rfl) (by decide) (wanted_none (by rfl)) (by rw [hK.out]; rfl) (by rfl) _ (Or.inl (by rfl)) (.slice (some a2) 10 c2) (by rfl) ?_
              refine fl_mv 78 (by rfl) (by decide) (wanted_none (by rfl)) (by rw [hK.out]; rfl) (by rfl) _ (Or.inl (by rfl)) (.int .i64 (k : Int)) (by rfl) ?_
              refine fl_op2 79 (by rfl) (by decide) (wanted_none (by rfl)) (by rw [hK.out]; rfl) (by rfl) (.tmp 77) (.tmp 78) (.slice (some a2) 10 c2) (.int .i64 (k : Int)) (by rfl) (by rfl) (.pointer (some (a2.add k))) (fun ρ h1 h2 kk w1 (hg : Grow _ w1) hb hf => by go_simp; intro hlt; omega) ?_
              refine fl_op1 80 (by rfl) (by decide) (wanted_none (by rfl)) (by rw [hK.out]; rfl) (by rfl) (.tmp 79) (.pointer (some (a2.add k))) (by rfl) (.slice b2.A b2.m b2.c) (fun ρ h1 kk w1 (hg : Grow _ w1) hb hf => by have c := e2 _ hg; go_simp) ?_
              refine fl_op1 81 (by rfl) (by decide) (wanted_none (by rfl)) (by rw [hK.out]; rfl) (by rfl) (.tmp 80) (.slice b2.A b2.m b2.c) (by rfl) (.string ⟨(bs.take 60).toArray⟩) (fun ρ h1 kk w1 (hg : Grow _ w1) hb hf => by have cv := conv_bytes w1 (c := b2.c) (hx2.below hg); go_simp) ?_
              refine fl_mv 82 (by rfl) (by decide) (wanted_none (by rfl)) (by rw [hK.out]; rfl) (by rfl) _ (Or.inl (by rfl)) (.slice Ab 60 cb) (by rfl) ?_
              refine fl_op1 83 (by rfl) (by decide) (wanted_none (by rfl)) (by rw [hK.out]; rfl) (by rfl) (.tmp 82) (.slice Ab 60 cb) (by rfl) (.string ⟨(bs.take 60).toArray⟩) (fun ρ h1 kk w1 (hg : Grow _ w1) hb hf => by have cv := conv_bytes w1 (c := cb) (hbb.below hg); go_simp) ?_
              refine fl_op2 84 (by rfl) (by decide) (wanted_none (by rfl)) (by rw [hK.out]; rfl) (by rfl) (.tmp 81) (.tmp 83) (.string ⟨(bs.take 60).toArray⟩) (.string ⟨(bs.take 60).toArray⟩) (by rfl) (by rfl) (.bool false) (fun ρ h1 h2 kk w1 (hg : Grow _ w1) hb hf => by go_simp) ?_
              refine fl_end (fun _ _ w1 (hg : Grow _ w1) _ hfacts => hT _ _ ?_)
              clear hops hA' hK hT
              simp only [putsL, Act.put, List.setIfInBounds_toArray, List.set_cons_zero, List.set_cons_succ, List.drop_succ_cons, List.drop_zero]
              go_wp2_with fail
              go_roundw
              case rel => exact ⟨k + 1, by omega, by go_num, hgr.trans hg⟩
              case measure => simp [intOf]; omega
            · have h60' : decide ((60 : Int) < (m : Int)) = false := decide_eq_false (by omega)
              have hbb := hbs
              rw [List.take_of_length_le (show bs.length ≤ 60 by omega)] at hx2
              go_wp2_with fail
              refine wp_region_flow 8 108 [] rfl rfl (by kernel_rfl) (by kernel_rfl) (by kernel_rfl) ?_ ?_
              · intro x hx φ he
                cases hx
              intro ops' A' K' T hops hA' hK hT
              refine fl_mv 77 (by rfl) (by decide) (wanted_none (by rfl)) (by rw [hK.out]; rfl) (by rfl) _ (Or.inl (by rfl)) (.slice (some a2) 10 c2) (by rfl) ?_
              refine fl_mv 78 (by rfl) (by decide) (wanted_none (by rfl)) (by rw [hK.out]; rfl) (by rfl) _ (Or.inl (by rfl)) (.int .i64 (k : Int)) (by rfl) ?_
              refine fl_op2 79 (by rfl) (by decide) (wanted_none (by rfl)) (by rw [hK.out]; rfl) (by rfl) (.tmp 77) (.tmp 78) (.slice (some a2) 10 c2) (.int .i64 (k : Int)) (by rfl) (by rfl) (.pointer (some (a2.add k))) (fun ρ h1 h2 kk w1 (hg : Grow _ w1) hb hf => by go_simp; intro hlt; omega) ?_
              refine fl_op1 80 (by rfl) (by decide) (wanted_none (by rfl)) (by rw [hK.out]; rfl) (by rfl) (.tmp 79) (.pointer (some (a2.add k))) (by rfl) (.slice b2.A b2.m b2.c) (fun ρ h1 kk w1 (hg : Grow _ w1) hb hf => by have c := e2 _ hg; go_simp) ?_
              refine fl_op1 81 (by rfl) (by decide) (wanted_none (by rfl)) (by rw [hK.out]; rfl) (by rfl) (.tmp 80) (.slice b2.A b2.m b2.c) (by rfl) (.string ⟨bs.toArray⟩) (fun ρ h1 kk w1 (hg : Grow _ w1) hb hf => by have cv := conv_bytes w1 (c := b2.c) (hx2.below hg); go_simp) ?_
              refine fl_mv 82 (by rfl) (by decide) (wanted_none (by rfl)) (by rw [hK.out]; rfl) (by rfl) _ (Or.inl (by rfl)) (.slice Ab m cb) (by rfl) ?_
              refine fl_op1 83 (by rfl) (by decide) (wanted_none (by rfl)) (by rw [hK.out]; rfl) (by rfl) (.tmp 82) (.slice Ab m cb) (by rfl) (.string ⟨bs.toArray⟩) (fun ρ h1 kk w1 (hg : Grow _ w1) hb hf => by have cv := conv_bytes w1 (c := cb) (hbb.below hg); go_simp) ?_
              refine fl_op2 84 (by rfl) (by decide) (wanted_none (by rfl)) (by rw [hK.out]; rfl) (by rfl) (.tmp 81) (.tmp 83) (.string ⟨bs.toArray⟩) (.string ⟨bs.toArray⟩) (by rfl) (by rfl) (.bool false) (fun ρ h1 h2 kk w1 (hg : Grow _ w1) hb hf => by go_simp) ?_
              refine fl_end (fun _ _ w1 (hg : Grow _ w1) _ hfacts => hT _ _ ?_)
              clear hops hA' hK hT
              simp only [putsL, Act.put, List.setIfInBounds_toArray, List.set_cons_zero, List.set_cons_succ, List.drop_succ_cons, List.drop_zero]
              go_wp2_with fail
              go_roundw
              case rel => exact ⟨k + 1, by omega, by go_num, hgr.trans hg⟩
              case measure => simp [intOf]; omega
          · obtain rfl : 10 = k := by omega
            have hk' : decide ((10 : Int) < (10 : Int)) = false := decide_eq_false (by omega)
            clear hX2
            have hIe : Reads wr wr.heap.size 1 As ys.length (u8s ys) := Reads.more (Reads.below hId hgr) hgr.size
            have hb1e : Bytes wr wr.heap.size A1 n1 l1 := Reads.more (Reads.below hb1d hgr) hgr.size
            go_wp2_with (at_builtin; refine stay ?_)
            refine stay_out ?_
            refine wpList_own (V := fun x => x = wr.heap.size) u8E _ rfl (.tmp 87) (.tmp 88) rfl (.slice (some ⟨wr.heap.size, 0, none⟩) 0 0) 0 [] rfl (made_own wr) wr.heap.size As ys.length cs (u8s ys) rfl (Reads.alloc hIe (Nat.le_refl _) _) u8s_one (by omega) ?_
            intro v2 wb hO2 hj2
            simp only [Nat.zero_add, List.nil_append] at hO2
            obtain ⟨hO2, hgb⟩ := own_new hO2 hj2
            clear hj2
            have hb1f : Bytes wb wb.heap.size A1 n1 l1 := Reads.more (Reads.below hb1e hgb) hgb.size
            go_wp2_with (at_builtin; refine stay ?_)
            refine stay_out ?_
            refine wpList_own (V := New wr wb) u8E _ rfl (.tmp 89) (.tmp 90) rfl v2 ys.length (u8s ys) rfl hO2 wb.heap.size A1 n1 c1 (u8s l1) rfl hb1f u8s_one (by omega) ?_
            intro v3 we hO3 hj3
            obtain ⟨hO3, hge⟩ := own_more hgb hO3 hj3
            clear hj3 hO2
            rw [← u8s_append] at hO3
            obtain ⟨A4, c4, rfl, hR4, hn4, hm4⟩ := hO3.reads
            go_wp2_with fail
            go_at_call 15
            refine (Scan_any we A4 _ c4 (ys ++ l1) hR4 hn4 hm4 (by omega)).mono ?_
            rintro e wg ⟨zs, j, u, hS, rfl, ⟨A5, c5, q5, rfl, _, hm5, _, _⟩, hgg⟩
            have hY2 := HY.out
            have hlen := scan_more (xs := xs) (r := l1) (by rw [← hY2]; exact hS) (fun x hx => by
              rw [HX.out] at hx
              obtain ⟨b, _, rfl⟩ := List.mem_map.1 hx
              rw [List.length_take]; omega)
            have hxl : xs.length = 10 := by rw [HX.out, List.length_map, List.length_take, hq.len]; omega
            have h5 : 10 ≤ q5.length := by have h := congrArg List.length hm5; rw [List.length_map] at h; omega
            have h6 : ys.length ≤ j := by rw [hY2]; exact hlen.2
            have h5' : decide ((10 : Int) ≤ (q5.length : Int)) = true := decide_eq_true (by omega)
            have h5n : decide (10 ≤ q5.length) = true := decide_eq_true h5
            have h6n : decide (ys.length ≤ j) = true := decide_eq_true h6
            clear hS hO3 hR4 hY2 hlen
            go_wp2_with (go_at_call 12; refine (known_any _).mono ?_; rintro e w7 ⟨rfl, hg7⟩)
            go_ret
            exact ⟨rfl, (((hgwd.trans hgr).trans hge).trans hgg).trans hg7⟩
end Go.Proofs.Ytocpepknlnghkaa
