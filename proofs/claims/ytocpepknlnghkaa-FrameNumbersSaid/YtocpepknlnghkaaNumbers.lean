/- FrameNumbers: its walk. -/
import Derived.Test.YtocpepknlnghkaaTells
namespace Go.Proofs.Ytocpepknlnghkaa
open Go.RowKit Go.Hop
theorem reads_bytes {w : World} {B n : Nat} {A : Option Addr} {c : Nat} {l : List UInt8} (h : Bytes w B A n l) (hB : B ≤ w.heap.size) (hnc : n ≤ c) (hcm : c ≤ maxLen) (hn : n ≤ 1099511627776) : Calls Try.prog 9 #[.slice A n c] w fun e w' => e = .returned (.bool true) ∧ Grow w w' :=
  reads_any w A n c l (Reads.more h hB) hnc hcm hn
/-- three rows of bytes, the second nil -/
theorem three_laid (w : World) (cs1 cs3 : Array Value) (l1 l3 : List UInt8) (n1 n3 : Nat) (h1 : cs1.toList = u8s l1) (h3 : cs3.toList = u8s l3) (e1 : l1.length = n1) (e3 : l3.length = n3) (k1 k3 k : Nat × Nat) (hm1 : n1 ≤ 100) (hm3 : n3 ≤ 100) (W : World)
    (hW : W = ((w.alloc (.cells cs1 5 k1)).alloc (.cells cs3 5 k3)).alloc (.cells #[.slice (some ⟨w.heap.size, 0, none⟩) n1 n1, .slice none 0 0, .slice (some ⟨w.heap.size + 1, 0, none⟩) n3 n3] 22 k)) :
    Bxs W (fun b => b < W.heap.size) (fun b => b < W.heap.size) (some ⟨w.heap.size + 2, 0, none⟩) 3 [⟨some ⟨w.heap.size, 0, none⟩, n1, n1, l1⟩, ⟨none, 0, 0, []⟩, ⟨some ⟨w.heap.size + 1, 0, none⟩, n3, n3, l3⟩] := by
  have hs : W.heap.size = w.heap.size + 3 := by rw [hW]; simp
  have hmax : (100 : Nat) ≤ maxLen := by decide
  refine ⟨Reads.in_ (B := W.heap.size) ?_ (Nat.le_refl _) fun _ h => h, fun b hb => ?_⟩
  · rw [hs, hW]
    exact reads_laid _ _ 22 k (n := 3) (size := 1) rfl (w.heap.size + 2) (by simp)
  · simp only [List.mem_cons, List.not_mem_nil, or_false] at hb
    rcases hb with rfl | rfl | rfl
    · refine ⟨Reads.in_ (B := W.heap.size) ?_ (Nat.le_refl _) fun _ h => h, Nat.le_refl _, by show n1 ≤ _; omega⟩
      have := reads_laid w cs1 5 k1 (n := n1) (size := 1) (by rw [← Array.length_toList, h1]; simp [e1]) w.heap.size rfl
      rw [h1] at this
      rw [hW]
      exact Reads.more ((this.alloc (by simp) _).alloc (by simp) _) (by simp)
    · exact ⟨In.nil, Nat.le_refl _, Nat.zero_le _⟩
    · refine ⟨Reads.in_ (B := W.heap.size) ?_ (Nat.le_refl _) fun _ h => h, Nat.le_refl _, by show n3 ≤ _; omega⟩
      have := reads_laid (w.alloc (.cells cs1 5 k1)) cs3 5 k3 (n := n3) (size := 1) (by rw [← Array.length_toList, h3]; simp [e3]) (w.heap.size + 1) (by simp)
      rw [h3] at this
      rw [hW]
      exact Reads.more (this.alloc (by simp) _) (by simp)
set_option maxRecDepth 100000 in
set_option maxHeartbeats 1600000 in
theorem numbers_any (w : World) : Calls Try.prog 3 #[] w fun e w' => e = .returned (.bool true) ∧ Grow w w' := by
  have kc := conv_const
  have k11 : ∀ (vs : Array Value) (w : World), (callFunc 11 vs).run Try.prog w = .ok (.enter 11 vs) w := fun vs w => by go_simp
  have k9 : ∀ (vs : Array Value) (w : World), (callFunc 9 vs).run Try.prog w = .ok (.enter 9 vs) w := fun vs w => by go_simp
  go_enter Try.func3, Try.ntmps3
  go_wp2_with fail
  go_at_call 8
  refine (row_any _ _ 3 3 _ (three_laid w _ _ [102, 105, 114, 115, 116] [116, 104, 101, 32, 116, 104, 105, 114, 100] 5 9 rfl rfl rfl rfl _ _ _ (by decide) (by decide) _ rfl) (by decide) (by decide)).mono ?_
  rintro e wa ⟨v, b, rfl, hOb, hbl, hga⟩
  have hga := grow_alloc (grow_alloc (grow_alloc hga))
  obtain ⟨Ab, cb, rfl, hRb, hnb, hmb⟩ := hOb.reads
  have hmb' := hmb
  unfold maxLen at hmb'
  clear hOb kc
  go_wp2_with fail
  go_loopw [2] (fun i wr => ∃ k : Nat, k ≤ b.length + 1 ∧ i = .int .i64 (k : Int) ∧ Grow wa wr) (fun i _ => b.length + 1 - (intOf i).toNat)
  case atStart => exact ⟨0, by omega, rfl, Grow.refl _⟩
  case round =>
    obtain ⟨k, hkn, rfl, hgr⟩ := hrel
    have hbwr : Bytes wr wr.heap.size Ab b.length b := Reads.more (Reads.below hRb hgr) hgr.size
    by_cases hk : k ≤ b.length
    · have hk' : decide (k ≤ b.length) = true := decide_eq_true hk
      have hT : Bytes wr wr.heap.size Ab k (b.take k) := by
        have := Reads.take hbwr (k := k) hk
        unfold Bytes; rw [u8s_take]; exact this
      have hC := Reads.cut hbwr (k := k) (cap := cb) hk hnb
      have hC' : Bytes wr wr.heap.size (if cb = k then Ab else Ab.map (·.add k)) (b.length - k) (b.drop k) := by
        simp only [Nat.mul_one] at hC
        unfold Bytes; rw [u8s_drop, Nat.mul_one]; exact hC
      have hkc : (k : Int) ≤ (cb : Int) := by omega
      go_wp2_with fail
      refine (reads_any wr Ab k cb (b.take k) hT (by omega) hmb (by omega)).mono ?_
      rintro e ws ⟨rfl, hgs⟩
      have hC2 := Reads.more (Reads.below hC' hgs) hgs.size
      clear hC hC' hT
      by_cases hkl : k < b.length
      · have hkl' : decide ((k : Int) < (b.length : Int)) = true := decide_eq_true (by omega)
        have hck : ¬ cb = k := by omega
        rw [if_neg hck] at hC2
        go_wp2_with fail
        refine (reads_bytes (c := cb - k) (l := b.drop k) hC2 (Nat.le_refl _) (by omega) (by omega) (by omega)).mono ?_
        rintro e wt ⟨rfl, hgt⟩
        have hgw0 := hgr.trans (hgs.trans hgt)
        have hbwt : Bytes wt wt.heap.size Ab b.length b := Reads.more (Reads.below hRb hgw0) hgw0.size
        clear hC2
        go_wp2_with (at_builtin; refine stay ?_)
        refine stay_out ?_
        refine wpList_own (V := fun x => x = wt.heap.size) u8E _ rfl (.tmp 38) (.tmp 39) rfl (.slice (some ⟨wt.heap.size, 0, none⟩) 0 0) 0 [] rfl (made_own wt) wt.heap.size Ab b.length cb (u8s b) rfl (Reads.alloc hbwt (Nat.le_refl _) _) u8s_one (by omega) ?_
        intro v38 wt1 hO2 hj2
        simp only [Nat.zero_add, List.nil_append] at hO2
        obtain ⟨hO2, hgwt⟩ := own_new hO2 hj2
        clear hj2
        obtain ⟨g38, c38, rfl, hV38, hat⟩ := own_at hO2 (by omega)
        obtain ⟨u, hu, hcell, hfz, hput⟩ := hat k hkl
        obtain ⟨_, hu'⟩ := u8s_get hu
        subst hu'
        have hx8 : bits .xor .u8 (b[k].toNat : Int) 1 = ((b[k] ^^^ 1).toNat : Int) := xor8 b[k] 1
        have hput := hput (.int .u8 ((b[k] ^^^ 1).toNat : Int))
        rw [u8s_set] at hput
        have hxl : (b.set k (b[k] ^^^ 1)).length = b.length := List.length_set
        generalize b[k] ^^^ 1 = y38 at hx8 hput hxl
        generalize b[k] = bi at hcell hx8
        go_wp2_with (at_builtin; refine stay ?_)
        refine stay_out ?_
        have hgx := grow_set hgwt (g := g38) hV38.1 k (.int .u8 (y38.toNat : Int))
        have hIx := hput.isBytes
        have hxl1 := hxl
        clear hput hcell hfz hat hO2 hx8 hu hxl
        have hsz := setCell_size wt1 ⟨g38, k, none⟩ (.int .u8 (y38.toNat : Int))
        generalize wt1.setCell ⟨g38, k, none⟩ (.int .u8 (y38.toNat : Int)) = wx at hgx hIx hsz ⊢
        rw [← hsz]
        have hgwx0 := hgw0.trans hgx
        have hbwx : Bytes wx wx.heap.size Ab b.length b := Reads.more (Reads.below hRb hgwx0) hgwx0.size
        refine wpList_own (V := fun x => x = wx.heap.size) u8E _ rfl (.tmp 47) (.tmp 48) rfl (.slice (some ⟨wx.heap.size, 0, none⟩) 0 0) 0 [] rfl (made_own wx) wx.heap.size Ab b.length cb (u8s b) rfl (Reads.alloc hbwx (Nat.le_refl _) _) u8s_one (by omega) ?_
        intro v47 wx1 hO2 hj2
        simp only [Nat.zero_add, List.nil_append] at hO2
        obtain ⟨hO2, hgwx⟩ := own_new hO2 hj2
        clear hj2
        obtain ⟨g47, c47, rfl, hV47, hat⟩ := own_at hO2 (by omega)
        obtain ⟨u, hu, hcell, hfz, hput⟩ := hat k hkl
        obtain ⟨_, hu'⟩ := u8s_get hu
        subst hu'
        have hx8 : bits .xor .u8 (b[k].toNat : Int) 128 = ((b[k] ^^^ 128).toNat : Int) := xor8 b[k] 128
        have hput := hput (.int .u8 ((b[k] ^^^ 128).toNat : Int))
        rw [u8s_set] at hput
        have hxl : (b.set k (b[k] ^^^ 128)).length = b.length := List.length_set
        generalize b[k] ^^^ 128 = y47 at hx8 hput hxl
        generalize b[k] = bi at hcell hx8
        go_wp2_with fail
        have hgy := grow_set hgwx (g := g47) hV47.1 k (.int .u8 (y47.toNat : Int))
        have hIy := hput.isBytes
        have hIx := hIx.below hgy
        clear hput hcell hfz hat hO2 hx8 hu
        generalize wx1.setCell ⟨g47, k, none⟩ (.int .u8 (y47.toNat : Int)) = wy at hgy hIx hIy ⊢
        refine (reads_is hIx (by omega)).mono ?_
        rintro e wz ⟨rfl, hgz⟩
        have hIy := hIy.below hgz
        go_wp2_with fail
        refine (reads_is hIy (by omega)).mono ?_
        rintro e wv ⟨rfl, hgv⟩
        go_wp2_with fail
        go_roundw
        case rel => exact ⟨k + 1, by omega, by go_num, ((hgwx0.trans hgy).trans hgz).trans hgv⟩
        case measure => simp [intOf]; omega
      · obtain rfl : b.length = k := by omega
        by_cases hck : cb = b.length
        · subst hck
          rw [if_pos rfl, Nat.sub_self] at hC2
          go_wp2_with fail
          refine (reads_bytes (c := 0) (l := b.drop b.length) hC2 (Nat.le_refl _) (by omega) (by omega) (by omega)).mono ?_
          rintro e wt ⟨rfl, hgt⟩
          go_wp2_with fail
          go_roundw
          case rel =>
            exact ⟨b.length + 1, by omega, by go_num, hgr.trans (hgs.trans hgt)⟩
          case measure => simp [intOf]
        · rw [if_neg hck, Nat.sub_self] at hC2
          go_wp2_with fail
          refine (reads_bytes (c := cb - b.length) (l := b.drop b.length) hC2 (Nat.le_refl _) (by omega) (by omega) (by omega)).mono ?_
          rintro e wt ⟨rfl, hgt⟩
          go_wp2_with fail
          go_roundw
          case rel => exact ⟨b.length + 1, by omega, by go_num, hgr.trans (hgs.trans hgt)⟩
          case measure => simp [intOf]
    · have hk' : decide (k ≤ b.length) = false := decide_eq_false hk
      have hI := Reads.more (reads_laid wr #[.int .i64 0, .int .i64 1, .int .i64 127, .int .i64 128, .int .i64 65536, .int .i64 65537] 3 (0, 0) (n := 6) (size := 1) rfl wr.heap.size rfl) (show wr.heap.size + 1 ≤ (wr.alloc (.cells #[.int .i64 0, .int .i64 1, .int .i64 127, .int .i64 128, .int .i64 65536, .int .i64 65537] 3)).heap.size by simp)
      have hg0 : Grow wr (wr.alloc (.cells #[.int .i64 0, .int .i64 1, .int .i64 127, .int .i64 128, .int .i64 65536, .int .i64 65537] 3)) := (Below.refl _ _).alloc (Nat.le_refl _) _
      have hgi := (hga.trans hgr).trans hg0
      clear hbwr hRb
      go_wp2_with fail
      obtain ⟨gi, HG⟩ : ∃ gi : Nat, Hid (gi = wr.heap.size) := ⟨_, rfl⟩
      rw [← HG.out] at hI ⊢
      generalize wr.alloc (.cells #[.int .i64 0, .int .i64 1, .int .i64 127, .int .i64 128, .int .i64 65536, .int .i64 65537] 3) = wi at hI hgi ⊢
      clear hg0 hgr
      go_loopw [66] (fun i wr => ∃ k : Nat, k ≤ 6 ∧ i = .int .i64 (k : Int) ∧ Grow wi wr) (fun i _ => 6 - (intOf i).toNat)
      case atStart => exact ⟨0, by omega, rfl, Grow.refl _⟩
      case round =>
        obtain ⟨k, hkn, rfl, hgr⟩ := hrel
        by_cases hk : k < 6
        · have hk' : decide ((k : Int) < (6 : Int)) = true := decide_eq_true (by omega)
          obtain ⟨ad, u, hAe, _, hu, e0⟩ := Reads.at_ (Reads.below hI hgr) hk
          injection hAe with hAe
          subst hAe
          rw [Addr.add_lit, Nat.zero_add] at e0
          obtain ⟨n, hn, rfl⟩ : ∃ n : Nat, n ≤ 65537 ∧ u = .int .i64 (n : Int) := by
            rcases (show k = 0 ∨ k = 1 ∨ k = 2 ∨ k = 3 ∨ k = 4 ∨ k = 5 by omega) with rfl | rfl | rfl | rfl | rfl | rfl <;> (injection hu with hu; subst hu)
            · exact ⟨0, by decide, rfl⟩
            · exact ⟨1, by decide, rfl⟩
            · exact ⟨127, by decide, rfl⟩
            · exact ⟨128, by decide, rfl⟩
            · exact ⟨65536, by decide, rfl⟩
            · exact ⟨65537, by decide, rfl⟩
          have hmk : ∀ w : World, (Instr.makeSlice 22 (.int .i64 (n : Int)) (.int .i64 (n : Int))).run Try.prog w = .ok (.slice (some ⟨w.heap.size, 0, none⟩) n n) (w.alloc (.cells (madeCells #[.int .u8 0] n) 5)) :=
            fun w => run_make_row' 22 5 (.int .u8 0) 1 Try.underlying22 u8_info rfl .i64 .i64 n (by omega) (by omega) w
          have hb := Reads.more (reads_laid wr (madeCells #[.int .u8 0] n) 5 (0, 0) (n := n) (size := 1) (by rw [size_madeCells, Nat.mul_one]) wr.heap.size rfl) (show wr.heap.size + 1 ≤ (wr.alloc (.cells (madeCells #[.int .u8 0] n) 5)).heap.size by simp)
          rw [show (madeCells #[.int .u8 0] n).toList = u8s (List.replicate n 0) by rw [toList_madeCells_one]; unfold u8s; rw [List.map_replicate]; rfl] at hb
          have hg0 : Grow wr (wr.alloc (.cells (madeCells #[.int .u8 0] n) 5)) := (Below.refl _ _).alloc (Nat.le_refl _) _
          have hgm := hgr.trans hg0
          go_wp2_with fail
          clear hmk
          obtain ⟨g, HG2⟩ : ∃ g : Nat, Hid (g = wr.heap.size) := ⟨_, rfl⟩
          rw [← HG2.out] at hb ⊢
          generalize wr.alloc (.cells (madeCells #[.int .u8 0] n) 5) = wm at hb hgm ⊢
          clear hg0 e0 hu
          have hfl : (frame (List.replicate n 0)).length ≤ n + 14 := by
            have := enc_ten (n := n) (by omega)
            rw [frame_len, List.length_replicate]; omega
          by_cases h6 : n ≤ 65536
          · have h6' : decide ((n : Int) ≤ (65536 : Int)) = true := decide_eq_true (by omega)
            go_at_call 10
            refine (Bytes_any wm _ n n (List.replicate n 0) hb h6).mono ?_
            rintro e wf ⟨vf, rfl, hOf, hgf⟩
            have hF := hOf.isBytes
            have hzb : Bytes wf wf.heap.size (some ⟨g, 0, none⟩) n (List.replicate n 0) := Reads.more (Reads.below hb hgf) hgf.size
            clear hOf
            go_wp2_with fail
            refine wp_region_flow 23 106 [(12, .inr (fun _ => IsBytes (frame (List.replicate n 0)))), (19, .inr (fun _ => IsBytes (frame (List.replicate n 0)))), (20, .inl (.bool true))] rfl rfl (by kernel_rfl) (by kernel_rfl) (by kernel_rfl) ?_ ?_
            · intro x hx φ he
              simp only [List.mem_cons, List.not_mem_nil, or_false] at hx
              rcases hx with rfl | rfl | rfl <;> cases he
              all_goals first | exact lasts_quiet (lasting_bytes _) | fail
            intro ops' A' K' T hops hA' hK hT
            refine fl_mv 77 (by rfl) (by decide) (wanted_none (by rfl)) (by rw [hK.out]; rfl) (by rfl) _ (Or.inl (by rfl)) (.int .i64 0) (by rfl) ?_
            refine fl_op2 78 (by rfl) (by decide) (wanted_none (by rfl)) (by rw [hK.out]; rfl) (by rfl) (.tmp 77) (.const (.int .i64 0)) (.int .i64 0) (.int .i64 0) (by rfl) (by rfl) (.bool true) (fun ρ h1 h2 kk w1 (hg : Grow _ w1) hb hf => by go_simp) ?_
            refine fl_mv 79 (by rfl) (by decide) (wanted_none (by rfl)) (by rw [hK.out]; rfl) (by rfl) _ (Or.inl (by rfl)) (.int .i64 (n : Int)) (by rfl) ?_
            refine fl_op2 80 (by rfl) (by decide) (wanted_none (by rfl)) (by rw [hK.out]; rfl) (by rfl) (.tmp 79) (.const (.int .i64 65536)) (.int .i64 (n : Int)) (.int .i64 65536) (by rfl) (by rfl) (.bool true) (fun ρ h1 h2 kk w1 (hg : Grow _ w1) hb hf => by go_simp) ?_
            refine fl_op2 81 (by rfl) (by decide) (wanted_none (by rfl)) (by rw [hK.out]; rfl) (by rfl) (.tmp 78) (.tmp 80) (.bool true) (.bool true) (by rfl) (by rfl) (.bool false) (fun ρ h1 h2 kk w1 (hg : Grow _ w1) hb hf => by go_simp) ?_
            refine fl_mv 82 (by rfl) (by decide) (wanted_none (by rfl)) (by rw [hK.out]; rfl) (by rfl) _ (Or.inl (by rfl)) (.bool false) (by rfl) ?_
            refine fl_mv 83 (by rfl) (by decide) (wanted_if hops 5 false (by rfl) 82 (by rfl) false (by rfl)) (by rw [hK.out]; rfl) (by rfl) _ (Or.inl (by rfl)) (.int .i64 0) (by rfl) ?_
            refine fl_op2 84 (by rfl) (by decide) (wanted_if hops 5 false (by rfl) 82 (by rfl) false (by rfl)) (by rw [hK.out]; rfl) (by rfl) (.tmp 83) (.const (.int .i64 0)) (.int .i64 0) (.int .i64 0) (by rfl) (by rfl) (.bool true) (fun ρ h1 h2 kk w1 (hg : Grow _ w1) hb hf => by go_simp) ?_
            refine fl_mv 85 (by rfl) (by decide) (wanted_if hops 5 false (by rfl) 82 (by rfl) false (by rfl)) (by rw [hK.out]; rfl) (by rfl) _ (Or.inl (by rfl)) (.bool true) (by rfl) ?_
            refine fl_mv 86 (by rfl) (by decide) (wanted_if hops 8 true (by rfl) 85 (by rfl) true (by rfl)) (by rw [hK.out]; rfl) (by rfl) _ (Or.inl (by rfl)) (vf) (by rfl) ?_
            refine fl_op1 87 (by rfl) (by decide) (wanted_if hops 8 true (by rfl) 85 (by rfl) true (by rfl)) (by rw [hK.out]; rfl) (by rfl) (.tmp 86) (vf) (by rfl) (.string ⟨(frame (List.replicate n 0)).toArray⟩) (fun ρ h1 kk w1 (hg : Grow _ w1) hb hf => by have cv := conv_is w1 (hF.below hg); go_simp) ?_
            refine fl_mv 88 (by rfl) (by decide) (wanted_if hops 8 true (by rfl) 85 (by rfl) true (by rfl)) (by rw [hK.out]; rfl) (by rfl) _ (Or.inl (by rfl)) (.slice (some ⟨g, 0, none⟩) n n) (by rfl) ?_
            refine fl_callAny 89 (by rfl) (by decide) (wanted_if hops 8 true (by rfl) 85 (by rfl) true (by rfl)) (fun _ => IsBytes (frame (List.replicate n 0))) (by rw [hK.out]; rfl) 11 _ _ (by rfl) [.slice (some ⟨g, 0, none⟩) n n] (by rfl) k11 (fun kk w1 (hg : Grow _ w1) hb hf => calls_behindAny (φ := fun _ => IsBytes (frame (List.replicate n 0))) (by rfl) (by exact rFrame_is hzb hg (by omega))) (fun v89 => ?_)
            refine fl_op1 90 (by rfl) (by decide) (wanted_if hops 8 true (by rfl) 85 (by rfl) true (by rfl)) (by rw [hK.out]; rfl) (by rfl) (.tmp 89) (v89) (by rfl) (.string ⟨(frame (List.replicate n 0)).toArray⟩) (fun ρ h1 kk w1 (hg : Grow _ w1) hb hf => by have cv := conv_is w1 (facts_take hf (by rw [hA'.out]; kernel_rfl)); go_simp) ?_
            refine fl_op2 91 (by rfl) (by decide) (wanted_if hops 8 true (by rfl) 85 (by rfl) true (by rfl)) (by rw [hK.out]; rfl) (by rfl) (.tmp 87) (.tmp 90) (.string ⟨(frame (List.replicate n 0)).toArray⟩) (.string ⟨(frame (List.replicate n 0)).toArray⟩) (by rfl) (by rfl) (.bool false) (fun ρ h1 h2 kk w1 (hg : Grow _ w1) hb hf => by go_simp) ?_
            refine fl_pick 92 (by rfl) (by decide) (wanted_if hops 5 false (by rfl) 82 (by rfl) false (by rfl)) (by rw [hK.out]; rfl) (by rfl) _ _ _ (by rfl) true (by rfl) (.bool false) (by rfl) ?_
            refine fl_pick 93 (by rfl) (by decide) (wanted_none (by rfl)) (by rw [hK.out]; rfl) (by rfl) _ _ _ (by rfl) false (by rfl) (.bool false) (by rfl) ?_
            refine fl_mv 94 (by rfl) (by decide) (wanted_none (by rfl)) (by rw [hK.out]; rfl) (by rfl) _ (Or.inl (by rfl)) (.bool false) (by rfl) ?_
            refine fl_mv 95 (by rfl) (by decide) (wanted_if hops 17 false (by rfl) 94 (by rfl) false (by rfl)) (by rw [hK.out]; rfl) (by rfl) _ (Or.inl (by rfl)) (.slice (some ⟨g, 0, none⟩) n n) (by rfl) ?_
            refine fl_callAny 96 (by rfl) (by decide) (wanted_if hops 17 false (by rfl) 94 (by rfl) false (by rfl)) (fun _ => IsBytes (frame (List.replicate n 0))) (by rw [hK.out]; rfl) 11 _ _ (by rfl) [.slice (some ⟨g, 0, none⟩) n n] (by rfl) k11 (fun kk w1 (hg : Grow _ w1) hb hf => calls_behindAny (φ := fun _ => IsBytes (frame (List.replicate n 0))) (by rfl) (by exact rFrame_is hzb hg (by omega))) (fun v96 => ?_)
            refine fl_call 97 (by rfl) (by decide) (wanted_if hops 17 false (by rfl) 94 (by rfl) false (by rfl)) (.bool true) (by rw [hK.out]; rfl) 9 _ _ (by rfl) [v96] (by rfl) k9 (fun kk w1 (hg : Grow _ w1) hb hf => calls_behind (by rfl) (by exact reads_is (facts_take hf (by rw [hA'.out]; kernel_rfl)) (by omega))) ?_
            refine fl_op1 98 (by rfl) (by decide) (wanted_if hops 17 false (by rfl) 94 (by rfl) false (by rfl)) (by rw [hK.out]; rfl) (by rfl) (.tmp 97) (.bool true) (by rfl) (.bool false) (fun ρ h1 kk w1 (hg : Grow _ w1) hb hf => by go_simp) ?_
            refine fl_pick 99 (by rfl) (by decide) (wanted_none (by rfl)) (by rw [hK.out]; rfl) (by rfl) _ _ _ (by rfl) false (by rfl) (.bool false) (by rfl) ?_
            refine fl_end (fun _ _ w1 (hg : Grow _ w1) _ hfacts => hT _ _ ?_)
            clear hops hA' hK hT
            simp only [putsL, Act.put, List.setIfInBounds_toArray, List.set_cons_zero, List.set_cons_succ, List.drop_succ_cons, List.drop_zero]
            go_wp2_with fail
            go_roundw
            case rel => exact ⟨k + 1, by omega, by go_num, (hgm.trans hgf).trans hg⟩
            case measure => simp [intOf]; omega
          · have h6' : decide ((n : Int) ≤ (65536 : Int)) = false := decide_eq_false (by omega)
            have hzb : Bytes wm wm.heap.size (some ⟨g, 0, none⟩) n (List.replicate n 0) := hb
            go_at_call 10
            refine (Bytes_long wm _ n n (by omega)).mono ?_
            rintro e wf ⟨rfl, rfl⟩
            go_wp2_with fail
            refine wp_region_flow 23 106 [(19, .inr (fun _ => IsBytes (frame (List.replicate n 0)))), (20, .inl (.bool true))] rfl rfl (by kernel_rfl) (by kernel_rfl) (by kernel_rfl) ?_ ?_
            · intro x hx φ he
              simp only [List.mem_cons, List.not_mem_nil, or_false] at hx
              rcases hx with rfl | rfl <;> cases he
              all_goals first | exact lasts_quiet (lasting_bytes _) | fail
            intro ops' A' K' T hops hA' hK hT
            refine fl_mv 77 (by rfl) (by decide) (wanted_none (by rfl)) (by rw [hK.out]; rfl) (by rfl) _ (Or.inl (by rfl)) (.int .i64 3) (by rfl) ?_
            refine fl_op2 78 (by rfl) (by decide) (wanted_none (by rfl)) (by rw [hK.out]; rfl) (by rfl) (.tmp 77) (.const (.int .i64 0)) (.int .i64 3) (.int .i64 0) (by rfl) (by rfl) (.bool false) (fun ρ h1 h2 kk w1 (hg : Grow _ w1) hb hf => by go_simp) ?_
            refine fl_mv 79 (by rfl) (by decide) (wanted_none (by rfl)) (by rw [hK.out]; rfl) (by rfl) _ (Or.inl (by rfl)) (.int .i64 (n : Int)) (by rfl) ?_
            refine fl_op2 80 (by rfl) (by decide) (wanted_none (by rfl)) (by rw [hK.out]; rfl) (by rfl) (.tmp 79) (.const (.int .i64 65536)) (.int .i64 (n : Int)) (.int .i64 65536) (by rfl) (by rfl) (.bool false) (fun ρ h1 h2 kk w1 (hg : Grow _ w1) hb hf => by go_simp) ?_
            refine fl_op2 81 (by rfl) (by decide) (wanted_none (by rfl)) (by rw [hK.out]; rfl) (by rfl) (.tmp 78) (.tmp 80) (.bool false) (.bool false) (by rfl) (by rfl) (.bool false) (fun ρ h1 h2 kk w1 (hg : Grow _ w1) hb hf => by go_simp) ?_
            refine fl_mv 82 (by rfl) (by decide) (wanted_none (by rfl)) (by rw [hK.out]; rfl) (by rfl) _ (Or.inl (by rfl)) (.bool false) (by rfl) ?_
            refine fl_mv 83 (by rfl) (by decide) (wanted_if hops 5 false (by rfl) 82 (by rfl) false (by rfl)) (by rw [hK.out]; rfl) (by rfl) _ (Or.inl (by rfl)) (.int .i64 3) (by rfl) ?_
            refine fl_op2 84 (by rfl) (by decide) (wanted_if hops 5 false (by rfl) 82 (by rfl) false (by rfl)) (by rw [hK.out]; rfl) (by rfl) (.tmp 83) (.const (.int .i64 0)) (.int .i64 3) (.int .i64 0) (by rfl) (by rfl) (.bool false) (fun ρ h1 h2 kk w1 (hg : Grow _ w1) hb hf => by go_simp) ?_
            refine fl_mv 85 (by rfl) (by decide) (wanted_if hops 5 false (by rfl) 82 (by rfl) false (by rfl)) (by rw [hK.out]; rfl) (by rfl) _ (Or.inl (by rfl)) (.bool false) (by rfl) ?_
            refine fl_skip 86 (by rfl) (by decide) (wanted_if hops 8 true (by rfl) 85 (by rfl) false (by rfl)) (by rfl) ?_
            refine fl_skip 87 (by rfl) (by decide) (wanted_if hops 8 true (by rfl) 85 (by rfl) false (by rfl)) (by rfl) ?_
            refine fl_skip 88 (by rfl) (by decide) (wanted_if hops 8 true (by rfl) 85 (by rfl) false (by rfl)) (by rfl) ?_
            refine fl_skip 89 (by rfl) (by decide) (wanted_if hops 8 true (by rfl) 85 (by rfl) false (by rfl)) (by rfl) ?_
            refine fl_skip 90 (by rfl) (by decide) (wanted_if hops 8 true (by rfl) 85 (by rfl) false (by rfl)) (by rfl) ?_
            refine fl_skip 91 (by rfl) (by decide) (wanted_if hops 8 true (by rfl) 85 (by rfl) false (by rfl)) (by rfl) ?_
            refine fl_pick 92 (by rfl) (by decide) (wanted_if hops 5 false (by rfl) 82 (by rfl) false (by rfl)) (by rw [hK.out]; rfl) (by rfl) _ _ _ (by rfl) false (by rfl) (.bool false) (by rfl) ?_
            refine fl_pick 93 (by rfl) (by decide) (wanted_none (by rfl)) (by rw [hK.out]; rfl) (by rfl) _ _ _ (by rfl) false (by rfl) (.bool false) (by rfl) ?_
            refine fl_mv 94 (by rfl) (by decide) (wanted_none (by rfl)) (by rw [hK.out]; rfl) (by rfl) _ (Or.inl (by rfl)) (.bool false) (by rfl) ?_
            refine fl_mv 95 (by rfl) (by decide) (wanted_if hops 17 false (by rfl) 94 (by rfl) false (by rfl)) (by rw [hK.out]; rfl) (by rfl) _ (Or.inl (by rfl)) (.slice (some ⟨g, 0, none⟩) n n) (by rfl) ?_
            refine fl_callAny 96 (by rfl) (by decide) (wanted_if hops 17 false (by rfl) 94 (by rfl) false (by rfl)) (fun _ => IsBytes (frame (List.replicate n 0))) (by rw [hK.out]; rfl) 11 _ _ (by rfl) [.slice (some ⟨g, 0, none⟩) n n] (by rfl) k11 (fun kk w1 (hg : Grow _ w1) hb hf => calls_behindAny (φ := fun _ => IsBytes (frame (List.replicate n 0))) (by rfl) (by exact rFrame_is hzb hg (by omega))) (fun v96 => ?_)
            refine fl_call 97 (by rfl) (by decide) (wanted_if hops 17 false (by rfl) 94 (by rfl) false (by rfl)) (.bool true) (by rw [hK.out]; rfl) 9 _ _ (by rfl) [v96] (by rfl) k9 (fun kk w1 (hg : Grow _ w1) hb hf => calls_behind (by rfl) (by exact reads_is (facts_take hf (by rw [hA'.out]; kernel_rfl)) (by omega))) ?_
            refine fl_op1 98 (by rfl) (by decide) (wanted_if hops 17 false (by rfl) 94 (by rfl) false (by rfl)) (by rw [hK.out]; rfl) (by rfl) (.tmp 97) (.bool true) (by rfl) (.bool false) (fun ρ h1 kk w1 (hg : Grow _ w1) hb hf => by go_simp) ?_
            refine fl_pick 99 (by rfl) (by decide) (wanted_none (by rfl)) (by rw [hK.out]; rfl) (by rfl) _ _ _ (by rfl) false (by rfl) (.bool false) (by rfl) ?_
            refine fl_end (fun _ _ w1 (hg : Grow _ w1) _ hfacts => hT _ _ ?_)
            clear hops hA' hK hT
            simp only [putsL, Act.put, List.setIfInBounds_toArray, List.set_cons_zero, List.set_cons_succ, List.drop_succ_cons, List.drop_zero]
            go_wp2_with fail
            go_roundw
            case rel => exact ⟨k + 1, by omega, by go_num, hgm.trans hg⟩
            case measure => simp [intOf]; omega
        · obtain rfl : 6 = k := by omega
          have hk' : decide ((6 : Int) < (6 : Int)) = false := by decide
          go_wp2_with fail
          go_at_call 9
          refine (reads_bytes (c := 14) (n := 14) (l := [255, 255, 255, 255, 255, 255, 255, 255, 255, 1, 0, 0, 0, 0]) (reads_laid wr _ 5 (0, 0) rfl _ rfl) (by simp) (by decide) (by decide) (by decide)).mono ?_
          rintro e wz ⟨rfl, hgz⟩
          have hgz := grow_alloc hgz
          go_wp2_with (go_at_call 12; refine (known_any _).mono ?_; rintro e w7 ⟨rfl, hg7⟩)
          go_ret
          exact ⟨rfl, ((hgi.trans hgr).trans hgz).trans hg7⟩
end Go.Proofs.Ytocpepknlnghkaa
