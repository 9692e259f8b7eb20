/- FrameTells: its walk. -/
import Derived.Test.YtocpepknlnghkaaWithin
import Derived.Test.YtocpepknlnghkaaOwn2
namespace Go.Proofs.Ytocpepknlnghkaa
open Go.RowKit Go.Hop
theorem xor8 (a b : UInt8) : bits .xor .u8 (a.toNat : Int) (b.toNat : Int) = ((a ^^^ b).toNat : Int) := by
  show IntKind.u8.wrap ((BitVec.ofInt 8 (a.toNat : Int) ^^^ BitVec.ofInt 8 (b.toNat : Int)).toNat : Int) = _
  rw [BitVec.ofInt_natCast, BitVec.ofInt_natCast, BitVec.toNat_xor, BitVec.toNat_ofNat, BitVec.toNat_ofNat, Nat.mod_eq_of_lt a.toNat_lt, Nat.mod_eq_of_lt b.toNat_lt, UInt8.toNat_xor]
  have h : a.toNat ^^^ b.toNat < 2 ^ 8 := Nat.xor_lt_two_pow a.toNat_lt b.toNat_lt
  simp [IntKind.wrap, IntKind.bits, IntKind.signed]
  omega
theorem u8s_set (l : List UInt8) (i : Nat) (b : UInt8) : (u8s l).set i (.int .u8 (b.toNat : Int)) = u8s (l.set i b) := by
  unfold u8s; rw [List.map_set]
theorem grow_set {w w' : World} (h : Grow w w') {g : Nat} (hg : w.heap.size ≤ g) (i : Nat) (u : Value) : Grow w (w'.setCell ⟨g, i, none⟩ u) :=
  ((Just.of_grow (V := fun b => b = g) h).put rfl i u).below (B := w.heap.size) (fun b hb => by rw [hb]; exact hg) (Nat.le_refl _)
/-- one byte of a row of one's own -/
theorem own_at {w : World} {V : Nat → Prop} {e : TypeId} {v : Value} {n : Nat} {xs : List Value} (h : Own w V e 1 v n xs) (hn : 0 < n) :
    ∃ g c, v = .slice (some ⟨g, 0, none⟩) n c ∧ V g ∧ ∀ i, i < n → ∃ u, xs[i]? = some u ∧ w.cell? ⟨g, i, none⟩ = some u ∧ w.frozen? ⟨g, i, none⟩ = false ∧ ∀ y, Own (w.setCell ⟨g, i, none⟩ y) V e 1 v n (xs.set i y) := by
  obtain ⟨hlen, h | ⟨g, cap, cur, e1, hV, hg, hnc, hm, hsz, htk⟩⟩ := h
  · omega
  refine ⟨g, cap, e1, hV, fun i hi => ?_⟩
  rw [Nat.mul_one] at hlen htk
  have hix : i < xs.length := by omega
  have hB : Blk w g e cur := hg
  have hcx : cur[i]? = some xs[i] := by
    have h1 : (cur.toList.take n)[i]? = some xs[i] := by rw [htk]; exact List.getElem?_eq_getElem hix
    rw [List.getElem?_take, if_pos hi] at h1
    simpa using h1
  refine ⟨xs[i], List.getElem?_eq_getElem hix, (hB.cell i).trans hcx, hB.frozen i, fun y => ⟨by rw [List.length_set, Nat.mul_one]; exact hlen, .inr ⟨g, cap, cur.setIfInBounds i y, e1, hV, hB.put i y, hnc, hm, by rw [Array.size_setIfInBounds]; exact hsz, ?_⟩⟩⟩
  rw [Nat.mul_one, Array.toList_setIfInBounds, List.take_set, htk]
set_option maxRecDepth 100000 in
set_option maxHeartbeats 4000000 in
theorem tells_any (w : World) (A0 : Option Addr) (n0 c0 : Nat) (q : List Bx) (hq : Bxs w (fun b => b < w.heap.size) (fun b => b < w.heap.size) A0 n0 q) (h0 : n0 ≤ c0) (hm0 : c0 ≤ maxLen)
    (A1 : Option Addr) (n1 c1 : Nat) (l : List UInt8) (hb : Bytes w w.heap.size A1 n1 l) (hnc : n1 ≤ c1) (hcm : c1 ≤ maxLen) (z : Int) (hz : -9223372036854775808 ≤ z ∧ z ≤ 9223372036854775807) (t : UInt8) :
    Calls Try.prog 4 #[.slice A0 n0 c0, .slice A1 n1 c1, .int .i64 z, .int .u8 (t.toNat : Int)] w fun e w' => e = .returned (.bool true) ∧ Grow w w' := by
  have k11 : ∀ (vs : Array Value) (w : World), (callFunc 11 vs).run Try.prog w = .ok (.enter 11 vs) w := fun vs w => by go_simp
  have k9 : ∀ (vs : Array Value) (w : World), (callFunc 9 vs).run Try.prog w = .ok (.enter 9 vs) w := fun vs w => by go_simp
  have k12 : ∀ (vs : Array Value) (w : World), (callFunc 12 vs).run Try.prog w = .ok (.enter 12 vs) w := fun vs w => by go_simp
  have hlen := hb.len
  by_cases h4 : 400 < n1
  · have h4' : decide ((400 : Int) < (n1 : Int)) = true := decide_eq_true (by omega)
    have hbr : Bytes w w.heap.size A1 400 (l.take 400) := by
      have := Reads.take hb (k := 400) (by omega)
      unfold Bytes; rw [u8s_take]; exact this
    have hi4 : (400 : Int) ≤ (c1 : Int) := by omega
    go_enter Try.func4, Try.ntmps4
    go_wp2_with fail
    go_at_call 8
    refine (row_any w A0 n0 c0 q hq h0 hm0).mono ?_
    rintro e wa ⟨v, b, rfl, hOb, hbl, hga⟩
    have hIb := hOb.isBytes
    obtain ⟨Ab, cb, rfl, hRb, hnb, hmb⟩ := hOb.reads
    unfold maxLen at hmb
    go_wp2_with (at_builtin; refine stay ?_)
    refine stay_out ?_
    refine wpList_own (V := fun x => x = wa.heap.size) u8E _ rfl (.tmp 21) (.tmp 22) rfl (.slice (some ⟨wa.heap.size, 0, none⟩) 0 0) 0 [] rfl (made_own wa) wa.heap.size Ab b.length cb (u8s b) rfl (Reads.alloc hRb (Nat.le_refl _) _) u8s_one (by omega) ?_
    intro v2 wb hO2 hj2
    simp only [Nat.zero_add, List.nil_append] at hO2
    obtain ⟨hO2, hgb⟩ := own_new hO2 hj2
    clear hj2
    by_cases hp : 0 < b.length
    · have hp' : decide ((0 : Int) < (b.length : Int)) = true := decide_eq_true (by omega)
      obtain ⟨g, c2, rfl, hVg, hat⟩ := own_at hO2 hp
      go_wp2_with fail
      go_at_call 13
      refine (within_any wb z 0 ((b.length : Int) - 1) hz (by omega) (by omega) (by omega)).mono ?_
      rintro e w4 ⟨i', hi0, hi1, rfl, rfl⟩
      obtain ⟨i, rfl⟩ := Int.eq_ofNat_of_zero_le hi0
      have hib : i < b.length := by omega
      obtain ⟨u, hu, hcell, hfz, hput⟩ := hat i hib
      obtain ⟨_, hu'⟩ := u8s_get hu
      subst hu'
      have hx8 := xor8 b[i] t
      have hput := hput (.int .u8 ((b[i] ^^^ t).toNat : Int))
      rw [u8s_set] at hput
      generalize b[i] = bi at hcell hx8 hput
      generalize bi ^^^ t = y at hx8 hput
      go_wp2_with fail
      have hgx : Grow w (wb.setCell ⟨g, i, none⟩ (.int .u8 (y.toNat : Int))) := grow_set (hga.trans hgb) (by have := hVg.1; have := hga.size; omega) _ _
      have hIb := (hIb.below (grow_set hgb (g := g) (by have := hVg.1; omega) i (.int .u8 (y.toNat : Int))))
      have hIx := hput.isBytes
      have hxl : (b.set i y).length ≤ 384 := by rw [List.length_set]; exact hbl
      generalize b.set i y = bx at hIx hxl
      generalize wb.setCell ⟨g, i, none⟩ (.int .u8 (y.toNat : Int)) = wx at *
      obtain ⟨v2, HV2⟩ : ∃ v2 : Value, Hid (v2 = .slice (some ⟨g, 0, none⟩) b.length c2) := ⟨_, rfl⟩
      rw [← HV2.out] at hIx ⊢
      have hRw : Bytes wx wx.heap.size A1 400 (l.take 400) := Reads.more (Reads.below hbr hgx) hgx.size
      go_at_call 13
      refine (within_any wx z 0 (b.length : Int) hz (by omega) (by omega) (by omega)).mono ?_
      rintro e w4 ⟨k', hk0, hk1, rfl, rfl⟩
      obtain ⟨k, rfl⟩ := Int.eq_ofNat_of_zero_le hk0
      go_wp2_with fail
      go_at_call 10
      refine (Bytes_any wx A1 400 c1 (l.take 400) hRw (by omega)).mono ?_
      rintro e w5 ⟨vf, rfl, hOf, hgf⟩
      have hF := hOf.isBytes
      have hRw : Bytes w5 w5.heap.size A1 400 (l.take 400) := Reads.more (Reads.below hRw hgf) hgf.size
      have hIb := hIb.below hgf
      have hIx := hIx.below hgf
      obtain ⟨Ab', nb', cb', hAe, hBb, _, _⟩ := id hIb
      injection hAe with e1 e2 e3
      subst e1 e2 e3
      have hTk : Bytes w5 w5.heap.size Ab k (b.take k) := by
        have := Reads.take hBb (k := k) (by omega)
        unfold Bytes; rw [u8s_take, ]; exact this
      have hkb : (k : Int) ≤ (cb : Int) := by omega
      go_wp2_with fail
      refine wp_region_flow 35 81 [(6, .inr (fun _ => IsBytes (frame (l.take 400)))), (12, .inl (.bool true)), (16, .inl (.bool true)), (20, .inl (.bool true)), (28, .inr (fun _ => IsBytes (b.take k ++ (l.take 400)))), (29, .inl (.bool true)), (32, .inl (.bool true))] rfl rfl (by kernel_rfl) (by kernel_rfl) (by kernel_rfl) ?_ ?_
      · intro x hx φ he
        simp only [List.mem_cons, List.not_mem_nil, or_false] at hx
        rcases hx with rfl | rfl | rfl | rfl | rfl | rfl | rfl <;> cases he
        all_goals first | exact lasts_quiet (lasting_bytes _) | fail
      intro ops' A' K' T hops hA' hK hT
      refine fl_mv 47 (by rfl) (by decide) (wanted_none (by rfl)) (by rw [hK.out]; rfl) (by rfl) _ (Or.inl (by rfl)) (.int .i64 0) (by rfl) ?_
      refine fl_op2 48 (by rfl) (by decide) (wanted_none (by rfl)) (by rw [hK.out]; rfl) (by rfl) (.tmp 47) (.const (.int .i64 0)) (.int .i64 0) (.int .i64 0) (by rfl) (by rfl) (.bool true) (fun ρ h1 h2 kk w1 (hg : Grow _ w1) hb hf => by go_simp) ?_
      refine fl_mv 49 (by rfl) (by decide) (wanted_none (by rfl)) (by rw [hK.out]; rfl) (by rfl) _ (Or.inl (by rfl)) (.bool true) (by rfl) ?_
      refine fl_mv 50 (by rfl) (by decide) (wanted_if hops 2 true (by rfl) 49 (by rfl) true (by rfl)) (by rw [hK.out]; rfl) (by rfl) _ (Or.inl (by rfl)) (vf) (by rfl) ?_
      refine fl_op1 51 (by rfl) (by decide) (wanted_if hops 2 true (by rfl) 49 (by rfl) true (by rfl)) (by rw [hK.out]; rfl) (by rfl) (.tmp 50) (vf) (by rfl) (.string ⟨(frame (l.take 400)).toArray⟩) (fun ρ h1 kk w1 (hg : Grow _ w1) hb hf => by have cv := conv_is w1 (hF.below hg); go_simp) ?_
      refine fl_mv 52 (by rfl) (by decide) (wanted_if hops 2 true (by rfl) 49 (by rfl) true (by rfl)) (by rw [hK.out]; rfl) (by rfl) _ (Or.inl (by rfl)) (.slice A1 400 c1) (by rfl) ?_
      refine fl_callAny 53 (by rfl) (by decide) (wanted_if hops 2 true (by rfl) 49 (by rfl) true (by rfl)) (fun _ => IsBytes (frame (l.take 400))) (by rw [hK.out]; rfl) 11 _ _ (by rfl) [.slice A1 400 c1] (by rfl) k11 (fun kk w1 (hg : Grow _ w1) hb hf => calls_behindAny (φ := fun _ => IsBytes (frame (l.take 400))) (by rfl) (by exact rFrame_is hRw hg (by omega))) (fun v53 => ?_)
      refine fl_op1 54 (by rfl) (by decide) (wanted_if hops 2 true (by rfl) 49 (by rfl) true (by rfl)) (by rw [hK.out]; rfl) (by rfl) (.tmp 53) (v53) (by rfl) (.string ⟨(frame (l.take 400)).toArray⟩) (fun ρ h1 kk w1 (hg : Grow _ w1) hb hf => by have cv := conv_is w1 (facts_take hf (by rw [hA'.out]; kernel_rfl)); go_simp) ?_
      refine fl_op2 55 (by rfl) (by decide) (wanted_if hops 2 true (by rfl) 49 (by rfl) true (by rfl)) (by rw [hK.out]; rfl) (by rfl) (.tmp 51) (.tmp 54) (.string ⟨(frame (l.take 400)).toArray⟩) (.string ⟨(frame (l.take 400)).toArray⟩) (by rfl) (by rfl) (.bool true) (fun ρ h1 h2 kk w1 (hg : Grow _ w1) hb hf => by go_simp) ?_
      refine fl_pick 56 (by rfl) (by decide) (wanted_none (by rfl)) (by rw [hK.out]; rfl) (by rfl) _ _ _ (by rfl) true (by rfl) (.bool true) (by rfl) ?_
      refine fl_mv 57 (by rfl) (by decide) (wanted_none (by rfl)) (by rw [hK.out]; rfl) (by rfl) _ (Or.inl (by rfl)) (.bool true) (by rfl) ?_
      refine fl_mv 58 (by rfl) (by decide) (wanted_if hops 10 true (by rfl) 57 (by rfl) true (by rfl)) (by rw [hK.out]; rfl) (by rfl) _ (Or.inl (by rfl)) (.slice Ab b.length cb) (by rfl) ?_
      refine fl_call 59 (by rfl) (by decide) (wanted_if hops 10 true (by rfl) 57 (by rfl) true (by rfl)) (.bool true) (by rw [hK.out]; rfl) 9 _ _ (by rfl) [.slice Ab b.length cb] (by rfl) k9 (fun kk w1 (hg : Grow _ w1) hb hf => calls_behind (by rfl) (by exact reads_is (hIb.below hg) (by omega))) ?_
      refine fl_pick 60 (by rfl) (by decide) (wanted_none (by rfl)) (by rw [hK.out]; rfl) (by rfl) _ _ _ (by rfl) true (by rfl) (.bool true) (by rfl) ?_
      refine fl_mv 61 (by rfl) (by decide) (wanted_none (by rfl)) (by rw [hK.out]; rfl) (by rfl) _ (Or.inl (by rfl)) (.bool true) (by rfl) ?_
      refine fl_mv 62 (by rfl) (by decide) (wanted_if hops 14 true (by rfl) 61 (by rfl) true (by rfl)) (by rw [hK.out]; rfl) (by rfl) _ (Or.inl (by rfl)) (v2) (by rfl) ?_
      refine fl_call 63 (by rfl) (by decide) (wanted_if hops 14 true (by rfl) 61 (by rfl) true (by rfl)) (.bool true) (by rw [hK.out]; rfl) 9 _ _ (by rfl) [v2] (by rfl) k9 (fun kk w1 (hg : Grow _ w1) hb hf => calls_behind (by rfl) (by exact reads_is (hIx.below hg) (by omega))) ?_
      refine fl_pick 64 (by rfl) (by decide) (wanted_none (by rfl)) (by rw [hK.out]; rfl) (by rfl) _ _ _ (by rfl) true (by rfl) (.bool true) (by rfl) ?_
      refine fl_mv 65 (by rfl) (by decide) (wanted_none (by rfl)) (by rw [hK.out]; rfl) (by rfl) _ (Or.inl (by rfl)) (.bool true) (by rfl) ?_
      refine fl_mv 66 (by rfl) (by decide) (wanted_if hops 18 true (by rfl) 65 (by rfl) true (by rfl)) (by rw [hK.out]; rfl) (by rfl) _ (Or.inl (by rfl)) (.slice A1 400 c1) (by rfl) ?_
      refine fl_call 67 (by rfl) (by decide) (wanted_if hops 18 true (by rfl) 65 (by rfl) true (by rfl)) (.bool true) (by rw [hK.out]; rfl) 9 _ _ (by rfl) [.slice A1 400 c1] (by rfl) k9 (fun kk w1 (hg : Grow _ w1) hb hf => calls_behind (by rfl) (by exact reads_is (l := (l.take 400)) ⟨_, _, _, rfl, Reads.more (Reads.below hRw hg) hg.size, by omega, hcm⟩ (by have := hRw.len; omega))) ?_
      refine fl_pick 68 (by rfl) (by decide) (wanted_none (by rfl)) (by rw [hK.out]; rfl) (by rfl) _ _ _ (by rfl) true (by rfl) (.bool true) (by rfl) ?_
      refine fl_mv 69 (by rfl) (by decide) (wanted_none (by rfl)) (by rw [hK.out]; rfl) (by rfl) _ (Or.inl (by rfl)) (.bool true) (by rfl) ?_
      refine fl_mv 70 (by rfl) (by decide) (wanted_if hops 22 true (by rfl) 69 (by rfl) true (by rfl)) (by rw [hK.out]; rfl) (by rfl) _ (Or.inl (by rfl)) (.slice Ab b.length cb) (by rfl) ?_
      refine fl_mv 71 (by rfl) (by decide) (wanted_if hops 22 true (by rfl) 69 (by rfl) true (by rfl)) (by rw [hK.out]; rfl) (by rfl) _ (Or.inl (by rfl)) (.int .i64 (k : Int)) (by rfl) ?_
      refine fl_mv 72 (by rfl) (by decide) (wanted_if hops 22 true (by rfl) 69 (by rfl) true (by rfl)) (by rw [hK.out]; rfl) (by rfl) _ (Or.inl (by rfl)) (.int .i64 (k : Int)) (by rfl) ?_
      refine fl_op3 73 (by rfl) (by decide) (wanted_if hops 22 true (by rfl) 69 (by rfl) true (by rfl)) (by rw [hK.out]; rfl) (by rfl) (.tmp 70) (.tmp 71) (.tmp 72) (.slice Ab b.length cb) (.int .i64 (k : Int)) (.int .i64 (k : Int)) (by rfl) (by rfl) (by rfl) (.slice Ab k k) (fun ρ h1 h2 h3 kk w1 (hg : Grow _ w1) hb hf => by go_simp) ?_
      refine fl_mv 74 (by rfl) (by decide) (wanted_if hops 22 true (by rfl) 69 (by rfl) true (by rfl)) (by rw [hK.out]; rfl) (by rfl) _ (Or.inl (by rfl)) (.slice A1 400 c1) (by rfl) ?_
      refine fl_any2 75 (by rfl) (by decide) (wanted_if hops 22 true (by rfl) 69 (by rfl) true (by rfl)) (fun _ => IsBytes (b.take k ++ (l.take 400))) (by rw [hK.out]; rfl) (.tmp 73) (.tmp 74) (.slice Ab k k) (.slice A1 400 c1) (by rfl) (by rfl) (fun ρ h1 h2 kk w1 (hg : Grow _ w1) hb hf => by refine upon_behindAny (φ := fun _ => IsBytes (b.take k ++ (l.take 400))) (by rfl) ?_; exact flow_app_full rfl h1 h2 (Reads.below hTk hg) hg.size (Reads.below hRw hg) (by omega)) (fun v75 => ?_)
      refine fl_call 76 (by rfl) (by decide) (wanted_if hops 22 true (by rfl) 69 (by rfl) true (by rfl)) (.bool true) (by rw [hK.out]; rfl) 9 _ _ (by rfl) [v75] (by rfl) k9 (fun kk w1 (hg : Grow _ w1) hb hf => calls_behind (by rfl) (by exact reads_is (facts_take hf (by rw [hA'.out]; kernel_rfl)) (by rw [List.length_append, List.length_take]; have := hRw.len; omega))) ?_
      refine fl_pick 77 (by rfl) (by decide) (wanted_none (by rfl)) (by rw [hK.out]; rfl) (by rfl) _ _ _ (by rfl) true (by rfl) (.bool true) (by rfl) ?_
      refine fl_mv 78 (by rfl) (by decide) (wanted_none (by rfl)) (by rw [hK.out]; rfl) (by rfl) _ (Or.inl (by rfl)) (.bool true) (by rfl) ?_
      refine fl_call 79 (by rfl) (by decide) (wanted_if hops 31 true (by rfl) 78 (by rfl) true (by rfl)) (.bool true) (by rw [hK.out]; rfl) 12 _ _ (by rfl) [] (by rfl) k12 (fun kk w1 (hg : Grow _ w1) hb hf => calls_behind (by rfl) (by exact known_any w1)) ?_
      refine fl_pick 80 (by rfl) (by decide) (wanted_none (by rfl)) (by rw [hK.out]; rfl) (by rfl) _ _ _ (by rfl) true (by rfl) (.bool true) (by rfl) ?_
      refine fl_mv 8 (by rfl) (by decide) (wanted_none (by rfl)) (by rw [hK.out]; rfl) (by rfl) _ (Or.inr (by rfl)) (.bool true) (by rfl) ?_
      refine fl_end (fun _ _ w1 (hg : Grow _ w1) _ hfacts => hT _ _ ?_)
      clear hops hA' hK hT
      simp only [putsL, Act.put, List.setIfInBounds_toArray, List.set_cons_zero, List.set_cons_succ, List.drop_succ_cons, List.drop_zero]
      go_wp2_with fail
      go_ret
      exact ⟨rfl, (hgx.trans hgf).trans hg⟩
    · have hp' : decide ((0 : Int) < (b.length : Int)) = false := decide_eq_false (by omega)
      obtain ⟨Ax, cx, rfl, hRx, hnx, hmx⟩ := hO2.reads
      have hIx := hO2.isBytes
      have hxl := hbl
      have hgx := hga.trans hgb
      have hIb := hIb.below hgb
      go_wp2_with fail
      generalize wb = wx at *
      obtain ⟨v2, HV2⟩ : ∃ v2 : Value, Hid (v2 = .slice Ax b.length cx) := ⟨_, rfl⟩
      rw [← HV2.out] at hIx ⊢
      have hRw : Bytes wx wx.heap.size A1 400 (l.take 400) := Reads.more (Reads.below hbr hgx) hgx.size
      go_at_call 13
      refine (within_any wx z 0 (b.length : Int) hz (by omega) (by omega) (by omega)).mono ?_
      rintro e w4 ⟨k', hk0, hk1, rfl, rfl⟩
      obtain ⟨k, rfl⟩ := Int.eq_ofNat_of_zero_le hk0
      go_wp2_with fail
      go_at_call 10
      refine (Bytes_any wx A1 400 c1 (l.take 400) hRw (by omega)).mono ?_
      rintro e w5 ⟨vf, rfl, hOf, hgf⟩
      have hF := hOf.isBytes
      have hRw : Bytes w5 w5.heap.size A1 400 (l.take 400) := Reads.more (Reads.below hRw hgf) hgf.size
      have hIb := hIb.below hgf
      have hIx := hIx.below hgf
      obtain ⟨Ab', nb', cb', hAe, hBb, _, _⟩ := id hIb
      injection hAe with e1 e2 e3
      subst e1 e2 e3
      have hTk : Bytes w5 w5.heap.size Ab k (b.take k) := by
        have := Reads.take hBb (k := k) (by omega)
        unfold Bytes; rw [u8s_take, ]; exact this
      have hkb : (k : Int) ≤ (cb : Int) := by omega
      go_wp2_with fail
      refine wp_region_flow 35 81 [(6, .inr (fun _ => IsBytes (frame (l.take 400)))), (12, .inl (.bool true)), (16, .inl (.bool true)), (20, .inl (.bool true)), (28, .inr (fun _ => IsBytes (b.take k ++ (l.take 400)))), (29, .inl (.bool true)), (32, .inl (.bool true))] rfl rfl (by kernel_rfl) (by kernel_rfl) (by kernel_rfl) ?_ ?_
      · intro x hx φ he
        simp only [List.mem_cons, List.not_mem_nil, or_false] at hx
        rcases hx with rfl | rfl | rfl | rfl | rfl | rfl | rfl <;> cases he
        all_goals first | exact lasts_quiet (lasting_bytes _) | fail
      intro ops' A' K' T hops hA' hK hT
      refine fl_mv 47 (by rfl) (by decide) (wanted_none (by rfl)) (by rw [hK.out]; rfl) (by rfl) _ (Or.inl (by rfl)) (.int .i64 0) (by rfl) ?_
      refine fl_op2 48 (by rfl) (by decide) (wanted_none (by rfl)) (by rw [hK.out]; rfl) (by rfl) (.tmp 47) (.const (.int .i64 0)) (.int .i64 0) (.int .i64 0) (by rfl) (by rfl) (.bool true) (fun ρ h1 h2 kk w1 (hg : Grow _ w1) hb hf => by go_simp) ?_
      refine fl_mv 49 (by rfl) (by decide) (wanted_none (by rfl)) (by rw [hK.out]; rfl) (by rfl) _ (Or.inl (by rfl)) (.bool true) (by rfl) ?_
      refine fl_mv 50 (by rfl) (by decide) (wanted_if hops 2 true (by rfl) 49 (by rfl) true (by rfl)) (by rw [hK.out]; rfl) (by rfl) _ (Or.inl (by rfl)) (vf) (by rfl) ?_
      refine fl_op1 51 (by rfl) (by decide) (wanted_if hops 2 true (by rfl) 49 (by rfl) true (by rfl)) (by rw [hK.out]; rfl) (by rfl) (.tmp 50) (vf) (by rfl) (.string ⟨(frame (l.take 400)).toArray⟩) (fun ρ h1 kk w1 (hg : Grow _ w1) hb hf => by have cv := conv_is w1 (hF.below hg); go_simp) ?_
      refine fl_mv 52 (by rfl) (by decide) (wanted_if hops 2 true (by rfl) 49 (by rfl) true (by rfl)) (by rw [hK.out]; rfl) (by rfl) _ (Or.inl (by rfl)) (.slice A1 400 c1) (by rfl) ?_
      refine fl_callAny 53 (by rfl) (by decide) (wanted_if hops 2 true (by rfl) 49 (by rfl) true (by rfl)) (fun _ => IsBytes (frame (l.take 400))) (by rw [hK.out]; rfl) 11 _ _ (by rfl) [.slice A1 400 c1] (by rfl) k11 (fun kk w1 (hg : Grow _ w1) hb hf => calls_behindAny (φ := fun _ => IsBytes (frame (l.take 400))) (by rfl) (by exact rFrame_is hRw hg (by omega))) (fun v53 => ?_)
      refine fl_op1 54 (by rfl) (by decide) (wanted_if hops 2 true (by rfl) 49 (by rfl) true (by rfl)) (by rw [hK.out]; rfl) (by rfl) (.tmp 53) (v53) (by rfl) (.string ⟨(frame (l.take 400)).toArray⟩) (fun ρ h1 kk w1 (hg : Grow _ w1) hb hf => by have cv := conv_is w1 (facts_take hf (by rw [hA'.out]; kernel_rfl)); go_simp) ?_
      refine fl_op2 55 (by rfl) (by decide) (wanted_if hops 2 true (by rfl) 49 (by rfl) true (by rfl)) (by rw [hK.out]; rfl) (by rfl) (.tmp 51) (.tmp 54) (.string ⟨(frame (l.take 400)).toArray⟩) (.string ⟨(frame (l.take 400)).toArray⟩) (by rfl) (by rfl) (.bool true) (fun ρ h1 h2 kk w1 (hg : Grow _ w1) hb hf => by go_simp) ?_
      refine fl_pick 56 (by rfl) (by decide) (wanted_none (by rfl)) (by rw [hK.out]; rfl) (by rfl) _ _ _ (by rfl) true (by rfl) (.bool true) (by rfl) ?_
      refine fl_mv 57 (by rfl) (by decide) (wanted_none (by rfl)) (by rw [hK.out]; rfl) (by rfl) _ (Or.inl (by rfl)) (.bool true) (by rfl) ?_
      refine fl_mv 58 (by rfl) (by decide) (wanted_if hops 10 true (by rfl) 57 (by rfl) true (by rfl)) (by rw [hK.out]; rfl) (by rfl) _ (Or.inl (by rfl)) (.slice Ab b.length cb) (by rfl) ?_
      refine fl_call 59 (by rfl) (by decide) (wanted_if hops 10 true (by rfl) 57 (by rfl) true (by rfl)) (.bool true) (by rw [hK.out]; rfl) 9 _ _ (by rfl) [.slice Ab b.length cb] (by rfl) k9 (fun kk w1 (hg : Grow _ w1) hb hf => calls_behind (by rfl) (by exact reads_is (hIb.below hg) (by omega))) ?_
      refine fl_pick 60 (by rfl) (by decide) (wanted_none (by rfl)) (by rw [hK.out]; rfl) (by rfl) _ _ _ (by rfl) true (by rfl) (.bool true) (by rfl) ?_
      refine fl_mv 61 (by rfl) (by decide) (wanted_none (by rfl)) (by rw [hK.out]; rfl) (by rfl) _ (Or.inl (by rfl)) (.bool true) (by rfl) ?_
      refine fl_mv 62 (by rfl) (by decide) (wanted_if hops 14 true (by rfl) 61 (by rfl) true (by rfl)) (by rw [hK.out]; rfl) (by rfl) _ (Or.inl (by rfl)) (v2) (by rfl) ?_
      refine fl_call 63 (by rfl) (by decide) (wanted_if hops 14 true (by rfl) 61 (by rfl) true (by rfl)) (.bool true) (by rw [hK.out]; rfl) 9 _ _ (by rfl) [v2] (by rfl) k9 (fun kk w1 (hg : Grow _ w1) hb hf => calls_behind (by rfl) (by exact reads_is (hIx.below hg) (by omega))) ?_
      refine fl_pick 64 (by rfl) (by decide) (wanted_none (by rfl)) (by rw [hK.out]; rfl) (by rfl) _ _ _ (by rfl) true (by rfl) (.bool true) (by rfl) ?_
      refine fl_mv 65 (by rfl) (by decide) (wanted_none (by rfl)) (by rw [hK.out]; rfl) (by rfl) _ (Or.inl (by rfl)) (.bool true) (by rfl) ?_
      refine fl_mv 66 (by rfl) (by decide) (wanted_if hops 18 true (by rfl) 65 (by rfl) true (by rfl)) (by rw [hK.out]; rfl) (by rfl) _ (Or.inl (by rfl)) (.slice A1 400 c1) (by rfl) ?_
      refine fl_call 67 (by rfl) (by decide) (wanted_if hops 18 true (by rfl) 65 (by rfl) true (by rfl)) (.bool true) (by rw [hK.out]; rfl) 9 _ _ (by rfl) [.slice A1 400 c1] (by rfl) k9 (fun kk w1 (hg : Grow _ w1) hb hf => calls_behind (by rfl) (by exact reads_is (l := (l.take 400)) ⟨_, _, _, rfl, Reads.more (Reads.below hRw hg) hg.size, by omega, hcm⟩ (by have := hRw.len; omega))) ?_
      refine fl_pick 68 (by rfl) (by decide) (wanted_none (by rfl)) (by rw [hK.out]; rfl) (by rfl) _ _ _ (by rfl) true (by rfl) (.bool true) (by rfl) ?_
      refine fl_mv 69 (by rfl) (by decide) (wanted_none (by rfl)) (by rw [hK.out]; rfl) (by rfl) _ (Or.inl (by rfl)) (.bool true) (by rfl) ?_
      refine fl_mv 70 (by rfl) (by decide) (wanted_if hops 22 true (by rfl) 69 (by rfl) true (by rfl)) (by rw [hK.out]; rfl) (by rfl) _ (Or.inl (by rfl)) (.slice Ab b.length cb) (by rfl) ?_
      refine fl_mv 71 (by rfl) (by decide) (wanted_if hops 22 true (by rfl) 69 (by rfl) true (by rfl)) (by rw [hK.out]; rfl) (by rfl) _ (Or.inl (by rfl)) (.int .i64 (k : Int)) (by rfl) ?_
      refine fl_mv 72 (by rfl) (by decide) (wanted_if hops 22 true (by rfl) 69 (by rfl) true (by rfl)) (by rw [hK.out]; rfl) (by rfl) _ (Or.inl (by rfl)) (.int .i64 (k : Int)) (by rfl) ?_
      refine fl_op3 73 (by rfl) (by decide) (wanted_if hops 22 true (by rfl) 69 (by rfl) true (by rfl)) (by rw [hK.out]; rfl) (by rfl) (.tmp 70) (.tmp 71) (.tmp 72) (.slice Ab b.length cb) (.int .i64 (k : Int)) (.int .i64 (k : Int)) (by rfl) (by rfl) (by rfl) (.slice Ab k k) (fun ρ h1 h2 h3 kk w1 (hg : Grow _ w1) hb hf => by go_simp) ?_
      refine fl_mv 74 (by rfl) (by decide) (wanted_if hops 22 true (by rfl) 69 (by rfl) true (by rfl)) (by rw [hK.out]; rfl) (by rfl) _ (Or.inl (by rfl)) (.slice A1 400 c1) (by rfl) ?_
      refine fl_any2 75 (by rfl) (by decide) (wanted_if hops 22 true (by rfl) 69 (by rfl) true (by rfl)) (fun _ => IsBytes (b.take k ++ (l.take 400))) (by rw [hK.out]; rfl) (.tmp 73) (.tmp 74) (.slice Ab k k) (.slice A1 400 c1) (by rfl) (by rfl) (fun ρ h1 h2 kk w1 (hg : Grow _ w1) hb hf => by refine upon_behindAny (φ := fun _ => IsBytes (b.take k ++ (l.take 400))) (by rfl) ?_; exact flow_app_full rfl h1 h2 (Reads.below hTk hg) hg.size (Reads.below hRw hg) (by omega)) (fun v75 => ?_)
      refine fl_call 76 (by rfl) (by decide) (wanted_if hops 22 true (by rfl) 69 (by rfl) true (by rfl)) (.bool true) (by rw [hK.out]; rfl) 9 _ _ (by rfl) [v75] (by rfl) k9 (fun kk w1 (hg : Grow _ w1) hb hf => calls_behind (by rfl) (by exact reads_is (facts_take hf (by rw [hA'.out]; kernel_rfl)) (by rw [List.length_append, List.length_take]; have := hRw.len; omega))) ?_
      refine fl_pick 77 (by rfl) (by decide) (wanted_none (by rfl)) (by rw [hK.out]; rfl) (by rfl) _ _ _ (by rfl) true (by rfl) (.bool true) (by rfl) ?_
      refine fl_mv 78 (by rfl) (by decide) (wanted_none (by rfl)) (by rw [hK.out]; rfl) (by rfl) _ (Or.inl (by rfl)) (.bool true) (by rfl) ?_
      refine fl_call 79 (by rfl) (by decide) (wanted_if hops 31 true (by rfl) 78 (by rfl) true (by rfl)) (.bool true) (by rw [hK.out]; rfl) 12 _ _ (by rfl) [] (by rfl) k12 (fun kk w1 (hg : Grow _ w1) hb hf => calls_behind (by rfl) (by exact known_any w1)) ?_
      refine fl_pick 80 (by rfl) (by decide) (wanted_none (by rfl)) (by rw [hK.out]; rfl) (by rfl) _ _ _ (by rfl) true (by rfl) (.bool true) (by rfl) ?_
      refine fl_mv 8 (by rfl) (by decide) (wanted_none (by rfl)) (by rw [hK.out]; rfl) (by rfl) _ (Or.inr (by rfl)) (.bool true) (by rfl) ?_
      refine fl_end (fun _ _ w1 (hg : Grow _ w1) _ hfacts => hT _ _ ?_)
      clear hops hA' hK hT
      simp only [putsL, Act.put, List.setIfInBounds_toArray, List.set_cons_zero, List.set_cons_succ, List.drop_succ_cons, List.drop_zero]
      go_wp2_with fail
      go_ret
      exact ⟨rfl, (hgx.trans hgf).trans hg⟩
  · have h4' : decide ((400 : Int) < (n1 : Int)) = false := decide_eq_false (by omega)
    have hbr := hb
    go_enter Try.func4, Try.ntmps4
    go_wp2_with fail
    go_at_call 8
    refine (row_any w A0 n0 c0 q hq h0 hm0).mono ?_
    rintro e wa ⟨v, b, rfl, hOb, hbl, hga⟩
    have hIb := hOb.isBytes
    obtain ⟨Ab, cb, rfl, hRb, hnb, hmb⟩ := hOb.reads
    unfold maxLen at hmb
    go_wp2_with (at_builtin; refine stay ?_)
    refine stay_out ?_
    refine wpList_own (V := fun x => x = wa.heap.size) u8E _ rfl (.tmp 21) (.tmp 22) rfl (.slice (some ⟨wa.heap.size, 0, none⟩) 0 0) 0 [] rfl (made_own wa) wa.heap.size Ab b.length cb (u8s b) rfl (Reads.alloc hRb (Nat.le_refl _) _) u8s_one (by omega) ?_
    intro v2 wb hO2 hj2
    simp only [Nat.zero_add, List.nil_append] at hO2
    obtain ⟨hO2, hgb⟩ := own_new hO2 hj2
    clear hj2
    by_cases hp : 0 < b.length
    · have hp' : decide ((0 : Int) < (b.length : Int)) = true := decide_eq_true (by omega)
      obtain ⟨g, c2, rfl, hVg, hat⟩ := own_at hO2 hp
      go_wp2_with fail
      go_at_call 13
      refine (within_any wb z 0 ((b.length : Int) - 1) hz (by omega) (by omega) (by omega)).mono ?_
      rintro e w4 ⟨i', hi0, hi1, rfl, rfl⟩
      obtain ⟨i, rfl⟩ := Int.eq_ofNat_of_zero_le hi0
      have hib : i < b.length := by omega
      obtain ⟨u, hu, hcell, hfz, hput⟩ := hat i hib
      obtain ⟨_, hu'⟩ := u8s_get hu
      subst hu'
      have hx8 := xor8 b[i] t
      have hput := hput (.int .u8 ((b[i] ^^^ t).toNat : Int))
      rw [u8s_set] at hput
      generalize b[i] = bi at hcell hx8 hput
      generalize bi ^^^ t = y at hx8 hput
      go_wp2_with fail
      have hgx : Grow w (wb.setCell ⟨g, i, none⟩ (.int .u8 (y.toNat : Int))) := grow_set (hga.trans hgb) (by have := hVg.1; have := hga.size; omega) _ _
      have hIb := (hIb.below (grow_set hgb (g := g) (by have := hVg.1; omega) i (.int .u8 (y.toNat : Int))))
      have hIx := hput.isBytes
      have hxl : (b.set i y).length ≤ 384 := by rw [List.length_set]; exact hbl
      generalize b.set i y = bx at hIx hxl
      generalize wb.setCell ⟨g, i, none⟩ (.int .u8 (y.toNat : Int)) = wx at *
      obtain ⟨v2, HV2⟩ : ∃ v2 : Value, Hid (v2 = .slice (some ⟨g, 0, none⟩) b.length c2) := ⟨_, rfl⟩
      rw [← HV2.out] at hIx ⊢
      have hRw : Bytes wx wx.heap.size A1 n1 l := Reads.more (Reads.below hbr hgx) hgx.size
      go_at_call 13
      refine (within_any wx z 0 (b.length : Int) hz (by omega) (by omega) (by omega)).mono ?_
      rintro e w4 ⟨k', hk0, hk1, rfl, rfl⟩
      obtain ⟨k, rfl⟩ := Int.eq_ofNat_of_zero_le hk0
      go_wp2_with fail
      go_at_call 10
      refine (Bytes_any wx A1 n1 c1 l hRw (by omega)).mono ?_
      rintro e w5 ⟨vf, rfl, hOf, hgf⟩
      have hF := hOf.isBytes
      have hRw : Bytes w5 w5.heap.size A1 n1 l := Reads.more (Reads.below hRw hgf) hgf.size
      have hIb := hIb.below hgf
      have hIx := hIx.below hgf
      obtain ⟨Ab', nb', cb', hAe, hBb, _, _⟩ := id hIb
      injection hAe with e1 e2 e3
      subst e1 e2 e3
      have hTk : Bytes w5 w5.heap.size Ab k (b.take k) := by
        have := Reads.take hBb (k := k) (by omega)
        unfold Bytes; rw [u8s_take, ]; exact this
      have hkb : (k : Int) ≤ (cb : Int) := by omega
      go_wp2_with fail
      refine wp_region_flow 35 81 [(6, .inr (fun _ => IsBytes (frame l))), (12, .inl (.bool true)), (16, .inl (.bool true)), (20, .inl (.bool true)), (28, .inr (fun _ => IsBytes (b.take k ++ l))), (29, .inl (.bool true)), (32, .inl (.bool true))] rfl rfl (by kernel_rfl) (by kernel_rfl) (by kernel_rfl) ?_ ?_
      · intro x hx φ he
        simp only [List.mem_cons, List.not_mem_nil, or_false] at hx
        rcases hx with rfl | rfl | rfl | rfl | rfl | rfl | rfl <;> cases he
        all_goals first | exact lasts_quiet (lasting_bytes _) | fail
      intro ops' A' K' T hops hA' hK hT
      refine fl_mv 47 (by rfl) (by decide) (wanted_none (by rfl)) (by rw [hK.out]; rfl) (by rfl) _ (Or.inl (by rfl)) (.int .i64 0) (by rfl) ?_
      refine fl_op2 48 (by rfl) (by decide) (wanted_none (by rfl)) (by rw [hK.out]; rfl) (by rfl) (.tmp 47) (.const (.int .i64 0)) (.int .i64 0) (.int .i64 0) (by rfl) (by rfl) (.bool true) (fun ρ h1 h2 kk w1 (hg : Grow _ w1) hb hf => by go_simp) ?_
      refine fl_mv 49 (by rfl) (by decide) (wanted_none (by rfl)) (by rw [hK.out]; rfl) (by rfl) _ (Or.inl (by rfl)) (.bool true) (by rfl) ?_
      refine fl_mv 50 (by rfl) (by decide) (wanted_if hops 2 true (by rfl) 49 (by rfl) true (by rfl)) (by rw [hK.out]; rfl) (by rfl) _ (Or.inl (by rfl)) (vf) (by rfl) ?_
      refine fl_op1 51 (by rfl) (by decide) (wanted_if hops 2 true (by rfl) 49 (by rfl) true (by rfl)) (by rw [hK.out]; rfl) (by rfl) (.tmp 50) (vf) (by rfl) (.string ⟨(frame l).toArray⟩) (fun ρ h1 kk w1 (hg : Grow _ w1) hb hf => by have cv := conv_is w1 (hF.below hg); go_simp) ?_
      refine fl_mv 52 (by rfl) (by decide) (wanted_if hops 2 true (by rfl) 49 (by rfl) true (by rfl)) (by rw [hK.out]; rfl) (by rfl) _ (Or.inl (by rfl)) (.slice A1 n1 c1) (by rfl) ?_
      refine fl_callAny 53 (by rfl) (by decide) (wanted_if hops 2 true (by rfl) 49 (by rfl) true (by rfl)) (fun _ => IsBytes (frame l)) (by rw [hK.out]; rfl) 11 _ _ (by rfl) [.slice A1 n1 c1] (by rfl) k11 (fun kk w1 (hg : Grow _ w1) hb hf => calls_behindAny (φ := fun _ => IsBytes (frame l)) (by rfl) (by exact rFrame_is hRw hg (by omega))) (fun v53 => ?_)
      refine fl_op1 54 (by rfl) (by decide) (wanted_if hops 2 true (by rfl) 49 (by rfl) true (by rfl)) (by rw [hK.out]; rfl) (by rfl) (.tmp 53) (v53) (by rfl) (.string ⟨(frame l).toArray⟩) (fun ρ h1 kk w1 (hg : Grow _ w1) hb hf => by have cv := conv_is w1 (facts_take hf (by rw [hA'.out]; kernel_rfl)); go_simp) ?_
      refine fl_op2 55 (by rfl) (by decide) (wanted_if hops 2 true (by rfl) 49 (by rfl) true (by rfl)) (by rw [hK.out]; rfl) (by rfl) (.tmp 51) (.tmp 54) (.string ⟨(frame l).toArray⟩) (.string ⟨(frame l).toArray⟩) (by rfl) (by rfl) (.bool true) (fun ρ h1 h2 kk w1 (hg : Grow _ w1) hb hf => by go_simp) ?_
      refine fl_pick 56 (by rfl) (by decide) (wanted_none (by rfl)) (by rw [hK.out]; rfl) (by rfl) _ _ _ (by rfl) true (by rfl) (.bool true) (by rfl) ?_
      refine fl_mv 57 (by rfl) (by decide) (wanted_none (by rfl)) (by rw [hK.out]; rfl) (by rfl) _ (Or.inl (by rfl)) (.bool true) (by rfl) ?_
      refine fl_mv 58 (by rfl) (by decide) (wanted_if hops 10 true (by rfl) 57 (by rfl) true (by rfl)) (by rw [hK.out]; rfl) (by rfl) _ (Or.inl (by rfl)) (.slice Ab b.length cb) (by rfl) ?_
      refine fl_call 59 (by rfl) (by decide) (wanted_if hops 10 true (by rfl) 57 (by rfl) true (by rfl)) (.bool true) (by rw [hK.out]; rfl) 9 _ _ (by rfl) [.slice Ab b.length cb] (by rfl) k9 (fun kk w1 (hg : Grow _ w1) hb hf => calls_behind (by rfl) (by exact reads_is (hIb.below hg) (by omega))) ?_
      refine fl_pick 60 (by rfl) (by decide) (wanted_none (by rfl)) (by rw [hK.out]; rfl) (by rfl) _ _ _ (by rfl) true (by rfl) (.bool true) (by rfl) ?_
      refine fl_mv 61 (by rfl) (by decide) (wanted_none (by rfl)) (by rw [hK.out]; rfl) (by rfl) _ (Or.inl (by rfl)) (.bool true) (by rfl) ?_
      refine fl_mv 62 (by rfl) (by decide) (wanted_if hops 14 true (by rfl) 61 (by rfl) true (by rfl)) (by rw [hK.out]; rfl) (by rfl) _ (Or.inl (by rfl)) (v2) (by rfl) ?_
      refine fl_call 63 (by rfl) (by decide) (wanted_if hops 14 true (by rfl) 61 (by rfl) true (by rfl)) (.bool true) (by rw [hK.out]; rfl) 9 _ _ (by rfl) [v2] (by rfl) k9 (fun kk w1 (hg : Grow _ w1) hb hf => calls_behind (by rfl) (by exact reads_is (hIx.below hg) (by omega))) ?_
      refine fl_pick 64 (by rfl) (by decide) (wanted_none (by rfl)) (by rw [hK.out]; rfl) (by rfl) _ _ _ (by rfl) true (by rfl) (.bool true) (by rfl) ?_
      refine fl_mv 65 (by rfl) (by decide) (wanted_none (by rfl)) (by rw [hK.out]; rfl) (by rfl) _ (Or.inl (by rfl)) (.bool true) (by rfl) ?_
      refine fl_mv 66 (by rfl) (by decide) (wanted_if hops 18 true (by rfl) 65 (by rfl) true (by rfl)) (by rw [hK.out]; rfl) (by rfl) _ (Or.inl (by rfl)) (.slice A1 n1 c1) (by rfl) ?_
      refine fl_call 67 (by rfl) (by decide) (wanted_if hops 18 true (by rfl) 65 (by rfl) true (by rfl)) (.bool true) (by rw [hK.out]; rfl) 9 _ _ (by rfl) [.slice A1 n1 c1] (by rfl) k9 (fun kk w1 (hg : Grow _ w1) hb hf => calls_behind (by rfl) (by exact reads_is (l := l) ⟨_, _, _, rfl, Reads.more (Reads.below hRw hg) hg.size, by omega, hcm⟩ (by have := hRw.len; omega))) ?_
      refine fl_pick 68 (by rfl) (by decide) (wanted_none (by rfl)) (by rw [hK.out]; rfl) (by rfl) _ _ _ (by rfl) true (by rfl) (.bool true) (by rfl) ?_
      refine fl_mv 69 (by rfl) (by decide) (wanted_none (by rfl)) (by rw [hK.out]; rfl) (by rfl) _ (Or.inl (by rfl)) (.bool true) (by rfl) ?_
      refine fl_mv 70 (by rfl) (by decide) (wanted_if hops 22 true (by rfl) 69 (by rfl) true (by rfl)) (by rw [hK.out]; rfl) (by rfl) _ (Or.inl (by rfl)) (.slice Ab b.length cb) (by rfl) ?_
      refine fl_mv 71 (by rfl) (by decide) (wanted_if hops 22 true (by rfl) 69 (by rfl) true (by rfl)) (by rw [hK.out]; rfl) (by rfl) _ (Or.inl (by rfl)) (.int .i64 (k : Int)) (by rfl) ?_
      refine fl_mv 72 (by rfl) (by decide) (wanted_if hops 22 true (by rfl) 69 (by rfl) true (by rfl)) (by rw [hK.out]; rfl) (by rfl) _ (Or.inl (by rfl)) (.int .i64 (k : Int)) (by rfl) ?_
      refine fl_op3 73 (by rfl) (by decide) (wanted_if hops 22 true (by rfl) 69 (by rfl) true (by rfl)) (by rw [hK.out]; rfl) (by rfl) (.tmp 70) (.tmp 71) (.tmp 72) (.slice Ab b.length cb) (.int .i64 (k : Int)) (.int .i64 (k : Int)) (by rfl) (by rfl) (by rfl) (.slice Ab k k) (fun ρ h1 h2 h3 kk w1 (hg : Grow _ w1) hb hf => by go_simp) ?_
      refine fl_mv 74 (by rfl) (by decide) (wanted_if hops 22 true (by rfl) 69 (by rfl) true (by rfl)) (by rw [hK.out]; rfl) (by rfl) _ (Or.inl (by rfl)) (.slice A1 n1 c1) (by rfl) ?_
      refine fl_any2 75 (by rfl) (by decide) (wanted_if hops 22 true (by rfl) 69 (by rfl) true (by rfl)) (fun _ => IsBytes (b.take k ++ l)) (by rw [hK.out]; rfl) (.tmp 73) (.tmp 74) (.slice Ab k k) (.slice A1 n1 c1) (by rfl) (by rfl) (fun ρ h1 h2 kk w1 (hg : Grow _ w1) hb hf => by refine upon_behindAny (φ := fun _ => IsBytes (b.take k ++ l)) (by rfl) ?_; exact flow_app_full rfl h1 h2 (Reads.below hTk hg) hg.size (Reads.below hRw hg) (by omega)) (fun v75 => ?_)
      refine fl_call 76 (by rfl) (by decide) (wanted_if hops 22 true (by rfl) 69 (by rfl) true (by rfl)) (.bool true) (by rw [hK.out]; rfl) 9 _ _ (by rfl) [v75] (by rfl) k9 (fun kk w1 (hg : Grow _ w1) hb hf => calls_behind (by rfl) (by exact reads_is (facts_take hf (by rw [hA'.out]; kernel_rfl)) (by rw [List.length_append, List.length_take]; have := hRw.len; omega))) ?_
      refine fl_pick 77 (by rfl) (by decide) (wanted_none (by rfl)) (by rw [hK.out]; rfl) (by rfl) _ _ _ (by rfl) true (by rfl) (.bool true) (by rfl) ?_
      refine fl_mv 78 (by rfl) (by decide) (wanted_none (by rfl)) (by rw [hK.out]; rfl) (by rfl) _ (Or.inl (by rfl)) (.bool true) (by rfl) ?_
      refine fl_call 79 (by rfl) (by decide) (wanted_if hops 31 true (by rfl) 78 (by rfl) true (by rfl)) (.bool true) (by rw [hK.out]; rfl) 12 _ _ (by rfl) [] (by rfl) k12 (fun kk w1 (hg : Grow _ w1) hb hf => calls_behind (by rfl) (by exact known_any w1)) ?_
      refine fl_pick 80 (by rfl) (by decide) (wanted_none (by rfl)) (by rw [hK.out]; rfl) (by rfl) _ _ _ (by rfl) true (by rfl) (.bool true) (by rfl) ?_
      refine fl_mv 8 (by rfl) (by decide) (wanted_none (by rfl)) (by rw [hK.out]; rfl) (by rfl) _ (Or.inr (by rfl)) (.bool true) (by rfl) ?_
      refine fl_end (fun _ _ w1 (hg : Grow _ w1) _ hfacts => hT _ _ ?_)
      clear hops hA' hK hT
      simp only [putsL, Act.put, List.setIfInBounds_toArray, List.set_cons_zero, List.set_cons_succ, List.drop_succ_cons, List.drop_zero]
      go_wp2_with fail
      go_ret
      exact ⟨rfl, (hgx.trans hgf).trans hg⟩
    · have hp' : decide ((0 : Int) < (b.length : Int)) = false := decide_eq_false (by omega)
      obtain ⟨Ax, cx, rfl, hRx, hnx, hmx⟩ := hO2.reads
      have hIx := hO2.isBytes
      have hxl := hbl
      have hgx := hga.trans hgb
      have hIb := hIb.below hgb
      go_wp2_with fail
      generalize wb = wx at *
      obtain ⟨v2, HV2⟩ : ∃ v2 : Value, Hid (v2 = .slice Ax b.length cx) := ⟨_, rfl⟩
      rw [← HV2.out] at hIx ⊢
      have hRw : Bytes wx wx.heap.size A1 n1 l := Reads.more (Reads.below hbr hgx) hgx.size
      go_at_call 13
      refine (within_any wx z 0 (b.length : Int) hz (by omega) (by omega) (by omega)).mono ?_
      rintro e w4 ⟨k', hk0, hk1, rfl, rfl⟩
      obtain ⟨k, rfl⟩ := Int.eq_ofNat_of_zero_le hk0
      go_wp2_with fail
      go_at_call 10
      refine (Bytes_any wx A1 n1 c1 l hRw (by omega)).mono ?_
      rintro e w5 ⟨vf, rfl, hOf, hgf⟩
      have hF := hOf.isBytes
      have hRw : Bytes w5 w5.heap.size A1 n1 l := Reads.more (Reads.below hRw hgf) hgf.size
      have hIb := hIb.below hgf
      have hIx := hIx.below hgf
      obtain ⟨Ab', nb', cb', hAe, hBb, _, _⟩ := id hIb
      injection hAe with e1 e2 e3
      subst e1 e2 e3
      have hTk : Bytes w5 w5.heap.size Ab k (b.take k) := by
        have := Reads.take hBb (k := k) (by omega)
        unfold Bytes; rw [u8s_take, ]; exact this
      have hkb : (k : Int) ≤ (cb : Int) := by omega
      go_wp2_with fail
      refine wp_region_flow 35 81 [(6, .inr (fun _ => IsBytes (frame l))), (12, .inl (.bool true)), (16, .inl (.bool true)), (20, .inl (.bool true)), (28, .inr (fun _ => IsBytes (b.take k ++ l))), (29, .inl (.bool true)), (32, .inl (.bool true))] rfl rfl (by kernel_rfl) (by kernel_rfl) (by kernel_rfl) ?_ ?_
      · intro x hx φ he
        simp only [List.mem_cons, List.not_mem_nil, or_false] at hx
        rcases hx with rfl | rfl | rfl | rfl | rfl | rfl | rfl <;> cases he
        all_goals first | exact lasts_quiet (lasting_bytes _) | fail
      intro ops' A' K' T hops hA' hK hT
      refine fl_mv 47 (by rfl) (by decide) (wanted_none (by rfl)) (by rw [hK.out]; rfl) (by rfl) _ (Or.inl (by rfl)) (.int .i64 0) (by rfl) ?_
      refine fl_op2 48 (by rfl) (by decide) (wanted_none (by rfl)) (by rw [hK.out]; rfl) (by rfl) (.tmp 47) (.const (.int .i64 0)) (.int .i64 0) (.int .i64 0) (by rfl) (by rfl) (.bool true) (fun ρ h1 h2 kk w1 (hg : Grow _ w1) hb hf => by go_simp) ?_
      refine fl_mv 49 (by rfl) (by decide) (wanted_none (by rfl)) (by rw [hK.out]; rfl) (by rfl) _ (Or.inl (by rfl)) (.bool true) (by rfl) ?_
      refine fl_mv 50 (by rfl) (by decide) (wanted_if hops 2 true (by rfl) 49 (by rfl) true (by rfl)) (by rw [hK.out]; rfl) (by rfl) _ (Or.inl (by rfl)) (vf) (by rfl) ?_
      refine fl_op1 51 (by rfl) (by decide) (wanted_if hops 2 true (by rfl) 49 (by rfl) true (by rfl)) (by rw [hK.out]; rfl) (by rfl) (.tmp 50) (vf) (by rfl) (.string ⟨(frame l).toArray⟩) (fun ρ h1 kk w1 (hg : Grow _ w1) hb hf => by have cv := conv_is w1 (hF.below hg); go_simp) ?_
      refine fl_mv 52 (by rfl) (by decide) (wanted_if hops 2 true (by rfl) 49 (by rfl) true (by rfl)) (by rw [hK.out]; rfl) (by rfl) _ (Or.inl (by rfl)) (.slice A1 n1 c1) (by rfl) ?_
      refine fl_callAny 53 (by rfl) (by decide) (wanted_if hops 2 true (by rfl) 49 (by rfl) true (by rfl)) (fun _ => IsBytes (frame l)) (by rw [hK.out]; rfl) 11 _ _ (by rfl) [.slice A1 n1 c1] (by rfl) k11 (fun kk w1 (hg : Grow _ w1) hb hf => calls_behindAny (φ := fun _ => IsBytes (frame l)) (by rfl) (by exact rFrame_is hRw hg (by omega))) (fun v53 => ?_)
      refine fl_op1 54 (by rfl) (by decide) (wanted_if hops 2 true (by rfl) 49 (by rfl) true (by rfl)) (by rw [hK.out]; rfl) (by rfl) (.tmp 53) (v53) (by rfl) (.string ⟨(frame l).toArray⟩) (fun ρ h1 kk w1 (hg : Grow _ w1) hb hf => by have cv := conv_is w1 (facts_take hf (by rw [hA'.out]; kernel_rfl)); go_simp) ?_
      refine fl_op2 55 (by rfl) (by decide) (wanted_if hops 2 true (by rfl) 49 (by rfl) true (by rfl)) (by rw [hK.out]; rfl) (by rfl) (.tmp 51) (.tmp 54) (.string ⟨(frame l).toArray⟩) (.string ⟨(frame l).toArray⟩) (by rfl) (by rfl) (.bool true) (fun ρ h1 h2 kk w1 (hg : Grow _ w1) hb hf => by go_simp) ?_
      refine fl_pick 56 (by rfl) (by decide) (wanted_none (by rfl)) (by rw [hK.out]; rfl) (by rfl) _ _ _ (by rfl) true (by rfl) (.bool true) (by rfl) ?_
      refine fl_mv 57 (by rfl) (by decide) (wanted_none (by rfl)) (by rw [hK.out]; rfl) (by rfl) _ (Or.inl (by rfl)) (.bool true) (by rfl) ?_
      refine fl_mv 58 (by rfl) (by decide) (wanted_if hops 10 true (by rfl) 57 (by rfl) true (by rfl)) (by rw [hK.out]; rfl) (by rfl) _ (Or.inl (by rfl)) (.slice Ab b.length cb) (by rfl) ?_
      refine fl_call 59 (by rfl) (by decide) (wanted_if hops 10 true (by rfl) 57 (by rfl) true (by rfl)) (.bool true) (by rw [hK.out]; rfl) 9 _ _ (by rfl) [.slice Ab b.length cb] (by rfl) k9 (fun kk w1 (hg : Grow _ w1) hb hf => calls_behind (by rfl) (by exact reads_is (hIb.below hg) (by omega))) ?_
      refine fl_pick 60 (by rfl) (by decide) (wanted_none (by rfl)) (by rw [hK.out]; rfl) (by rfl) _ _ _ (by rfl) true (by rfl) (.bool true) (by rfl) ?_
      refine fl_mv 61 (by rfl) (by decide) (wanted_none (by rfl)) (by rw [hK.out]; rfl) (by rfl) _ (Or.inl (by rfl)) (.bool true) (by rfl) ?_
      refine fl_mv 62 (by rfl) (by decide) (wanted_if hops 14 true (by rfl) 61 (by rfl) true (by rfl)) (by rw [hK.out]; rfl) (by rfl) _ (Or.inl (by rfl)) (v2) (by rfl) ?_
      refine fl_call 63 (by rfl) (by decide) (wanted_if hops 14 true (by rfl) 61 (by rfl) true (by rfl)) (.bool true) (by rw [hK.out]; rfl) 9 _ _ (by rfl) [v2] (by rfl) k9 (fun kk w1 (hg : Grow _ w1) hb hf => calls_behind (by rfl) (by exact reads_is (hIx.below hg) (by omega))) ?_
      refine fl_pick 64 (by rfl) (by decide) (wanted_none (by rfl)) (by rw [hK.out]; rfl) (by rfl) _ _ _ (by rfl) true (by rfl) (.bool true) (by rfl) ?_
      refine fl_mv 65 (by rfl) (by decide) (wanted_none (by rfl)) (by rw [hK.out]; rfl) (by rfl) _ (Or.inl (by rfl)) (.bool true) (by rfl) ?_
      refine fl_mv 66 (by rfl) (by decide) (wanted_if hops 18 true (by rfl) 65 (by rfl) true (by rfl)) (by rw [hK.out]; rfl) (by rfl) _ (Or.inl (by rfl)) (.slice A1 n1 c1) (by rfl) ?_
      refine fl_call 67 (by rfl) (by decide) (wanted_if hops 18 true (by rfl) 65 (by rfl) true (by rfl)) (.bool true) (by rw [hK.out]; rfl) 9 _ _ (by rfl) [.slice A1 n1 c1] (by rfl) k9 (fun kk w1 (hg : Grow _ w1) hb hf => calls_behind (by rfl) (by exact reads_is (l := l) ⟨_, _, _, rfl, Reads.more (Reads.below hRw hg) hg.size, by omega, hcm⟩ (by have := hRw.len; omega))) ?_
      refine fl_pick 68 (by rfl) (by decide) (wanted_none (by rfl)) (by rw [hK.out]; rfl) (by rfl) _ _ _ (by rfl) true (by rfl) (.bool true) (by rfl) ?_
      refine fl_mv 69 (by rfl) (by decide) (wanted_none (by rfl)) (by rw [hK.out]; rfl) (by rfl) _ (Or.inl (by rfl)) (.bool true) (by rfl) ?_
      refine fl_mv 70 (by rfl) (by decide) (wanted_if hops 22 true (by rfl) 69 (by rfl) true (by rfl)) (by rw [hK.out]; rfl) (by rfl) _ (Or.inl (by rfl)) (.slice Ab b.length cb) (by rfl) ?_
      refine fl_mv 71 (by rfl) (by decide) (wanted_if hops 22 true (by rfl) 69 (by rfl) true (by rfl)) (by rw [hK.out]; rfl) (by rfl) _ (Or.inl (by rfl)) (.int .i64 (k : Int)) (by rfl) ?_
      refine fl_mv 72 (by rfl) (by decide) (wanted_if hops 22 true (by rfl) 69 (by rfl) true (by rfl)) (by rw [hK.out]; rfl) (by rfl) _ (Or.inl (by rfl)) (.int .i64 (k : Int)) (by rfl) ?_
      refine fl_op3 73 (by rfl) (by decide) (wanted_if hops 22 true (by rfl) 69 (by rfl) true (by rfl)) (by rw [hK.out]; rfl) (by rfl) (.tmp 70) (.tmp 71) (.tmp 72) (.slice Ab b.length cb) (.int .i64 (k : Int)) (.int .i64 (k : Int)) (by rfl) (by rfl) (by rfl) (.slice Ab k k) (fun ρ h1 h2 h3 kk w1 (hg : Grow _ w1) hb hf => by go_simp) ?_
      refine fl_mv 74 (by rfl) (by decide) (wanted_if hops 22 true (by rfl) 69 (by rfl) true (by rfl)) (by rw [hK.out]; rfl) (by rfl) _ (Or.inl (by rfl)) (.slice A1 n1 c1) (by rfl) ?_
      refine fl_any2 75 (by rfl) (by decide) (wanted_if hops 22 true (by rfl) 69 (by rfl) true (by rfl)) (fun _ => IsBytes (b.take k ++ l)) (by rw [hK.out]; rfl) (.tmp 73) (.tmp 74) (.slice Ab k k) (.slice A1 n1 c1) (by rfl) (by rfl) (fun ρ h1 h2 kk w1 (hg : Grow _ w1) hb hf => by refine upon_behindAny (φ := fun _ => IsBytes (b.take k ++ l)) (by rfl) ?_; exact flow_app_full rfl h1 h2 (Reads.below hTk hg) hg.size (Reads.below hRw hg) (by omega)) (fun v75 => ?_)
      refine fl_call 76 (by rfl) (by decide) (wanted_if hops 22 true (by rfl) 69 (by rfl) true (by rfl)) (.bool true) (by rw [hK.out]; rfl) 9 _ _ (by rfl) [v75] (by rfl) k9 (fun kk w1 (hg : Grow _ w1) hb hf => calls_behind (by rfl) (by exact reads_is (facts_take hf (by rw [hA'.out]; kernel_rfl)) (by rw [List.length_append, List.length_take]; have := hRw.len; omega))) ?_
      refine fl_pick 77 (by rfl) (by decide) (wanted_none (by rfl)) (by rw [hK.out]; rfl) (by rfl) _ _ _ (by rfl) true (by rfl) (.bool true) (by rfl) ?_
      refine fl_mv 78 (by rfl) (by decide) (wanted_none (by rfl)) (by rw [hK.out]; rfl) (by rfl) _ (Or.inl (by rfl)) (.bool true) (by rfl) ?_
      refine fl_call 79 (by rfl) (by decide) (wanted_if hops 31 true (by rfl) 78 (by rfl) true (by rfl)) (.bool true) (by rw [hK.out]; rfl) 12 _ _ (by rfl) [] (by rfl) k12 (fun kk w1 (hg : Grow _ w1) hb hf => calls_behind (by rfl) (by exact known_any w1)) ?_
      refine fl_pick 80 (by rfl) (by decide) (wanted_none (by rfl)) (by rw [hK.out]; rfl) (by rfl) _ _ _ (by rfl) true (by rfl) (.bool true) (by rfl) ?_
      refine fl_mv 8 (by rfl) (by decide) (wanted_none (by rfl)) (by rw [hK.out]; rfl) (by rfl) _ (Or.inr (by rfl)) (.bool true) (by rfl) ?_
      refine fl_end (fun _ _ w1 (hg : Grow _ w1) _ hfacts => hT _ _ ?_)
      clear hops hA' hK hT
      simp only [putsL, Act.put, List.setIfInBounds_toArray, List.set_cons_zero, List.set_cons_succ, List.drop_succ_cons, List.drop_zero]
      go_wp2_with fail
      go_ret
      exact ⟨rfl, (hgx.trans hgf).trans hg⟩
end Go.Proofs.Ytocpepknlnghkaa
